/- What slotmeshref17_one (function 47) computes, as a Lean function, and that its call comes to just that; made by a program of this session in the manner of the print. -/
import Derived.Test.YtcgbfkplhlngjaaT0
import Derived.Test.YtcgbfkplhlngjaaF24
import Derived.Test.YtcgbfkplhlngjaaF54
import Derived.Test.YtcgbfkplhlngjaaMedC
import Derived.Test.YtcgbfkplhlngjaaF22
namespace Go.Proofs.Ytcgbfkplhlngjaa.PA
open Go.RowKit Go.Shelf Go.Proofs.YtcgbfkplhlngjaaW.PrintWords Go.Proofs.YtcgbfkplhlngjaaW.PrintLast Go.Proofs.YtcgbfkplhlngjaaW.PrintMore
set_option linter.unusedVariables false
set_option linter.unusedSimpArgs false
attribute [local go_sem] Oper.semAt_some

def hear2B (y z : S50) (p q : S25) (r : Int) : Bool := decide (y.f0 = 2) && decide (z.f0 = 1) && decide (y.f1 = z.f1) && nearB p q r
/-- Both indices lie in both lists. -/
def inB (n0 n1 : Nat) (a b : Int) : Bool := decide (0 ≤ a) && decide (a < n0) && decide (a < n1) && decide (0 ≤ b) && decide (b < n0) && decide (b < n1)
def slotmeshref17_Heard.f (l0 : List (S50)) (l1 : List (S25)) (a2 : Int) (a3 : Int) (a4 : Int) : Option (Bool) := if inB l0.length l1.length a3 a4 = true then some (hear2B (rd_T50 l0 a3) (rd_T50 l0 a4) (rd_T25 l1 a3) (rd_T25 l1 a4) a2) else none

set_option maxRecDepth 100000 in
set_option maxHeartbeats 4000000 in
theorem slotmeshref17_Heard.calls (A0 : Option Addr) (c0 : Nat) (l0 : List (S50)) (A1 : Option Addr) (c1 : Nat) (l1 : List (S25)) (a2 : Int) (a3 : Int) (a4 : Int) (r : Bool) (w : World) (hr0 : Kd.C k50 w A0 l0.length l0) (hc0 : l0.length ≤ c0) (hr1 : Kd.C k25 w A1 l1.length l1) (hc1 : l1.length ≤ c1) (h : slotmeshref17_Heard.f l0 l1 a2 a3 a4 = some r) :
    Calls Try.prog 53 #[.slice A0 l0.length c0, .slice A1 l1.length c1, .int .i64 a2, .int .i64 a3, .int .i64 a4] w fun e w' => e = .returned (.bool r) ∧ Below w.heap.size w w' := by
  unfold slotmeshref17_Heard.f at h
  by_cases hin : inB l0.length l1.length a3 a4 = true
  · rw [if_pos hin] at h
    obtain rfl := Option.some.inj h
    clear h
    simp only [inB, Bool.and_eq_true, decide_eq_true_eq] at hin
    obtain ⟨⟨⟨⟨⟨h30, h3a⟩, h3b⟩, h40⟩, h4a⟩, h4b⟩ := hin
    obtain ⟨ad, e, x0, x1, x2, x3, x4⟩ := at_T50 hr0 a3 h30 h3a
    subst e
    obtain ⟨_, e, y0, y1, y2, y3, y4⟩ := at_T50 hr0 a4 h40 h4a
    cases e
    obtain ⟨bd, e, p0, p1⟩ := at_T25 hr1 a3 h30 h3b
    subst e
    obtain ⟨_, e, q0, q1⟩ := at_T25 hr1 a4 h40 h4b
    cases e
    clear hr0 hr1 hc0 hc1
    generalize rd_T50 l0 a3 = y at *
    generalize rd_T50 l0 a4 = z at *
    generalize rd_T25 l1 a3 = p at *
    generalize rd_T25 l1 a4 = q at *
    have hnear := fun w => rnear_any p q a2 w
    have e1 := World.size_alloc (w := w) (o := .cells #[.int .i64 y.f0, .int .i64 y.f1, .int .i64 y.f2, .int .i64 y.f3.f0, .int .i64 y.f3.f1] 50)
    have n1 := World.alloc_heap_new w (.cells #[.int .i64 y.f0, .int .i64 y.f1, .int .i64 y.f2, .int .i64 y.f3.f0, .int .i64 y.f3.f1] 50)
    have n1' : (((w.alloc (.cells #[.int .i64 y.f0, .int .i64 y.f1, .int .i64 y.f2, .int .i64 y.f3.f0, .int .i64 y.f3.f1] 50)).alloc (.cells #[.int .i64 z.f0, .int .i64 z.f1, .int .i64 z.f2, .int .i64 z.f3.f0, .int .i64 z.f3.f1] 50))).heap[w.heap.size]? = some (.cells #[.int .i64 y.f0, .int .i64 y.f1, .int .i64 y.f2, .int .i64 y.f3.f0, .int .i64 y.f3.f1] 50) := (Below.heap_alloc _ _ _ (by rw [e1]; omega)).trans n1
    have n2 := World.alloc_heap_new (w.alloc (.cells #[.int .i64 y.f0, .int .i64 y.f1, .int .i64 y.f2, .int .i64 y.f3.f0, .int .i64 y.f3.f1] 50)) (.cells #[.int .i64 z.f0, .int .i64 z.f1, .int .i64 z.f2, .int .i64 z.f3.f0, .int .i64 z.f3.f1] 50)
    rw [e1] at n2
    have hB := below_alloc (Below.refl w.heap.size w) (.cells #[.int .i64 y.f0, .int .i64 y.f1, .int .i64 y.f2, .int .i64 y.f3.f0, .int .i64 y.f3.f1] 50)
    have hB2 := below_alloc hB (.cells #[.int .i64 z.f0, .int .i64 z.f1, .int .i64 z.f2, .int .i64 z.f3.f0, .int .i64 z.f3.f1] 50)
    have yy0 := pw_cell_below hB y0
    have yy1 := pw_cell_below hB y1
    have yy2 := pw_cell_below hB y2
    have yy3 := pw_cell_below hB y3
    have yy4 := pw_cell_below hB y4
    have b0 : (((w.alloc (.cells #[.int .i64 y.f0, .int .i64 y.f1, .int .i64 y.f2, .int .i64 y.f3.f0, .int .i64 y.f3.f1] 50)).alloc (.cells #[.int .i64 z.f0, .int .i64 z.f1, .int .i64 z.f2, .int .i64 z.f3.f0, .int .i64 z.f3.f1] 50))).cell? ⟨w.heap.size, 0, none⟩ = some (.int .i64 y.f0) := cellOf n1' rfl
    have b1 : (((w.alloc (.cells #[.int .i64 y.f0, .int .i64 y.f1, .int .i64 y.f2, .int .i64 y.f3.f0, .int .i64 y.f3.f1] 50)).alloc (.cells #[.int .i64 z.f0, .int .i64 z.f1, .int .i64 z.f2, .int .i64 z.f3.f0, .int .i64 z.f3.f1] 50))).cell? ⟨w.heap.size, 1, none⟩ = some (.int .i64 y.f1) := cellOf n1' rfl
    have d0 : (((w.alloc (.cells #[.int .i64 y.f0, .int .i64 y.f1, .int .i64 y.f2, .int .i64 y.f3.f0, .int .i64 y.f3.f1] 50)).alloc (.cells #[.int .i64 z.f0, .int .i64 z.f1, .int .i64 z.f2, .int .i64 z.f3.f0, .int .i64 z.f3.f1] 50))).cell? ⟨w.heap.size + 1, 0, none⟩ = some (.int .i64 z.f0) := cellOf n2 rfl
    have d1 : (((w.alloc (.cells #[.int .i64 y.f0, .int .i64 y.f1, .int .i64 y.f2, .int .i64 y.f3.f0, .int .i64 y.f3.f1] 50)).alloc (.cells #[.int .i64 z.f0, .int .i64 z.f1, .int .i64 z.f2, .int .i64 z.f3.f0, .int .i64 z.f3.f1] 50))).cell? ⟨w.heap.size + 1, 1, none⟩ = some (.int .i64 z.f1) := cellOf n2 rfl
    have r0 := pw_cell_below hB2 p0
    have r1 := pw_cell_below hB2 p1
    have t0 := pw_cell_below hB2 q0
    have t1 := pw_cell_below hB2 q1
    have HB2 := Aside0.mk hB2
    clear hB hB2 n1 n1' n2 e1
    by_cases g1 : y.f0 = 2
    · have H1 : (y.f0 == 2) = true := by simp [g1]
      by_cases g2 : z.f0 = 1
      · have H2 : (z.f0 == 1) = true := by simp [g2]
        by_cases g3 : y.f1 = z.f1
        · have H3 : (y.f1 == z.f1) = true := by simp [g3]
          have e : hear2B y z p q a2 = nearB p q a2 := by simp [hear2B, g1, g2, g3]
          rw [e]
          clear e g1 g2 g3
          generalize nearB p q a2 = b at hnear ⊢
          go_enter Try.func53, Try.ntmps53
          go_upto_region 3 with (fail)
          go_region_held3 (fun w' => w'.cell? ⟨w.heap.size, 0, none⟩ = some (.int .i64 y.f0) ∧ w'.cell? ⟨w.heap.size, 1, none⟩ = some (.int .i64 y.f1) ∧ w'.cell? ⟨w.heap.size + 1, 0, none⟩ = some (.int .i64 z.f0) ∧ w'.cell? ⟨w.heap.size + 1, 1, none⟩ = some (.int .i64 z.f1) ∧ w'.cell? (bd.add (a3.toNat * 2)) = some (.int .i64 p.f0) ∧ w'.cell? ⟨(bd.add (a3.toNat * 2)).block, (bd.add (a3.toNat * 2)).off + 1, none⟩ = some (.int .i64 p.f1) ∧ w'.cell? (bd.add (a4.toNat * 2)) = some (.int .i64 q.f0) ∧ w'.cell? ⟨(bd.add (a4.toNat * 2)).block, (bd.add (a4.toNat * 2)).off + 1, none⟩ = some (.int .i64 q.f1)) (first | go_keep | (refine ⟨?_, ?_, ?_, ?_, ?_, ?_, ?_, ?_⟩ <;> (refine pw_cell_below (by assumption) ?_; assumption))) (first | (go_at_call 22; refine (hnear _).mono ?_; rintro e w' ⟨rfl, hb⟩))
          have BN := Aside0.mk (HB2.out.trans (((Below.refl _ _).drew.trans hb).mono HB2.out.size))
          clear hb
          go_wp2
          go_ret
          exact ⟨rfl, BN.out⟩
        · have H3 : (y.f1 == z.f1) = false := by simp [g3]
          have e : hear2B y z p q a2 = false := by simp [hear2B, g3]
          rw [e]
          clear e g1 g2 g3 hnear
          go_enter Try.func53, Try.ntmps53
          go_upto_region 3 with (fail)
          refine (wpIn_wide (n := 5)).1 ?_
          refine startF (fun w' => w'.cell? ⟨w.heap.size, 0, none⟩ = some (.int .i64 y.f0) ∧ w'.cell? ⟨w.heap.size, 1, none⟩ = some (.int .i64 y.f1) ∧ w'.cell? ⟨w.heap.size + 1, 0, none⟩ = some (.int .i64 z.f0) ∧ w'.cell? ⟨w.heap.size + 1, 1, none⟩ = some (.int .i64 z.f1) ∧ w'.cell? (bd.add (a3.toNat * 2)) = some (.int .i64 p.f0) ∧ w'.cell? ⟨(bd.add (a3.toNat * 2)).block, (bd.add (a3.toNat * 2)).off + 1, none⟩ = some (.int .i64 p.f1) ∧ w'.cell? (bd.add (a4.toNat * 2)) = some (.int .i64 q.f0) ∧ w'.cell? ⟨(bd.add (a4.toNat * 2)).block, (bd.add (a4.toNat * 2)).off + 1, none⟩ = some (.int .i64 q.f1)) [] #[false, false, false, false, false, false, false, false, false, false, false, false, false, false, false, false, false, false, false, false, false, false, false, false, false, false, false, false] 28 (by kernel_rfl) (by kernel_rfl) ⟨b0, b1, d0, d1, r0, r1, t0, t1⟩ (fun hHeld => ?_)
          refine takeF (v := ?_) 0 (some 21) #[true, false, false, false, false, false, false, false, false, false, false, false, false, false, false, false, false, false, false, false, false, false, false, false, false, false, false, false] ?_ rfl rfl (by kernel_rfl) (fun _ _ _ h => h) ⟨Or.inl ⟨by rfl, ?_⟩, fun _ _ _ => trivial⟩ ?_ hHeld ?_
          rotate_left 2
          · (rintro w' ⟨s0, s1, s2, s3, s4, s5, s6, s7⟩; go_simp; with_reducible rfl)
          · (simp only [Act.put, List.setIfInBounds_toArray, List.set_cons_zero, List.set_cons_succ]; rfl)
          refine takeF (v := ?_) 1 (some 22) #[true, true, false, false, false, false, false, false, false, false, false, false, false, false, false, false, false, false, false, false, false, false, false, false, false, false, false, false] ?_ rfl rfl (by kernel_rfl) (fun _ _ _ h => h) ⟨Or.inl ⟨by rfl, ?_⟩, fun _ _ _ => trivial⟩ ?_ hHeld ?_
          rotate_left 2
          · (rintro w' ⟨s0, s1, s2, s3, s4, s5, s6, s7⟩; go_simp; with_reducible rfl)
          · (simp only [Act.put, List.setIfInBounds_toArray, List.set_cons_zero, List.set_cons_succ]; rfl)
          refine takeF (v := ?_) 2 (some 23) #[true, true, true, false, false, false, false, false, false, false, false, false, false, false, false, false, false, false, false, false, false, false, false, false, false, false, false, false] ?_ rfl rfl (by kernel_rfl) (fun _ _ _ h => h) ⟨Or.inl ⟨by rfl, ?_⟩, fun _ _ _ => trivial⟩ ?_ hHeld ?_
          rotate_left 2
          · (rintro w' ⟨s0, s1, s2, s3, s4, s5, s6, s7⟩; go_simp; with_reducible rfl)
          · (simp only [Act.put, List.setIfInBounds_toArray, List.set_cons_zero, List.set_cons_succ]; rfl)
          refine takeF (v := ?_) 3 (some 24) #[true, true, true, true, false, false, false, false, false, false, false, false, false, false, false, false, false, false, false, false, false, false, false, false, false, false, false, false] ?_ rfl rfl (by kernel_rfl) (fun _ _ _ h => h) ⟨Or.inl ⟨by rfl, ?_⟩, fun _ _ _ => trivial⟩ ?_ hHeld ?_
          rotate_left 2
          · (rintro w' ⟨s0, s1, s2, s3, s4, s5, s6, s7⟩; go_simp; with_reducible rfl)
          · (simp only [Act.put, List.setIfInBounds_toArray, List.set_cons_zero, List.set_cons_succ]; rfl)
          refine takeF (v := ?_) 4 (some 25) #[true, true, true, true, true, false, false, false, false, false, false, false, false, false, false, false, false, false, false, false, false, false, false, false, false, false, false, false] ?_ rfl rfl (by kernel_rfl) (fun _ _ _ h => h) ⟨Or.inl ⟨by rfl, ?_⟩, fun _ _ _ => trivial⟩ ?_ hHeld ?_
          rotate_left 2
          · (rintro w' ⟨s0, s1, s2, s3, s4, s5, s6, s7⟩; go_simp; with_reducible rfl)
          · (simp only [Act.put, List.setIfInBounds_toArray, List.set_cons_zero, List.set_cons_succ]; rfl)
          refine takeF (v := ?_) 5 (some 26) #[true, true, true, true, true, true, false, false, false, false, false, false, false, false, false, false, false, false, false, false, false, false, false, false, false, false, false, false] ?_ rfl rfl (by kernel_rfl) (fun _ _ _ h => h) ⟨Or.inl ⟨by rfl, ?_⟩, fun _ _ _ => trivial⟩ ?_ hHeld ?_
          rotate_left 2
          · (rintro w' ⟨s0, s1, s2, s3, s4, s5, s6, s7⟩; go_simp; with_reducible rfl)
          · (simp only [Act.put, List.setIfInBounds_toArray, List.set_cons_zero, List.set_cons_succ]; rfl)
          refine takeF (v := ?_) 6 (some 27) #[true, true, true, true, true, true, true, false, false, false, false, false, false, false, false, false, false, false, false, false, false, false, false, false, false, false, false, false] ?_ rfl rfl (by kernel_rfl) (fun _ _ _ h => h) ⟨Or.inl ⟨by rfl, ?_⟩, fun _ _ _ => trivial⟩ ?_ hHeld ?_
          rotate_left 2
          · (rintro w' ⟨s0, s1, s2, s3, s4, s5, s6, s7⟩; go_simp; with_reducible rfl)
          · (simp only [Act.put, List.setIfInBounds_toArray, List.set_cons_zero, List.set_cons_succ]; rfl)
          refine takeF (v := ?_) 7 (some 28) #[true, true, true, true, true, true, true, true, false, false, false, false, false, false, false, false, false, false, false, false, false, false, false, false, false, false, false, false] ?_ rfl rfl (by kernel_rfl) (fun _ _ _ h => h) ⟨Or.inl ⟨by rfl, ?_⟩, fun _ _ _ => trivial⟩ ?_ hHeld ?_
          rotate_left 2
          · (rintro w' ⟨s0, s1, s2, s3, s4, s5, s6, s7⟩; go_simp; with_reducible rfl)
          · (simp only [Act.put, List.setIfInBounds_toArray, List.set_cons_zero, List.set_cons_succ]; rfl)
          refine takeF (v := ?_) 8 (some 29) #[true, true, true, true, true, true, true, true, true, false, false, false, false, false, false, false, false, false, false, false, false, false, false, false, false, false, false, false] ?_ rfl rfl (by kernel_rfl) (fun _ _ _ h => h) ⟨Or.inl ⟨by rfl, ?_⟩, fun _ _ _ => trivial⟩ ?_ hHeld ?_
          rotate_left 2
          · (rintro w' ⟨s0, s1, s2, s3, s4, s5, s6, s7⟩; go_simp; with_reducible rfl)
          · (simp only [Act.put, List.setIfInBounds_toArray, List.set_cons_zero, List.set_cons_succ]; rfl)
          refine takeF (v := ?_) 9 (some 30) #[true, true, true, true, true, true, true, true, true, true, false, false, false, false, false, false, false, false, false, false, false, false, false, false, false, false, false, false] ?_ rfl rfl (by kernel_rfl) (fun _ _ _ h => h) ⟨Or.inl ⟨by rfl, ?_⟩, fun _ _ _ => trivial⟩ ?_ hHeld ?_
          rotate_left 2
          · (rintro w' ⟨s0, s1, s2, s3, s4, s5, s6, s7⟩; go_simp; with_reducible rfl)
          · (simp only [Act.put, List.setIfInBounds_toArray, List.set_cons_zero, List.set_cons_succ]; rfl)
          refine takeF (v := ?_) 10 (some 31) #[true, true, true, true, true, true, true, true, true, true, true, false, false, false, false, false, false, false, false, false, false, false, false, false, false, false, false, false] ?_ rfl rfl (by kernel_rfl) (fun _ _ _ h => h) ⟨Or.inl ⟨by rfl, ?_⟩, fun _ _ _ => trivial⟩ ?_ hHeld ?_
          rotate_left 2
          · (rintro w' ⟨s0, s1, s2, s3, s4, s5, s6, s7⟩; go_simp; with_reducible rfl)
          · (simp only [Act.put, List.setIfInBounds_toArray, List.set_cons_zero, List.set_cons_succ]; rfl)
          refine takeF (v := ?_) 11 (some 32) #[true, true, true, true, true, true, true, true, true, true, true, true, false, false, false, false, false, false, false, false, false, false, false, false, false, false, false, false] ?_ rfl rfl (by kernel_rfl) (fun _ _ _ h => h) ⟨Or.inl ⟨by rfl, ?_⟩, fun _ _ _ => trivial⟩ ?_ hHeld ?_
          rotate_left 2
          · (rintro w' ⟨s0, s1, s2, s3, s4, s5, s6, s7⟩; go_simp; with_reducible rfl)
          · (simp only [Act.put, List.setIfInBounds_toArray, List.set_cons_zero, List.set_cons_succ]; rfl)
          refine takeF (v := ?_) 12 (some 33) #[true, true, true, true, true, true, true, true, true, true, true, true, true, false, false, false, false, false, false, false, false, false, false, false, false, false, false, false] ?_ rfl rfl (by kernel_rfl) (fun _ _ _ h => h) ⟨Or.inl ⟨by rfl, ?_⟩, fun _ _ _ => trivial⟩ ?_ hHeld ?_
          rotate_left 2
          · (rintro w' ⟨s0, s1, s2, s3, s4, s5, s6, s7⟩; go_simp; with_reducible rfl)
          · (simp only [Act.put, List.setIfInBounds_toArray, List.set_cons_zero, List.set_cons_succ]; rfl)
          refine takeF (v := ?_) 13 (some 34) #[true, true, true, true, true, true, true, true, true, true, true, true, true, true, false, false, false, false, false, false, false, false, false, false, false, false, false, false] ?_ rfl rfl (by kernel_rfl) (fun _ _ _ h => h) ⟨Or.inl ⟨by rfl, ?_⟩, fun _ _ _ => trivial⟩ ?_ hHeld ?_
          rotate_left 2
          · (rintro w' ⟨s0, s1, s2, s3, s4, s5, s6, s7⟩; go_simp; with_reducible rfl)
          · (simp only [Act.put, List.setIfInBounds_toArray, List.set_cons_zero, List.set_cons_succ]; rfl)
          refine takeF (v := ?_) 14 (some 35) #[true, true, true, true, true, true, true, true, true, true, true, true, true, true, true, false, false, false, false, false, false, false, false, false, false, false, false, false] ?_ rfl rfl (by kernel_rfl) (fun _ _ _ h => h) ⟨Or.inl ⟨by rfl, ?_⟩, fun _ _ _ => trivial⟩ ?_ hHeld ?_
          rotate_left 2
          · (rintro w' ⟨s0, s1, s2, s3, s4, s5, s6, s7⟩; go_simp; with_reducible rfl)
          · (simp only [Act.put, List.setIfInBounds_toArray, List.set_cons_zero, List.set_cons_succ]; rfl)
          refine takeF (v := ?_) 15 (some 36) #[true, true, true, true, true, true, true, true, true, true, true, true, true, true, true, true, false, false, false, false, false, false, false, false, false, false, false, false] ?_ rfl rfl (by kernel_rfl) (fun _ _ _ h => h) ⟨Or.inl ⟨by rfl, ?_⟩, fun _ _ _ => trivial⟩ ?_ hHeld ?_
          rotate_left 2
          · (rintro w' ⟨s0, s1, s2, s3, s4, s5, s6, s7⟩; go_simp; with_reducible rfl)
          · (simp only [Act.put, List.setIfInBounds_toArray, List.set_cons_zero, List.set_cons_succ]; rfl)
          refine pureF (v := undef) 16 (some 37) #[true, true, true, true, true, true, true, true, true, true, true, true, true, true, true, true, true, false, false, false, false, false, false, false, false, false, false, false] ?_ rfl rfl (by kernel_rfl) (fun _ _ _ h => h) ⟨Or.inr ⟨by rfl, rfl⟩, fun _ _ _ => trivial⟩ ?_ ?_
          rotate_left 1
          · (simp only [Act.put, List.setIfInBounds_toArray, List.set_cons_zero, List.set_cons_succ]; rfl)
          refine pureF (v := undef) 17 (some 38) #[true, true, true, true, true, true, true, true, true, true, true, true, true, true, true, true, true, true, false, false, false, false, false, false, false, false, false, false] ?_ rfl rfl (by kernel_rfl) (fun _ _ _ h => h) ⟨Or.inr ⟨by rfl, rfl⟩, fun _ _ _ => trivial⟩ ?_ ?_
          rotate_left 1
          · (simp only [Act.put, List.setIfInBounds_toArray, List.set_cons_zero, List.set_cons_succ]; rfl)
          refine pureF (v := undef) 18 (some 39) #[true, true, true, true, true, true, true, true, true, true, true, true, true, true, true, true, true, true, true, false, false, false, false, false, false, false, false, false] ?_ rfl rfl (by kernel_rfl) (fun _ _ _ h => h) ⟨Or.inr ⟨by rfl, rfl⟩, fun _ _ _ => trivial⟩ ?_ ?_
          rotate_left 1
          · (simp only [Act.put, List.setIfInBounds_toArray, List.set_cons_zero, List.set_cons_succ]; rfl)
          refine pureF (v := undef) 19 (some 40) #[true, true, true, true, true, true, true, true, true, true, true, true, true, true, true, true, true, true, true, true, false, false, false, false, false, false, false, false] ?_ rfl rfl (by kernel_rfl) (fun _ _ _ h => h) ⟨Or.inr ⟨by rfl, rfl⟩, fun _ _ _ => trivial⟩ ?_ ?_
          rotate_left 1
          · (simp only [Act.put, List.setIfInBounds_toArray, List.set_cons_zero, List.set_cons_succ]; rfl)
          refine pureF (v := undef) 20 (some 41) #[true, true, true, true, true, true, true, true, true, true, true, true, true, true, true, true, true, true, true, true, true, false, false, false, false, false, false, false] ?_ rfl rfl (by kernel_rfl) (fun _ _ _ h => h) ⟨Or.inr ⟨by rfl, rfl⟩, fun _ _ _ => trivial⟩ ?_ ?_
          rotate_left 1
          · (simp only [Act.put, List.setIfInBounds_toArray, List.set_cons_zero, List.set_cons_succ]; rfl)
          refine pureF (v := undef) 21 (some 42) #[true, true, true, true, true, true, true, true, true, true, true, true, true, true, true, true, true, true, true, true, true, true, false, false, false, false, false, false] ?_ rfl rfl (by kernel_rfl) (fun _ _ _ h => h) ⟨Or.inr ⟨by rfl, rfl⟩, fun _ _ _ => trivial⟩ ?_ ?_
          rotate_left 1
          · (simp only [Act.put, List.setIfInBounds_toArray, List.set_cons_zero, List.set_cons_succ]; rfl)
          refine pureF (v := undef) 22 (some 43) #[true, true, true, true, true, true, true, true, true, true, true, true, true, true, true, true, true, true, true, true, true, true, true, false, false, false, false, false] ?_ rfl rfl (by kernel_rfl) (fun _ _ _ h => h) ⟨Or.inr ⟨by rfl, rfl⟩, fun _ _ _ => trivial⟩ ?_ ?_
          rotate_left 1
          · (simp only [Act.put, List.setIfInBounds_toArray, List.set_cons_zero, List.set_cons_succ]; rfl)
          refine pureF (v := undef) 23 (some 44) #[true, true, true, true, true, true, true, true, true, true, true, true, true, true, true, true, true, true, true, true, true, true, true, true, false, false, false, false] ?_ rfl rfl (by kernel_rfl) (fun _ _ _ h => h) ⟨Or.inr ⟨by rfl, rfl⟩, fun _ _ _ => trivial⟩ ?_ ?_
          rotate_left 1
          · (simp only [Act.put, List.setIfInBounds_toArray, List.set_cons_zero, List.set_cons_succ]; rfl)
          refine pureF (v := undef) 24 (some 45) #[true, true, true, true, true, true, true, true, true, true, true, true, true, true, true, true, true, true, true, true, true, true, true, true, true, false, false, false] ?_ rfl rfl (by kernel_rfl) (fun _ _ _ h => h) ⟨Or.inr ⟨by rfl, rfl⟩, fun _ _ _ => trivial⟩ ?_ ?_
          rotate_left 1
          · (simp only [Act.put, List.setIfInBounds_toArray, List.set_cons_zero, List.set_cons_succ]; rfl)
          refine pureF (v := undef) 25 (some 46) #[true, true, true, true, true, true, true, true, true, true, true, true, true, true, true, true, true, true, true, true, true, true, true, true, true, true, false, false] ?_ rfl rfl (by kernel_rfl) (fun _ _ _ h => h) ⟨Or.inr ⟨by rfl, rfl⟩, fun _ _ _ => trivial⟩ ?_ ?_
          rotate_left 1
          · (simp only [Act.put, List.setIfInBounds_toArray, List.set_cons_zero, List.set_cons_succ]; rfl)
          refine pureF (v := ?_) 26 (some 47) #[true, true, true, true, true, true, true, true, true, true, true, true, true, true, true, true, true, true, true, true, true, true, true, true, true, true, true, false] ?_ rfl rfl (by kernel_rfl) (fun _ _ _ h => h) ⟨Or.inl ⟨by rfl, ?_⟩, fun _ _ _ => trivial⟩ ?_ ?_
          rotate_left 2
          · (intro w' _; go_simp; with_reducible rfl)
          · (simp only [Act.put, List.setIfInBounds_toArray, List.set_cons_zero, List.set_cons_succ]; rfl)
          refine pureF (v := ?_) 27 (some 10) #[true, true, true, true, true, true, true, true, true, true, true, true, true, true, true, true, true, true, true, true, true, true, true, true, true, true, true, true] ?_ rfl rfl (by kernel_rfl) (fun _ _ _ h => h) ⟨Or.inl ⟨by rfl, ?_⟩, fun _ _ _ => trivial⟩ ?_ ?_
          rotate_left 2
          · (intro w' _; go_simp; with_reducible rfl)
          · (simp only [Act.put, List.setIfInBounds_toArray, List.set_cons_zero, List.set_cons_succ]; rfl)
          clear hHeld
          refine doneF (by kernel_rfl) ?_
          go_wp2
          go_ret
          exact ⟨rfl, below_drew1 HB2.out⟩
      · have H2 : (z.f0 == 1) = false := by simp [g2]
        have e : hear2B y z p q a2 = false := by simp [hear2B, g2]
        rw [e]
        clear e g1 g2 hnear
        go_enter Try.func53, Try.ntmps53
        go_upto_region 3 with (fail)
        refine (wpIn_wide (n := 5)).1 ?_
        refine startF (fun w' => w'.cell? ⟨w.heap.size, 0, none⟩ = some (.int .i64 y.f0) ∧ w'.cell? ⟨w.heap.size, 1, none⟩ = some (.int .i64 y.f1) ∧ w'.cell? ⟨w.heap.size + 1, 0, none⟩ = some (.int .i64 z.f0) ∧ w'.cell? ⟨w.heap.size + 1, 1, none⟩ = some (.int .i64 z.f1) ∧ w'.cell? (bd.add (a3.toNat * 2)) = some (.int .i64 p.f0) ∧ w'.cell? ⟨(bd.add (a3.toNat * 2)).block, (bd.add (a3.toNat * 2)).off + 1, none⟩ = some (.int .i64 p.f1) ∧ w'.cell? (bd.add (a4.toNat * 2)) = some (.int .i64 q.f0) ∧ w'.cell? ⟨(bd.add (a4.toNat * 2)).block, (bd.add (a4.toNat * 2)).off + 1, none⟩ = some (.int .i64 q.f1)) [] #[false, false, false, false, false, false, false, false, false, false, false, false, false, false, false, false, false, false, false, false, false, false, false, false, false, false, false, false] 28 (by kernel_rfl) (by kernel_rfl) ⟨b0, b1, d0, d1, r0, r1, t0, t1⟩ (fun hHeld => ?_)
        refine takeF (v := ?_) 0 (some 21) #[true, false, false, false, false, false, false, false, false, false, false, false, false, false, false, false, false, false, false, false, false, false, false, false, false, false, false, false] ?_ rfl rfl (by kernel_rfl) (fun _ _ _ h => h) ⟨Or.inl ⟨by rfl, ?_⟩, fun _ _ _ => trivial⟩ ?_ hHeld ?_
        rotate_left 2
        · (rintro w' ⟨s0, s1, s2, s3, s4, s5, s6, s7⟩; go_simp; with_reducible rfl)
        · (simp only [Act.put, List.setIfInBounds_toArray, List.set_cons_zero, List.set_cons_succ]; rfl)
        refine takeF (v := ?_) 1 (some 22) #[true, true, false, false, false, false, false, false, false, false, false, false, false, false, false, false, false, false, false, false, false, false, false, false, false, false, false, false] ?_ rfl rfl (by kernel_rfl) (fun _ _ _ h => h) ⟨Or.inl ⟨by rfl, ?_⟩, fun _ _ _ => trivial⟩ ?_ hHeld ?_
        rotate_left 2
        · (rintro w' ⟨s0, s1, s2, s3, s4, s5, s6, s7⟩; go_simp; with_reducible rfl)
        · (simp only [Act.put, List.setIfInBounds_toArray, List.set_cons_zero, List.set_cons_succ]; rfl)
        refine takeF (v := ?_) 2 (some 23) #[true, true, true, false, false, false, false, false, false, false, false, false, false, false, false, false, false, false, false, false, false, false, false, false, false, false, false, false] ?_ rfl rfl (by kernel_rfl) (fun _ _ _ h => h) ⟨Or.inl ⟨by rfl, ?_⟩, fun _ _ _ => trivial⟩ ?_ hHeld ?_
        rotate_left 2
        · (rintro w' ⟨s0, s1, s2, s3, s4, s5, s6, s7⟩; go_simp; with_reducible rfl)
        · (simp only [Act.put, List.setIfInBounds_toArray, List.set_cons_zero, List.set_cons_succ]; rfl)
        refine takeF (v := ?_) 3 (some 24) #[true, true, true, true, false, false, false, false, false, false, false, false, false, false, false, false, false, false, false, false, false, false, false, false, false, false, false, false] ?_ rfl rfl (by kernel_rfl) (fun _ _ _ h => h) ⟨Or.inl ⟨by rfl, ?_⟩, fun _ _ _ => trivial⟩ ?_ hHeld ?_
        rotate_left 2
        · (rintro w' ⟨s0, s1, s2, s3, s4, s5, s6, s7⟩; go_simp; with_reducible rfl)
        · (simp only [Act.put, List.setIfInBounds_toArray, List.set_cons_zero, List.set_cons_succ]; rfl)
        refine takeF (v := ?_) 4 (some 25) #[true, true, true, true, true, false, false, false, false, false, false, false, false, false, false, false, false, false, false, false, false, false, false, false, false, false, false, false] ?_ rfl rfl (by kernel_rfl) (fun _ _ _ h => h) ⟨Or.inl ⟨by rfl, ?_⟩, fun _ _ _ => trivial⟩ ?_ hHeld ?_
        rotate_left 2
        · (rintro w' ⟨s0, s1, s2, s3, s4, s5, s6, s7⟩; go_simp; with_reducible rfl)
        · (simp only [Act.put, List.setIfInBounds_toArray, List.set_cons_zero, List.set_cons_succ]; rfl)
        refine takeF (v := ?_) 5 (some 26) #[true, true, true, true, true, true, false, false, false, false, false, false, false, false, false, false, false, false, false, false, false, false, false, false, false, false, false, false] ?_ rfl rfl (by kernel_rfl) (fun _ _ _ h => h) ⟨Or.inl ⟨by rfl, ?_⟩, fun _ _ _ => trivial⟩ ?_ hHeld ?_
        rotate_left 2
        · (rintro w' ⟨s0, s1, s2, s3, s4, s5, s6, s7⟩; go_simp; with_reducible rfl)
        · (simp only [Act.put, List.setIfInBounds_toArray, List.set_cons_zero, List.set_cons_succ]; rfl)
        refine takeF (v := ?_) 6 (some 27) #[true, true, true, true, true, true, true, false, false, false, false, false, false, false, false, false, false, false, false, false, false, false, false, false, false, false, false, false] ?_ rfl rfl (by kernel_rfl) (fun _ _ _ h => h) ⟨Or.inl ⟨by rfl, ?_⟩, fun _ _ _ => trivial⟩ ?_ hHeld ?_
        rotate_left 2
        · (rintro w' ⟨s0, s1, s2, s3, s4, s5, s6, s7⟩; go_simp; with_reducible rfl)
        · (simp only [Act.put, List.setIfInBounds_toArray, List.set_cons_zero, List.set_cons_succ]; rfl)
        refine takeF (v := ?_) 7 (some 28) #[true, true, true, true, true, true, true, true, false, false, false, false, false, false, false, false, false, false, false, false, false, false, false, false, false, false, false, false] ?_ rfl rfl (by kernel_rfl) (fun _ _ _ h => h) ⟨Or.inl ⟨by rfl, ?_⟩, fun _ _ _ => trivial⟩ ?_ hHeld ?_
        rotate_left 2
        · (rintro w' ⟨s0, s1, s2, s3, s4, s5, s6, s7⟩; go_simp; with_reducible rfl)
        · (simp only [Act.put, List.setIfInBounds_toArray, List.set_cons_zero, List.set_cons_succ]; rfl)
        refine takeF (v := ?_) 8 (some 29) #[true, true, true, true, true, true, true, true, true, false, false, false, false, false, false, false, false, false, false, false, false, false, false, false, false, false, false, false] ?_ rfl rfl (by kernel_rfl) (fun _ _ _ h => h) ⟨Or.inl ⟨by rfl, ?_⟩, fun _ _ _ => trivial⟩ ?_ hHeld ?_
        rotate_left 2
        · (rintro w' ⟨s0, s1, s2, s3, s4, s5, s6, s7⟩; go_simp; with_reducible rfl)
        · (simp only [Act.put, List.setIfInBounds_toArray, List.set_cons_zero, List.set_cons_succ]; rfl)
        refine pureF (v := undef) 9 (some 30) #[true, true, true, true, true, true, true, true, true, true, false, false, false, false, false, false, false, false, false, false, false, false, false, false, false, false, false, false] ?_ rfl rfl (by kernel_rfl) (fun _ _ _ h => h) ⟨Or.inr ⟨by rfl, rfl⟩, fun _ _ _ => trivial⟩ ?_ ?_
        rotate_left 1
        · (simp only [Act.put, List.setIfInBounds_toArray, List.set_cons_zero, List.set_cons_succ]; rfl)
        refine pureF (v := undef) 10 (some 31) #[true, true, true, true, true, true, true, true, true, true, true, false, false, false, false, false, false, false, false, false, false, false, false, false, false, false, false, false] ?_ rfl rfl (by kernel_rfl) (fun _ _ _ h => h) ⟨Or.inr ⟨by rfl, rfl⟩, fun _ _ _ => trivial⟩ ?_ ?_
        rotate_left 1
        · (simp only [Act.put, List.setIfInBounds_toArray, List.set_cons_zero, List.set_cons_succ]; rfl)
        refine pureF (v := undef) 11 (some 32) #[true, true, true, true, true, true, true, true, true, true, true, true, false, false, false, false, false, false, false, false, false, false, false, false, false, false, false, false] ?_ rfl rfl (by kernel_rfl) (fun _ _ _ h => h) ⟨Or.inr ⟨by rfl, rfl⟩, fun _ _ _ => trivial⟩ ?_ ?_
        rotate_left 1
        · (simp only [Act.put, List.setIfInBounds_toArray, List.set_cons_zero, List.set_cons_succ]; rfl)
        refine pureF (v := undef) 12 (some 33) #[true, true, true, true, true, true, true, true, true, true, true, true, true, false, false, false, false, false, false, false, false, false, false, false, false, false, false, false] ?_ rfl rfl (by kernel_rfl) (fun _ _ _ h => h) ⟨Or.inr ⟨by rfl, rfl⟩, fun _ _ _ => trivial⟩ ?_ ?_
        rotate_left 1
        · (simp only [Act.put, List.setIfInBounds_toArray, List.set_cons_zero, List.set_cons_succ]; rfl)
        refine pureF (v := undef) 13 (some 34) #[true, true, true, true, true, true, true, true, true, true, true, true, true, true, false, false, false, false, false, false, false, false, false, false, false, false, false, false] ?_ rfl rfl (by kernel_rfl) (fun _ _ _ h => h) ⟨Or.inr ⟨by rfl, rfl⟩, fun _ _ _ => trivial⟩ ?_ ?_
        rotate_left 1
        · (simp only [Act.put, List.setIfInBounds_toArray, List.set_cons_zero, List.set_cons_succ]; rfl)
        refine pureF (v := ?_) 14 (some 35) #[true, true, true, true, true, true, true, true, true, true, true, true, true, true, true, false, false, false, false, false, false, false, false, false, false, false, false, false] ?_ rfl rfl (by kernel_rfl) (fun _ _ _ h => h) ⟨Or.inl ⟨by rfl, ?_⟩, fun _ _ _ => trivial⟩ ?_ ?_
        rotate_left 2
        · (intro w' _; go_simp; with_reducible rfl)
        · (simp only [Act.put, List.setIfInBounds_toArray, List.set_cons_zero, List.set_cons_succ]; rfl)
        refine pureF (v := ?_) 15 (some 36) #[true, true, true, true, true, true, true, true, true, true, true, true, true, true, true, true, false, false, false, false, false, false, false, false, false, false, false, false] ?_ rfl rfl (by kernel_rfl) (fun _ _ _ h => h) ⟨Or.inl ⟨by rfl, ?_⟩, fun _ _ _ => trivial⟩ ?_ ?_
        rotate_left 2
        · (intro w' _; go_simp; with_reducible rfl)
        · (simp only [Act.put, List.setIfInBounds_toArray, List.set_cons_zero, List.set_cons_succ]; rfl)
        refine pureF (v := undef) 16 (some 37) #[true, true, true, true, true, true, true, true, true, true, true, true, true, true, true, true, true, false, false, false, false, false, false, false, false, false, false, false] ?_ rfl rfl (by kernel_rfl) (fun _ _ _ h => h) ⟨Or.inr ⟨by rfl, rfl⟩, fun _ _ _ => trivial⟩ ?_ ?_
        rotate_left 1
        · (simp only [Act.put, List.setIfInBounds_toArray, List.set_cons_zero, List.set_cons_succ]; rfl)
        refine pureF (v := undef) 17 (some 38) #[true, true, true, true, true, true, true, true, true, true, true, true, true, true, true, true, true, true, false, false, false, false, false, false, false, false, false, false] ?_ rfl rfl (by kernel_rfl) (fun _ _ _ h => h) ⟨Or.inr ⟨by rfl, rfl⟩, fun _ _ _ => trivial⟩ ?_ ?_
        rotate_left 1
        · (simp only [Act.put, List.setIfInBounds_toArray, List.set_cons_zero, List.set_cons_succ]; rfl)
        refine pureF (v := undef) 18 (some 39) #[true, true, true, true, true, true, true, true, true, true, true, true, true, true, true, true, true, true, true, false, false, false, false, false, false, false, false, false] ?_ rfl rfl (by kernel_rfl) (fun _ _ _ h => h) ⟨Or.inr ⟨by rfl, rfl⟩, fun _ _ _ => trivial⟩ ?_ ?_
        rotate_left 1
        · (simp only [Act.put, List.setIfInBounds_toArray, List.set_cons_zero, List.set_cons_succ]; rfl)
        refine pureF (v := undef) 19 (some 40) #[true, true, true, true, true, true, true, true, true, true, true, true, true, true, true, true, true, true, true, true, false, false, false, false, false, false, false, false] ?_ rfl rfl (by kernel_rfl) (fun _ _ _ h => h) ⟨Or.inr ⟨by rfl, rfl⟩, fun _ _ _ => trivial⟩ ?_ ?_
        rotate_left 1
        · (simp only [Act.put, List.setIfInBounds_toArray, List.set_cons_zero, List.set_cons_succ]; rfl)
        refine pureF (v := undef) 20 (some 41) #[true, true, true, true, true, true, true, true, true, true, true, true, true, true, true, true, true, true, true, true, true, false, false, false, false, false, false, false] ?_ rfl rfl (by kernel_rfl) (fun _ _ _ h => h) ⟨Or.inr ⟨by rfl, rfl⟩, fun _ _ _ => trivial⟩ ?_ ?_
        rotate_left 1
        · (simp only [Act.put, List.setIfInBounds_toArray, List.set_cons_zero, List.set_cons_succ]; rfl)
        refine pureF (v := undef) 21 (some 42) #[true, true, true, true, true, true, true, true, true, true, true, true, true, true, true, true, true, true, true, true, true, true, false, false, false, false, false, false] ?_ rfl rfl (by kernel_rfl) (fun _ _ _ h => h) ⟨Or.inr ⟨by rfl, rfl⟩, fun _ _ _ => trivial⟩ ?_ ?_
        rotate_left 1
        · (simp only [Act.put, List.setIfInBounds_toArray, List.set_cons_zero, List.set_cons_succ]; rfl)
        refine pureF (v := undef) 22 (some 43) #[true, true, true, true, true, true, true, true, true, true, true, true, true, true, true, true, true, true, true, true, true, true, true, false, false, false, false, false] ?_ rfl rfl (by kernel_rfl) (fun _ _ _ h => h) ⟨Or.inr ⟨by rfl, rfl⟩, fun _ _ _ => trivial⟩ ?_ ?_
        rotate_left 1
        · (simp only [Act.put, List.setIfInBounds_toArray, List.set_cons_zero, List.set_cons_succ]; rfl)
        refine pureF (v := undef) 23 (some 44) #[true, true, true, true, true, true, true, true, true, true, true, true, true, true, true, true, true, true, true, true, true, true, true, true, false, false, false, false] ?_ rfl rfl (by kernel_rfl) (fun _ _ _ h => h) ⟨Or.inr ⟨by rfl, rfl⟩, fun _ _ _ => trivial⟩ ?_ ?_
        rotate_left 1
        · (simp only [Act.put, List.setIfInBounds_toArray, List.set_cons_zero, List.set_cons_succ]; rfl)
        refine pureF (v := undef) 24 (some 45) #[true, true, true, true, true, true, true, true, true, true, true, true, true, true, true, true, true, true, true, true, true, true, true, true, true, false, false, false] ?_ rfl rfl (by kernel_rfl) (fun _ _ _ h => h) ⟨Or.inr ⟨by rfl, rfl⟩, fun _ _ _ => trivial⟩ ?_ ?_
        rotate_left 1
        · (simp only [Act.put, List.setIfInBounds_toArray, List.set_cons_zero, List.set_cons_succ]; rfl)
        refine pureF (v := undef) 25 (some 46) #[true, true, true, true, true, true, true, true, true, true, true, true, true, true, true, true, true, true, true, true, true, true, true, true, true, true, false, false] ?_ rfl rfl (by kernel_rfl) (fun _ _ _ h => h) ⟨Or.inr ⟨by rfl, rfl⟩, fun _ _ _ => trivial⟩ ?_ ?_
        rotate_left 1
        · (simp only [Act.put, List.setIfInBounds_toArray, List.set_cons_zero, List.set_cons_succ]; rfl)
        refine pureF (v := ?_) 26 (some 47) #[true, true, true, true, true, true, true, true, true, true, true, true, true, true, true, true, true, true, true, true, true, true, true, true, true, true, true, false] ?_ rfl rfl (by kernel_rfl) (fun _ _ _ h => h) ⟨Or.inl ⟨by rfl, ?_⟩, fun _ _ _ => trivial⟩ ?_ ?_
        rotate_left 2
        · (intro w' _; go_simp; with_reducible rfl)
        · (simp only [Act.put, List.setIfInBounds_toArray, List.set_cons_zero, List.set_cons_succ]; rfl)
        refine pureF (v := ?_) 27 (some 10) #[true, true, true, true, true, true, true, true, true, true, true, true, true, true, true, true, true, true, true, true, true, true, true, true, true, true, true, true] ?_ rfl rfl (by kernel_rfl) (fun _ _ _ h => h) ⟨Or.inl ⟨by rfl, ?_⟩, fun _ _ _ => trivial⟩ ?_ ?_
        rotate_left 2
        · (intro w' _; go_simp; with_reducible rfl)
        · (simp only [Act.put, List.setIfInBounds_toArray, List.set_cons_zero, List.set_cons_succ]; rfl)
        clear hHeld
        refine doneF (by kernel_rfl) ?_
        go_wp2
        go_ret
        exact ⟨rfl, below_drew1 HB2.out⟩
    · have H1 : (y.f0 == 2) = false := by simp [g1]
      have e : hear2B y z p q a2 = false := by simp [hear2B, g1]
      rw [e]
      clear e g1 hnear
      go_enter Try.func53, Try.ntmps53
      go_upto_region 3 with (fail)
      refine (wpIn_wide (n := 5)).1 ?_
      refine startF (fun w' => w'.cell? ⟨w.heap.size, 0, none⟩ = some (.int .i64 y.f0) ∧ w'.cell? ⟨w.heap.size, 1, none⟩ = some (.int .i64 y.f1) ∧ w'.cell? ⟨w.heap.size + 1, 0, none⟩ = some (.int .i64 z.f0) ∧ w'.cell? ⟨w.heap.size + 1, 1, none⟩ = some (.int .i64 z.f1) ∧ w'.cell? (bd.add (a3.toNat * 2)) = some (.int .i64 p.f0) ∧ w'.cell? ⟨(bd.add (a3.toNat * 2)).block, (bd.add (a3.toNat * 2)).off + 1, none⟩ = some (.int .i64 p.f1) ∧ w'.cell? (bd.add (a4.toNat * 2)) = some (.int .i64 q.f0) ∧ w'.cell? ⟨(bd.add (a4.toNat * 2)).block, (bd.add (a4.toNat * 2)).off + 1, none⟩ = some (.int .i64 q.f1)) [] #[false, false, false, false, false, false, false, false, false, false, false, false, false, false, false, false, false, false, false, false, false, false, false, false, false, false, false, false] 28 (by kernel_rfl) (by kernel_rfl) ⟨b0, b1, d0, d1, r0, r1, t0, t1⟩ (fun hHeld => ?_)
      refine takeF (v := ?_) 0 (some 21) #[true, false, false, false, false, false, false, false, false, false, false, false, false, false, false, false, false, false, false, false, false, false, false, false, false, false, false, false] ?_ rfl rfl (by kernel_rfl) (fun _ _ _ h => h) ⟨Or.inl ⟨by rfl, ?_⟩, fun _ _ _ => trivial⟩ ?_ hHeld ?_
      rotate_left 2
      · (rintro w' ⟨s0, s1, s2, s3, s4, s5, s6, s7⟩; go_simp; with_reducible rfl)
      · (simp only [Act.put, List.setIfInBounds_toArray, List.set_cons_zero, List.set_cons_succ]; rfl)
      refine takeF (v := ?_) 1 (some 22) #[true, true, false, false, false, false, false, false, false, false, false, false, false, false, false, false, false, false, false, false, false, false, false, false, false, false, false, false] ?_ rfl rfl (by kernel_rfl) (fun _ _ _ h => h) ⟨Or.inl ⟨by rfl, ?_⟩, fun _ _ _ => trivial⟩ ?_ hHeld ?_
      rotate_left 2
      · (rintro w' ⟨s0, s1, s2, s3, s4, s5, s6, s7⟩; go_simp; with_reducible rfl)
      · (simp only [Act.put, List.setIfInBounds_toArray, List.set_cons_zero, List.set_cons_succ]; rfl)
      refine takeF (v := ?_) 2 (some 23) #[true, true, true, false, false, false, false, false, false, false, false, false, false, false, false, false, false, false, false, false, false, false, false, false, false, false, false, false] ?_ rfl rfl (by kernel_rfl) (fun _ _ _ h => h) ⟨Or.inl ⟨by rfl, ?_⟩, fun _ _ _ => trivial⟩ ?_ hHeld ?_
      rotate_left 2
      · (rintro w' ⟨s0, s1, s2, s3, s4, s5, s6, s7⟩; go_simp; with_reducible rfl)
      · (simp only [Act.put, List.setIfInBounds_toArray, List.set_cons_zero, List.set_cons_succ]; rfl)
      refine takeF (v := ?_) 3 (some 24) #[true, true, true, true, false, false, false, false, false, false, false, false, false, false, false, false, false, false, false, false, false, false, false, false, false, false, false, false] ?_ rfl rfl (by kernel_rfl) (fun _ _ _ h => h) ⟨Or.inl ⟨by rfl, ?_⟩, fun _ _ _ => trivial⟩ ?_ hHeld ?_
      rotate_left 2
      · (rintro w' ⟨s0, s1, s2, s3, s4, s5, s6, s7⟩; go_simp; with_reducible rfl)
      · (simp only [Act.put, List.setIfInBounds_toArray, List.set_cons_zero, List.set_cons_succ]; rfl)
      refine pureF (v := undef) 4 (some 25) #[true, true, true, true, true, false, false, false, false, false, false, false, false, false, false, false, false, false, false, false, false, false, false, false, false, false, false, false] ?_ rfl rfl (by kernel_rfl) (fun _ _ _ h => h) ⟨Or.inr ⟨by rfl, rfl⟩, fun _ _ _ => trivial⟩ ?_ ?_
      rotate_left 1
      · (simp only [Act.put, List.setIfInBounds_toArray, List.set_cons_zero, List.set_cons_succ]; rfl)
      refine pureF (v := undef) 5 (some 26) #[true, true, true, true, true, true, false, false, false, false, false, false, false, false, false, false, false, false, false, false, false, false, false, false, false, false, false, false] ?_ rfl rfl (by kernel_rfl) (fun _ _ _ h => h) ⟨Or.inr ⟨by rfl, rfl⟩, fun _ _ _ => trivial⟩ ?_ ?_
      rotate_left 1
      · (simp only [Act.put, List.setIfInBounds_toArray, List.set_cons_zero, List.set_cons_succ]; rfl)
      refine pureF (v := undef) 6 (some 27) #[true, true, true, true, true, true, true, false, false, false, false, false, false, false, false, false, false, false, false, false, false, false, false, false, false, false, false, false] ?_ rfl rfl (by kernel_rfl) (fun _ _ _ h => h) ⟨Or.inr ⟨by rfl, rfl⟩, fun _ _ _ => trivial⟩ ?_ ?_
      rotate_left 1
      · (simp only [Act.put, List.setIfInBounds_toArray, List.set_cons_zero, List.set_cons_succ]; rfl)
      refine pureF (v := ?_) 7 (some 28) #[true, true, true, true, true, true, true, true, false, false, false, false, false, false, false, false, false, false, false, false, false, false, false, false, false, false, false, false] ?_ rfl rfl (by kernel_rfl) (fun _ _ _ h => h) ⟨Or.inl ⟨by rfl, ?_⟩, fun _ _ _ => trivial⟩ ?_ ?_
      rotate_left 2
      · (intro w' _; go_simp; with_reducible rfl)
      · (simp only [Act.put, List.setIfInBounds_toArray, List.set_cons_zero, List.set_cons_succ]; rfl)
      refine pureF (v := ?_) 8 (some 29) #[true, true, true, true, true, true, true, true, true, false, false, false, false, false, false, false, false, false, false, false, false, false, false, false, false, false, false, false] ?_ rfl rfl (by kernel_rfl) (fun _ _ _ h => h) ⟨Or.inl ⟨by rfl, ?_⟩, fun _ _ _ => trivial⟩ ?_ ?_
      rotate_left 2
      · (intro w' _; go_simp; with_reducible rfl)
      · (simp only [Act.put, List.setIfInBounds_toArray, List.set_cons_zero, List.set_cons_succ]; rfl)
      refine pureF (v := undef) 9 (some 30) #[true, true, true, true, true, true, true, true, true, true, false, false, false, false, false, false, false, false, false, false, false, false, false, false, false, false, false, false] ?_ rfl rfl (by kernel_rfl) (fun _ _ _ h => h) ⟨Or.inr ⟨by rfl, rfl⟩, fun _ _ _ => trivial⟩ ?_ ?_
      rotate_left 1
      · (simp only [Act.put, List.setIfInBounds_toArray, List.set_cons_zero, List.set_cons_succ]; rfl)
      refine pureF (v := undef) 10 (some 31) #[true, true, true, true, true, true, true, true, true, true, true, false, false, false, false, false, false, false, false, false, false, false, false, false, false, false, false, false] ?_ rfl rfl (by kernel_rfl) (fun _ _ _ h => h) ⟨Or.inr ⟨by rfl, rfl⟩, fun _ _ _ => trivial⟩ ?_ ?_
      rotate_left 1
      · (simp only [Act.put, List.setIfInBounds_toArray, List.set_cons_zero, List.set_cons_succ]; rfl)
      refine pureF (v := undef) 11 (some 32) #[true, true, true, true, true, true, true, true, true, true, true, true, false, false, false, false, false, false, false, false, false, false, false, false, false, false, false, false] ?_ rfl rfl (by kernel_rfl) (fun _ _ _ h => h) ⟨Or.inr ⟨by rfl, rfl⟩, fun _ _ _ => trivial⟩ ?_ ?_
      rotate_left 1
      · (simp only [Act.put, List.setIfInBounds_toArray, List.set_cons_zero, List.set_cons_succ]; rfl)
      refine pureF (v := undef) 12 (some 33) #[true, true, true, true, true, true, true, true, true, true, true, true, true, false, false, false, false, false, false, false, false, false, false, false, false, false, false, false] ?_ rfl rfl (by kernel_rfl) (fun _ _ _ h => h) ⟨Or.inr ⟨by rfl, rfl⟩, fun _ _ _ => trivial⟩ ?_ ?_
      rotate_left 1
      · (simp only [Act.put, List.setIfInBounds_toArray, List.set_cons_zero, List.set_cons_succ]; rfl)
      refine pureF (v := undef) 13 (some 34) #[true, true, true, true, true, true, true, true, true, true, true, true, true, true, false, false, false, false, false, false, false, false, false, false, false, false, false, false] ?_ rfl rfl (by kernel_rfl) (fun _ _ _ h => h) ⟨Or.inr ⟨by rfl, rfl⟩, fun _ _ _ => trivial⟩ ?_ ?_
      rotate_left 1
      · (simp only [Act.put, List.setIfInBounds_toArray, List.set_cons_zero, List.set_cons_succ]; rfl)
      refine pureF (v := ?_) 14 (some 35) #[true, true, true, true, true, true, true, true, true, true, true, true, true, true, true, false, false, false, false, false, false, false, false, false, false, false, false, false] ?_ rfl rfl (by kernel_rfl) (fun _ _ _ h => h) ⟨Or.inl ⟨by rfl, ?_⟩, fun _ _ _ => trivial⟩ ?_ ?_
      rotate_left 2
      · (intro w' _; go_simp; with_reducible rfl)
      · (simp only [Act.put, List.setIfInBounds_toArray, List.set_cons_zero, List.set_cons_succ]; rfl)
      refine pureF (v := ?_) 15 (some 36) #[true, true, true, true, true, true, true, true, true, true, true, true, true, true, true, true, false, false, false, false, false, false, false, false, false, false, false, false] ?_ rfl rfl (by kernel_rfl) (fun _ _ _ h => h) ⟨Or.inl ⟨by rfl, ?_⟩, fun _ _ _ => trivial⟩ ?_ ?_
      rotate_left 2
      · (intro w' _; go_simp; with_reducible rfl)
      · (simp only [Act.put, List.setIfInBounds_toArray, List.set_cons_zero, List.set_cons_succ]; rfl)
      refine pureF (v := undef) 16 (some 37) #[true, true, true, true, true, true, true, true, true, true, true, true, true, true, true, true, true, false, false, false, false, false, false, false, false, false, false, false] ?_ rfl rfl (by kernel_rfl) (fun _ _ _ h => h) ⟨Or.inr ⟨by rfl, rfl⟩, fun _ _ _ => trivial⟩ ?_ ?_
      rotate_left 1
      · (simp only [Act.put, List.setIfInBounds_toArray, List.set_cons_zero, List.set_cons_succ]; rfl)
      refine pureF (v := undef) 17 (some 38) #[true, true, true, true, true, true, true, true, true, true, true, true, true, true, true, true, true, true, false, false, false, false, false, false, false, false, false, false] ?_ rfl rfl (by kernel_rfl) (fun _ _ _ h => h) ⟨Or.inr ⟨by rfl, rfl⟩, fun _ _ _ => trivial⟩ ?_ ?_
      rotate_left 1
      · (simp only [Act.put, List.setIfInBounds_toArray, List.set_cons_zero, List.set_cons_succ]; rfl)
      refine pureF (v := undef) 18 (some 39) #[true, true, true, true, true, true, true, true, true, true, true, true, true, true, true, true, true, true, true, false, false, false, false, false, false, false, false, false] ?_ rfl rfl (by kernel_rfl) (fun _ _ _ h => h) ⟨Or.inr ⟨by rfl, rfl⟩, fun _ _ _ => trivial⟩ ?_ ?_
      rotate_left 1
      · (simp only [Act.put, List.setIfInBounds_toArray, List.set_cons_zero, List.set_cons_succ]; rfl)
      refine pureF (v := undef) 19 (some 40) #[true, true, true, true, true, true, true, true, true, true, true, true, true, true, true, true, true, true, true, true, false, false, false, false, false, false, false, false] ?_ rfl rfl (by kernel_rfl) (fun _ _ _ h => h) ⟨Or.inr ⟨by rfl, rfl⟩, fun _ _ _ => trivial⟩ ?_ ?_
      rotate_left 1
      · (simp only [Act.put, List.setIfInBounds_toArray, List.set_cons_zero, List.set_cons_succ]; rfl)
      refine pureF (v := undef) 20 (some 41) #[true, true, true, true, true, true, true, true, true, true, true, true, true, true, true, true, true, true, true, true, true, false, false, false, false, false, false, false] ?_ rfl rfl (by kernel_rfl) (fun _ _ _ h => h) ⟨Or.inr ⟨by rfl, rfl⟩, fun _ _ _ => trivial⟩ ?_ ?_
      rotate_left 1
      · (simp only [Act.put, List.setIfInBounds_toArray, List.set_cons_zero, List.set_cons_succ]; rfl)
      refine pureF (v := undef) 21 (some 42) #[true, true, true, true, true, true, true, true, true, true, true, true, true, true, true, true, true, true, true, true, true, true, false, false, false, false, false, false] ?_ rfl rfl (by kernel_rfl) (fun _ _ _ h => h) ⟨Or.inr ⟨by rfl, rfl⟩, fun _ _ _ => trivial⟩ ?_ ?_
      rotate_left 1
      · (simp only [Act.put, List.setIfInBounds_toArray, List.set_cons_zero, List.set_cons_succ]; rfl)
      refine pureF (v := undef) 22 (some 43) #[true, true, true, true, true, true, true, true, true, true, true, true, true, true, true, true, true, true, true, true, true, true, true, false, false, false, false, false] ?_ rfl rfl (by kernel_rfl) (fun _ _ _ h => h) ⟨Or.inr ⟨by rfl, rfl⟩, fun _ _ _ => trivial⟩ ?_ ?_
      rotate_left 1
      · (simp only [Act.put, List.setIfInBounds_toArray, List.set_cons_zero, List.set_cons_succ]; rfl)
      refine pureF (v := undef) 23 (some 44) #[true, true, true, true, true, true, true, true, true, true, true, true, true, true, true, true, true, true, true, true, true, true, true, true, false, false, false, false] ?_ rfl rfl (by kernel_rfl) (fun _ _ _ h => h) ⟨Or.inr ⟨by rfl, rfl⟩, fun _ _ _ => trivial⟩ ?_ ?_
      rotate_left 1
      · (simp only [Act.put, List.setIfInBounds_toArray, List.set_cons_zero, List.set_cons_succ]; rfl)
      refine pureF (v := undef) 24 (some 45) #[true, true, true, true, true, true, true, true, true, true, true, true, true, true, true, true, true, true, true, true, true, true, true, true, true, false, false, false] ?_ rfl rfl (by kernel_rfl) (fun _ _ _ h => h) ⟨Or.inr ⟨by rfl, rfl⟩, fun _ _ _ => trivial⟩ ?_ ?_
      rotate_left 1
      · (simp only [Act.put, List.setIfInBounds_toArray, List.set_cons_zero, List.set_cons_succ]; rfl)
      refine pureF (v := undef) 25 (some 46) #[true, true, true, true, true, true, true, true, true, true, true, true, true, true, true, true, true, true, true, true, true, true, true, true, true, true, false, false] ?_ rfl rfl (by kernel_rfl) (fun _ _ _ h => h) ⟨Or.inr ⟨by rfl, rfl⟩, fun _ _ _ => trivial⟩ ?_ ?_
      rotate_left 1
      · (simp only [Act.put, List.setIfInBounds_toArray, List.set_cons_zero, List.set_cons_succ]; rfl)
      refine pureF (v := ?_) 26 (some 47) #[true, true, true, true, true, true, true, true, true, true, true, true, true, true, true, true, true, true, true, true, true, true, true, true, true, true, true, false] ?_ rfl rfl (by kernel_rfl) (fun _ _ _ h => h) ⟨Or.inl ⟨by rfl, ?_⟩, fun _ _ _ => trivial⟩ ?_ ?_
      rotate_left 2
      · (intro w' _; go_simp; with_reducible rfl)
      · (simp only [Act.put, List.setIfInBounds_toArray, List.set_cons_zero, List.set_cons_succ]; rfl)
      refine pureF (v := ?_) 27 (some 10) #[true, true, true, true, true, true, true, true, true, true, true, true, true, true, true, true, true, true, true, true, true, true, true, true, true, true, true, true] ?_ rfl rfl (by kernel_rfl) (fun _ _ _ h => h) ⟨Or.inl ⟨by rfl, ?_⟩, fun _ _ _ => trivial⟩ ?_ ?_
      rotate_left 2
      · (intro w' _; go_simp; with_reducible rfl)
      · (simp only [Act.put, List.setIfInBounds_toArray, List.set_cons_zero, List.set_cons_succ]; rfl)
      clear hHeld
      refine doneF (by kernel_rfl) ?_
      go_wp2
      go_ret
      exact ⟨rfl, below_drew1 HB2.out⟩
  · rw [if_neg hin] at h
    cases h
end Go.Proofs.Ytcgbfkplhlngjaa.PA
namespace Go.Proofs.Ytcgbfkplhlngjaa.PA
open Go.RowKit Go.Proofs.YtcgbfkplhlngjaaW.PrintWords Go.Proofs.YtcgbfkplhlngjaaW.PrintLast Go.Proofs.YtcgbfkplhlngjaaW.PrintMore
attribute [local go_sem] max2_int min2_int max_two min_two max_three min_three max_four min_four   -- for this text's walks alone
set_option linter.unusedVariables false
set_option linter.unusedSimpArgs false

/-! ### slotmeshref17_one: function 47 -/
def slotmeshref17_one.l0 : Nat → List (S50) → List (S25) → Int → Int → Int → Int → Option (Int)
  | 0, _, _, _, _, _, _ => none
  | k + 1, x0, x1, x2, x5, x13, x14 => if x14 < (x0.length : Int) then ((slotmeshref17_Heard.f x0 x1 x2 x14 x5).bind fun t227 => (if t227 = true then (if x13 ≥ 0 then (some (-2)) else (slotmeshref17_one.l0 k x0 x1 x2 x5 x14 (wrap64 (x14 + 1)))) else (slotmeshref17_one.l0 k x0 x1 x2 x5 x13 (wrap64 (x14 + 1))))) else (if x13 ≥ 0 then (if 0 ≤ x13 then (if x13 < (x0.length : Int) then (if 0 ≤ x5 then (if x5 < (x0.length : Int) then ((slotmeshref10_Catches.f ((rd_T50 x0 x13).f2) ((rd_T50 x0 x5).f3.f0) ((rd_T50 x0 x5).f3.f1)).bind fun t226 => (if t226 = true then (some x13) else (some (-1)))) else (none)) else (none)) else (none)) else (none)) else (some (-1)))
def slotmeshref17_one.f (k : Nat) (l0 : List (S50)) (l1 : List (S25)) (a2 : Int) (l3 : List (S42)) (a4 : Int) (a5 : Int) : Option (Int) := if 0 ≤ a5 then (if a5 < (l0.length : Int) then (if ((rd_T50 l0 a5).f0) = 1 then (if a5 < (l1.length : Int) then ((slotmeshref16_Jammed.f k l3 ((rd_T25 l1 a5).f0) ((rd_T25 l1 a5).f1) ((rd_T50 l0 a5).f1) a4).bind fun t223 => (if t223 = true then (some (-2)) else (slotmeshref17_one.l0 k l0 l1 a2 a5 (-1) 0))) else (none)) else (some (-1))) else (none)) else (none)
theorem slotmeshref17_one.mono_l : ∀ k, (∀ y0 y1 y2 y3 y4 y5, LeO (slotmeshref17_one.l0 k y0 y1 y2 y3 y4 y5) (slotmeshref17_one.l0 (k + 1) y0 y1 y2 y3 y4 y5))
  | 0 => fun _ _ _ _ _ _ r h => by simp [slotmeshref17_one.l0] at h
  | k + 1 => by
    have ih0 := slotmeshref17_one.mono_l k
    · intro y0 y1 y2 y3 y4 y5
      unfold slotmeshref17_one.l0
      repeat' first
      | (with_reducible exact ih0 _ _ _ _ _ _)
      | (with_reducible exact slotmeshref16_Jammed.mono _ _ _ _ _ _)
      | (with_reducible exact LeO.refl _)
      | (with_reducible exact LeO.none _)
      | (with_reducible refine LeO.ite ?_ ?_)
      | (with_reducible refine LeO.bind ?_ (fun _ => ?_))
      | exact ih0 _ _ _ _ _ _
      | exact slotmeshref16_Jammed.mono _ _ _ _ _ _
      | exact LeO.none _
      | refine LeO.ite ?_ ?_
      | refine LeO.bind ?_ (fun _ => ?_)
theorem slotmeshref17_one.mono : ∀ a0 a1 a2 a3 a4 a5 k, LeO (slotmeshref17_one.f k a0 a1 a2 a3 a4 a5) (slotmeshref17_one.f (k + 1) a0 a1 a2 a3 a4 a5) := by
  intro a0 a1 a2 a3 a4 a5 k
  have ih0 := slotmeshref17_one.mono_l k
  unfold slotmeshref17_one.f
  repeat' first
      | (with_reducible exact ih0 _ _ _ _ _ _)
      | (with_reducible exact slotmeshref16_Jammed.mono _ _ _ _ _ _)
      | (with_reducible exact LeO.refl _)
      | (with_reducible exact LeO.none _)
      | (with_reducible refine LeO.ite ?_ ?_)
      | (with_reducible refine LeO.bind ?_ (fun _ => ?_))
      | exact ih0 _ _ _ _ _ _
      | exact slotmeshref16_Jammed.mono _ _ _ _ _ _
      | exact LeO.none _
      | refine LeO.ite ?_ ?_
      | refine LeO.bind ?_ (fun _ => ?_)
def slotmeshref17_one.T3 : Bool × List (List Nat × List Nat) := (true, [([], []), ([], []), ([], []), ([1, 2], [1, 2]), ([3], [3]), ([], []), ([], []), ([5, 6], [5, 6]), ([7], [7]), ([8], [8]), ([], []), ([0, 4, 9, 10], [0, 4, 9, 10])])
def slotmeshref17_one.B3 : List Nat := [0, 0, 0, 6, 14, 0, 0, 96, 224, 480, 0, 2047]
theorem slotmeshref17_one.tab3 : rtab .any (opsOf Try.f47 3) = slotmeshref17_one.T3 := by kernel_rfl
theorem slotmeshref17_one.bits3 : waitsOk slotmeshref17_one.T3.2 slotmeshref17_one.B3 = true := by kernel_rfl
def slotmeshref17_one.T13 : Bool × List (List Nat × List Nat) := (true, [([], []), ([0], [0]), ([1], [1]), ([2], [2]), ([2], [2]), ([3, 4, 2], [2, 3, 4]), ([5, 2], [2, 5]), ([6, 2], [2, 6]), ([2], [2]), ([2], [2]), ([8, 9, 2], [2, 8, 9]), ([10, 2], [2, 10]), ([11, 2], [2, 11]), ([7, 12, 2, 2], [2, 7, 12]), ([2, 13], [2, 13])])
def slotmeshref17_one.B13 : List Nat := [0, 1, 3, 7, 7, 31, 63, 127, 7, 7, 775, 1799, 3847, 8191, 16383]
theorem slotmeshref17_one.tab13 : rtab .any (opsOf Try.f47 13) = slotmeshref17_one.T13 := by kernel_rfl
theorem slotmeshref17_one.bits13 : waitsOk slotmeshref17_one.T13.2 slotmeshref17_one.B13 = true := by kernel_rfl
set_option maxHeartbeats 8000000 in
set_option maxRecDepth 100000 in
theorem slotmeshref17_one.calls (k : Nat) (A0 : Option Addr) (c0 : Nat) (l0 : List (S50)) (A1 : Option Addr) (c1 : Nat) (l1 : List (S25)) (a2 : Int) (A3 : Option Addr) (c3 : Nat) (l3 : List (S42)) (a4 : Int) (a5 : Int) (r : Int) (w : World) (hr0 : Kd.C k50 w A0 l0.length l0) (hc0 : l0.length ≤ c0) (hr1 : Kd.C k25 w A1 l1.length l1) (hc1 : l1.length ≤ c1) (hr3 : Kd.C k42 w A3 l3.length l3) (hc3 : l3.length ≤ c3) (h : slotmeshref17_one.f k l0 l1 a2 l3 a4 a5 = some r) :
    Calls Try.prog 47 #[.slice A0 l0.length c0, .slice A1 l1.length c1, .int .i64 a2, .slice A3 l3.length c3, .int .i64 a4, .int .i64 a5] w fun e w' => e = .returned (.int .i64 r) ∧ Below w.heap.size w w' := by
  have hu25 := Try.underlying25
  have hu48 := Try.underlying48
  have HR0 := Aside0.mk hr0
  have HC0 := Aside0.mk hc0
  clear hr0 hc0
  have HR1 := Aside0.mk hr1
  have HC1 := Aside0.mk hc1
  clear hr1 hc1
  have HR3 := Aside0.mk hr3
  have HC3 := Aside0.mk hc3
  clear hr3 hc3
  have HB := Aside0.mk (Below.refl w.heap.size w)
  have H : (if 0 ≤ a5 then (if a5 < (l0.length : Int) then (if ((rd_T50 l0 a5).f0) = 1 then (if a5 < (l1.length : Int) then ((slotmeshref16_Jammed.f k l3 ((rd_T25 l1 a5).f0) ((rd_T25 l1 a5).f1) ((rd_T50 l0 a5).f1) a4).bind fun t223 => (if t223 = true then (some (-2)) else (slotmeshref17_one.l0 k l0 l1 a2 a5 (-1) 0))) else (none)) else (some (-1))) else (none)) else (none)) = some r := h
  clear h
  by_cases c7 : 0 ≤ a5
  · rw [if_pos c7] at H
    have c7b0 : decide (0 ≤ a5) = true := decide_eq_true c7
    clear c7
    by_cases c8 : a5 < (l0.length : Int)
    · rw [if_pos c8] at H
      have c8b0 : decide (a5 < (l0.length : Int)) = true := decide_eq_true c8
      clear c8
      by_cases c9 : ((rd_T50 l0 a5).f0) = 1
      · rw [if_pos c9] at H
        have c9b0 : (((rd_T50 l0 a5).f0) == 1) = true := beq_iff_eq.mpr c9
        have c9b1 : (((rd_T50 l0 a5).f0) != 1) = false := bne_eq_false_iff_eq.mpr c9
        clear c9
        by_cases c10 : a5 < (l1.length : Int)
        · rw [if_pos c10] at H
          have c10b0 : decide (a5 < (l1.length : Int)) = true := decide_eq_true c10
          clear c10
          replace H := Option.bind_eq_some_iff.mp H
          obtain ⟨t223, A110, H⟩ := H
          replace H : (if t223 = true then (some (-2)) else (slotmeshref17_one.l0 k l0 l1 a2 a5 (-1) 0)) = some r := H
          have A11 := Aside0.mk A110
          clear A110
          by_cases c12 : t223 = true
          · subst c12
            have H1 : (some (-2)) = some r := by rw [if_pos rfl] at H; exact H
            clear H
            have H := H1
            clear H1
            obtain rfl := Option.some.inj H
            have p220 : 0 ≤ (a5 : Int) := of_decide_eq_true (by first | (with_reducible assumption) | assumption)
            have q220 : a5 < (l0.length : Int) := of_decide_eq_true (by first | (with_reducible assumption) | assumption)
            obtain ⟨ad220, e220, hx220_0, hx220_1, hx220_2, hx220_3, hx220_4⟩ := at_T50 HR0.out a5 p220 q220
            cases e220
            replace p220 := eq_true p220
            replace q220 := eq_true q220
            go_enter Try.func47, Try.ntmps47
            try go_wp2
            have n0_ := Aside0.mk (below_drew1 HB.out)
            clear HB
            have HB := n0_
            clear n0_
            have p221 : 0 ≤ (a5 : Int) := of_decide_eq_true (by first | (with_reducible assumption) | assumption)
            have q221 : a5 < (l1.length : Int) := of_decide_eq_true (by first | (with_reducible assumption) | assumption)
            obtain ⟨ad221, e221, hx221_0, hx221_1⟩ := at_T25 HR1.out a5 p221 q221
            have hw221_1 := hx221_1
            have hw221_0 := hx221_0
            cases e221
            replace hx221_0 := (HB.out.cell (World.block_lt_of_cell? w _ hx221_0)).trans hx221_0
            replace hx221_1 := (HB.out.cell (World.block_lt_of_cell? w _ hx221_1)).trans hx221_1
            replace p221 := eq_true p221
            replace q221 := eq_true q221
            have p222 : 0 ≤ (a5 : Int) := of_decide_eq_true (by first | (with_reducible assumption) | assumption)
            have q222 : a5 < (l0.length : Int) := of_decide_eq_true (by first | (with_reducible assumption) | assumption)
            obtain ⟨ad222, e222, hx222_0, hx222_1, hx222_2, hx222_3, hx222_4⟩ := at_T50 HR0.out a5 p222 q222
            have hw222_4 := hx222_4
            have hw222_3 := hx222_3
            have hw222_2 := hx222_2
            have hw222_1 := hx222_1
            have hw222_0 := hx222_0
            obtain rfl : ad220 = ad222 := (by injection e222)
            replace hx222_0 := (HB.out.cell (World.block_lt_of_cell? w _ hx222_0)).trans hx222_0
            replace hx222_1 := (HB.out.cell (World.block_lt_of_cell? w _ hx222_1)).trans hx222_1
            replace hx222_2 := (HB.out.cell (World.block_lt_of_cell? w _ hx222_2)).trans hx222_2
            replace hx222_3 := (HB.out.cell (World.block_lt_of_cell? w _ hx222_3)).trans hx222_3
            replace hx222_4 := (HB.out.cell (World.block_lt_of_cell? w _ hx222_4)).trans hx222_4
            replace p222 := eq_true p222
            replace q222 := eq_true q222
            refine start_ (n := 12) (S := fun w' => w'.cell? (ad221.add ((a5).toNat * 2)) = some (.int .i64 ((rd_T25 l1 a5).f0)) ∧ w'.cell? ⟨(ad221.add ((a5).toNat * 2)).block, (ad221.add ((a5).toNat * 2)).off + 1, none⟩ = some (.int .i64 ((rd_T25 l1 a5).f1)) ∧ w'.cell? (ad220.add ((a5).toNat * 5)) = some (.int .i64 ((rd_T50 l0 a5).f0)) ∧ w'.cell? ⟨(ad220.add ((a5).toNat * 5)).block, (ad220.add ((a5).toNat * 5)).off + 1, none⟩ = some (.int .i64 ((rd_T50 l0 a5).f1)) ∧ w'.cell? ⟨(ad220.add ((a5).toNat * 5)).block, (ad220.add ((a5).toNat * 5)).off + 2, none⟩ = some (.int .i64 ((rd_T50 l0 a5).f2)) ∧ w'.cell? ⟨(ad220.add ((a5).toNat * 5)).block, (ad220.add ((a5).toNat * 5)).off + 3, none⟩ = some (.int .i64 ((rd_T50 l0 a5).f3.f0)) ∧ w'.cell? ⟨(ad220.add ((a5).toNat * 5)).block, (ad220.add ((a5).toNat * 5)).off + 4, none⟩ = some (.int .i64 ((rd_T50 l0 a5).f3.f1))) (ds := []) #[false, false, false, false, false, false, false, false, false, false, false, false] (by kernel_rfl) rfl rfl ⟨((HB.out.cell (World.block_lt_of_cell? w _ hw221_0)).trans hw221_0), ((HB.out.cell (World.block_lt_of_cell? w _ hw221_1)).trans hw221_1), ((HB.out.cell (World.block_lt_of_cell? w _ hw222_0)).trans hw222_0), ((HB.out.cell (World.block_lt_of_cell? w _ hw222_1)).trans hw222_1), ((HB.out.cell (World.block_lt_of_cell? w _ hw222_2)).trans hw222_2), ((HB.out.cell (World.block_lt_of_cell? w _ hw222_3)).trans hw222_3), ((HB.out.cell (World.block_lt_of_cell? w _ hw222_4)).trans hw222_4)⟩ (fun hHeld => ?_); refine with_tabW slotmeshref17_one.tab3 slotmeshref17_one.bits3 (fun HT_ HW_ => ?_)
            generalize w.drew = w13 at HB hx221_0 hx221_1 hx222_0 hx222_1 hx222_2 hx222_3 hx222_4 hHeld ⊢
            refine pure_ (i := 0) (N := some 21) (v := ?_) (a' := ?_) #[true, false, false, false, false, false, false, false, false, false, false, false] rfl rfl (any_of HT_.out (by kernel_rfl)) (fun _ _ _ h => h) (Or.inl ⟨by rfl, ?_⟩) ?_ ?_
            rotate_left
            · intro w'
              go_simp
              with_reducible rfl
            rotate_left
            · simp only [Act.put, List.setIfInBounds_toArray, List.set_cons_zero, List.set_cons_succ, i64_w, i32_w]
              rfl
            refine pure_ (i := 1) (N := some 22) (v := ?_) (a' := ?_) #[true, true, false, false, false, false, false, false, false, false, false, false] rfl rfl (any_of HT_.out (by kernel_rfl)) (fun _ _ _ h => h) (Or.inl ⟨by rfl, ?_⟩) ?_ ?_
            rotate_left
            · intro w'
              go_simp
              with_reducible rfl
            rotate_left
            · simp only [Act.put, List.setIfInBounds_toArray, List.set_cons_zero, List.set_cons_succ, i64_w, i32_w]
              rfl
            refine pure_ (i := 2) (N := some 23) (v := ?_) (a' := ?_) #[true, true, true, false, false, false, false, false, false, false, false, false] rfl rfl (any_of HT_.out (by kernel_rfl)) (fun _ _ _ h => h) (Or.inl ⟨by rfl, ?_⟩) ?_ ?_
            rotate_left
            · intro w'
              go_simp
              with_reducible rfl
            rotate_left
            · simp only [Act.put, List.setIfInBounds_toArray, List.set_cons_zero, List.set_cons_succ, i64_w, i32_w]
              rfl
            refine pure_ (i := 3) (N := some 24) (v := ?_) (a' := ?_) #[true, true, true, true, false, false, false, false, false, false, false, false] rfl rfl (any_of HT_.out (by kernel_rfl)) (fun _ _ _ h => h) (Or.inl ⟨by rfl, ?_⟩) ?_ ?_
            rotate_left
            · intro w'
              go_simp
              with_reducible rfl
            rotate_left
            · simp only [Act.put, List.setIfInBounds_toArray, List.set_cons_zero, List.set_cons_succ, i64_w, i32_w]
              rfl
            refine pure_ (i := 5) (N := some 26) (v := ?_) (a' := ?_) #[true, true, true, true, false, true, false, false, false, false, false, false] rfl rfl (any_of HT_.out (by kernel_rfl)) (fun _ _ _ h => h) (Or.inl ⟨by rfl, ?_⟩) ?_ ?_
            rotate_left
            · intro w'
              go_simp
              with_reducible rfl
            rotate_left
            · simp only [Act.put, List.setIfInBounds_toArray, List.set_cons_zero, List.set_cons_succ, i64_w, i32_w]
              rfl
            refine pure_ (i := 6) (N := some 27) (v := ?_) (a' := ?_) #[true, true, true, true, false, true, true, false, false, false, false, false] rfl rfl (any_of HT_.out (by kernel_rfl)) (fun _ _ _ h => h) (Or.inl ⟨by rfl, ?_⟩) ?_ ?_
            rotate_left
            · intro w'
              go_simp
              with_reducible rfl
            rotate_left
            · simp only [Act.put, List.setIfInBounds_toArray, List.set_cons_zero, List.set_cons_succ, i64_w, i32_w]
              rfl
            refine pure_ (i := 7) (N := some 28) (v := ?_) (a' := ?_) #[true, true, true, true, false, true, true, true, false, false, false, false] rfl rfl (any_of HT_.out (by kernel_rfl)) (fun _ _ _ h => h) (Or.inl ⟨by rfl, ?_⟩) ?_ ?_
            rotate_left
            · intro w'
              go_simp
              with_reducible rfl
            rotate_left
            · simp only [Act.put, List.setIfInBounds_toArray, List.set_cons_zero, List.set_cons_succ, i64_w, i32_w]
              rfl
            refine pure_ (i := 8) (N := some 29) (v := ?_) (a' := ?_) #[true, true, true, true, false, true, true, true, true, false, false, false] rfl rfl (any_of HT_.out (by kernel_rfl)) (fun _ _ _ h => h) (Or.inl ⟨by rfl, ?_⟩) ?_ ?_
            rotate_left
            · intro w'
              go_simp
              with_reducible rfl
            rotate_left
            · simp only [Act.put, List.setIfInBounds_toArray, List.set_cons_zero, List.set_cons_succ, i64_w, i32_w]
              rfl
            refine pure_ (i := 10) (N := some 31) (v := ?_) (a' := ?_) #[true, true, true, true, false, true, true, true, true, false, true, false] rfl rfl (any_of HT_.out (by kernel_rfl)) (fun _ _ _ h => h) (Or.inl ⟨by rfl, ?_⟩) ?_ ?_
            rotate_left
            · intro w'
              go_simp
              with_reducible rfl
            rotate_left
            · simp only [Act.put, List.setIfInBounds_toArray, List.set_cons_zero, List.set_cons_succ, i64_w, i32_w]
              rfl
            refine take_ (i := 4) (N := some 25) (v := ?_) (a' := ?_) #[true, true, true, true, true, true, true, true, true, false, true, false] rfl rfl (take_ofW HT_.out HW_.out (by kernel_rfl)) (fun _ _ _ h => h) (Or.inl ⟨by rfl, ?_⟩) hHeld ?_ ?_
            rotate_left
            · rintro w' ⟨s0, s1, s2, s3, s4, s5, s6⟩
              go_simp
              with_reducible rfl
            rotate_left
            · simp only [Act.put, List.setIfInBounds_toArray, List.set_cons_zero, List.set_cons_succ, i64_w, i32_w]
              rfl
            refine take_ (i := 9) (N := some 30) (v := ?_) (a' := ?_) #[true, true, true, true, true, true, true, true, true, true, true, false] rfl rfl (take_ofW HT_.out HW_.out (by kernel_rfl)) (fun _ _ _ h => h) (Or.inl ⟨by rfl, ?_⟩) hHeld ?_ ?_
            rotate_left
            · rintro w' ⟨s0, s1, s2, s3, s4, s5, s6⟩
              go_simp
              with_reducible rfl
            rotate_left
            · simp only [Act.put, List.setIfInBounds_toArray, List.set_cons_zero, List.set_cons_succ, i64_w, i32_w]
              rfl
            refine one_ (i := 11) (N := some 32) #[true, true, true, true, true, true, true, true, true, true, true, true] rfl rfl (one_of HT_.out (by kernel_rfl)) (by decide) (fun K hK => ?_)
            refine goes_ Try.func24 (by kernel_rfl) rfl #[.slice A3 l3.length c3, .agg #[.int .i64 ((rd_T25 l1 a5).f0), .int .i64 ((rd_T25 l1 a5).f1)], .int .i64 ((rd_T50 l0 a5).f1), .int .i64 a4] (by rfl) rfl rfl (by (try simp only [List.map_toArray, List.map_cons, List.map_nil]); first | done | rfl | (simp only [List.length_drop, List.length_take]; rfl)) ?_
            with_reducible refine (slotmeshref16_Jammed.calls k _ _ l3 ((rd_T25 l1 a5).f0) ((rd_T25 l1 a5).f1) ((rd_T50 l0 a5).f1) a4 true _ ?side1 ?side2 A11.out).mono ?_
            (case side1 => repeat (first | exact (Kd.C_below HR3.out HB.out) | (with_reducible refine Kd.C_alloc ?_ _) | (with_reducible refine Kd.C_drewN ?_ _) | (with_reducible refine Kd.C_drew ?_)))
            (case side2 => exact HC3.out)
            rintro e w14 ⟨rfl, hb⟩
            refine ⟨_, rfl, ?_⟩
            have n0_ := Aside0.mk (below_step (by repeat (first | (with_reducible first | exact HB.out | apply below_alloc | apply pw_below_drewN | apply below_drew1) | exact HB.out)) hb)
            clear HB
            have HB := n0_
            clear n0_
            (try clear hb)
            (try clear hb2)
            (try clear hk)
            (try clear hi)
            refine hK.out _ _ ⟨((HB.out.cell (World.block_lt_of_cell? w _ hw221_0)).trans hw221_0), ((HB.out.cell (World.block_lt_of_cell? w _ hw221_1)).trans hw221_1), ((HB.out.cell (World.block_lt_of_cell? w _ hw222_0)).trans hw222_0), ((HB.out.cell (World.block_lt_of_cell? w _ hw222_1)).trans hw222_1), ((HB.out.cell (World.block_lt_of_cell? w _ hw222_2)).trans hw222_2), ((HB.out.cell (World.block_lt_of_cell? w _ hw222_3)).trans hw222_3), ((HB.out.cell (World.block_lt_of_cell? w _ hw222_4)).trans hw222_4)⟩ (fun hHeld => ?_)
            clear hK K
            refine norm_ (a' := ?_) ?_ ?_
            rotate_left
            · show Act.put _ (some 32) _ = _
              simp only [Act.put, List.setIfInBounds_toArray, List.set_cons_zero, List.set_cons_succ, i64_w, i32_w]
              rfl
            refine done_ (done_of HT_.out (by kernel_rfl)) ?_
            try go_wp2
            go_ret
            exact ⟨by first | rfl | (simp [errW_none, errW_some] <;> rfl) | (simp [*, errW_none, errW_some] <;> rfl), by repeat (first | (with_reducible first | exact HB.out | apply below_alloc | apply pw_below_drewN | apply below_drew1) | exact HB.out)⟩
          · replace c12 := Bool.eq_false_iff.mpr c12
            subst c12
            have H1 : (slotmeshref17_one.l0 k l0 l1 a2 a5 (-1) 0) = some r := by rw [if_neg (show ¬ (false = true) by decide)] at H; exact H
            clear H
            have H := H1
            clear H1
            have H' := Aside0.mk H
            clear H
            have p220 : 0 ≤ (a5 : Int) := of_decide_eq_true (by first | (with_reducible assumption) | assumption)
            have q220 : a5 < (l0.length : Int) := of_decide_eq_true (by first | (with_reducible assumption) | assumption)
            obtain ⟨ad220, e220, hx220_0, hx220_1, hx220_2, hx220_3, hx220_4⟩ := at_T50 HR0.out a5 p220 q220
            cases e220
            replace p220 := eq_true p220
            replace q220 := eq_true q220
            go_enter Try.func47, Try.ntmps47
            try go_wp2
            have n0_ := Aside0.mk (below_drew1 HB.out)
            clear HB
            have HB := n0_
            clear n0_
            have p221 : 0 ≤ (a5 : Int) := of_decide_eq_true (by first | (with_reducible assumption) | assumption)
            have q221 : a5 < (l1.length : Int) := of_decide_eq_true (by first | (with_reducible assumption) | assumption)
            obtain ⟨ad221, e221, hx221_0, hx221_1⟩ := at_T25 HR1.out a5 p221 q221
            have hw221_1 := hx221_1
            have hw221_0 := hx221_0
            cases e221
            replace hx221_0 := (HB.out.cell (World.block_lt_of_cell? w _ hx221_0)).trans hx221_0
            replace hx221_1 := (HB.out.cell (World.block_lt_of_cell? w _ hx221_1)).trans hx221_1
            replace p221 := eq_true p221
            replace q221 := eq_true q221
            have p222 : 0 ≤ (a5 : Int) := of_decide_eq_true (by first | (with_reducible assumption) | assumption)
            have q222 : a5 < (l0.length : Int) := of_decide_eq_true (by first | (with_reducible assumption) | assumption)
            obtain ⟨ad222, e222, hx222_0, hx222_1, hx222_2, hx222_3, hx222_4⟩ := at_T50 HR0.out a5 p222 q222
            have hw222_4 := hx222_4
            have hw222_3 := hx222_3
            have hw222_2 := hx222_2
            have hw222_1 := hx222_1
            have hw222_0 := hx222_0
            obtain rfl : ad220 = ad222 := (by injection e222)
            replace hx222_0 := (HB.out.cell (World.block_lt_of_cell? w _ hx222_0)).trans hx222_0
            replace hx222_1 := (HB.out.cell (World.block_lt_of_cell? w _ hx222_1)).trans hx222_1
            replace hx222_2 := (HB.out.cell (World.block_lt_of_cell? w _ hx222_2)).trans hx222_2
            replace hx222_3 := (HB.out.cell (World.block_lt_of_cell? w _ hx222_3)).trans hx222_3
            replace hx222_4 := (HB.out.cell (World.block_lt_of_cell? w _ hx222_4)).trans hx222_4
            replace p222 := eq_true p222
            replace q222 := eq_true q222
            refine start_ (n := 12) (S := fun w' => w'.cell? (ad221.add ((a5).toNat * 2)) = some (.int .i64 ((rd_T25 l1 a5).f0)) ∧ w'.cell? ⟨(ad221.add ((a5).toNat * 2)).block, (ad221.add ((a5).toNat * 2)).off + 1, none⟩ = some (.int .i64 ((rd_T25 l1 a5).f1)) ∧ w'.cell? (ad220.add ((a5).toNat * 5)) = some (.int .i64 ((rd_T50 l0 a5).f0)) ∧ w'.cell? ⟨(ad220.add ((a5).toNat * 5)).block, (ad220.add ((a5).toNat * 5)).off + 1, none⟩ = some (.int .i64 ((rd_T50 l0 a5).f1)) ∧ w'.cell? ⟨(ad220.add ((a5).toNat * 5)).block, (ad220.add ((a5).toNat * 5)).off + 2, none⟩ = some (.int .i64 ((rd_T50 l0 a5).f2)) ∧ w'.cell? ⟨(ad220.add ((a5).toNat * 5)).block, (ad220.add ((a5).toNat * 5)).off + 3, none⟩ = some (.int .i64 ((rd_T50 l0 a5).f3.f0)) ∧ w'.cell? ⟨(ad220.add ((a5).toNat * 5)).block, (ad220.add ((a5).toNat * 5)).off + 4, none⟩ = some (.int .i64 ((rd_T50 l0 a5).f3.f1))) (ds := []) #[false, false, false, false, false, false, false, false, false, false, false, false] (by kernel_rfl) rfl rfl ⟨((HB.out.cell (World.block_lt_of_cell? w _ hw221_0)).trans hw221_0), ((HB.out.cell (World.block_lt_of_cell? w _ hw221_1)).trans hw221_1), ((HB.out.cell (World.block_lt_of_cell? w _ hw222_0)).trans hw222_0), ((HB.out.cell (World.block_lt_of_cell? w _ hw222_1)).trans hw222_1), ((HB.out.cell (World.block_lt_of_cell? w _ hw222_2)).trans hw222_2), ((HB.out.cell (World.block_lt_of_cell? w _ hw222_3)).trans hw222_3), ((HB.out.cell (World.block_lt_of_cell? w _ hw222_4)).trans hw222_4)⟩ (fun hHeld => ?_); refine with_tabW slotmeshref17_one.tab3 slotmeshref17_one.bits3 (fun HT_ HW_ => ?_)
            generalize w.drew = w15 at HB hx221_0 hx221_1 hx222_0 hx222_1 hx222_2 hx222_3 hx222_4 hHeld ⊢
            refine pure_ (i := 0) (N := some 21) (v := ?_) (a' := ?_) #[true, false, false, false, false, false, false, false, false, false, false, false] rfl rfl (any_of HT_.out (by kernel_rfl)) (fun _ _ _ h => h) (Or.inl ⟨by rfl, ?_⟩) ?_ ?_
            rotate_left
            · intro w'
              go_simp
              with_reducible rfl
            rotate_left
            · simp only [Act.put, List.setIfInBounds_toArray, List.set_cons_zero, List.set_cons_succ, i64_w, i32_w]
              rfl
            refine pure_ (i := 1) (N := some 22) (v := ?_) (a' := ?_) #[true, true, false, false, false, false, false, false, false, false, false, false] rfl rfl (any_of HT_.out (by kernel_rfl)) (fun _ _ _ h => h) (Or.inl ⟨by rfl, ?_⟩) ?_ ?_
            rotate_left
            · intro w'
              go_simp
              with_reducible rfl
            rotate_left
            · simp only [Act.put, List.setIfInBounds_toArray, List.set_cons_zero, List.set_cons_succ, i64_w, i32_w]
              rfl
            refine pure_ (i := 2) (N := some 23) (v := ?_) (a' := ?_) #[true, true, true, false, false, false, false, false, false, false, false, false] rfl rfl (any_of HT_.out (by kernel_rfl)) (fun _ _ _ h => h) (Or.inl ⟨by rfl, ?_⟩) ?_ ?_
            rotate_left
            · intro w'
              go_simp
              with_reducible rfl
            rotate_left
            · simp only [Act.put, List.setIfInBounds_toArray, List.set_cons_zero, List.set_cons_succ, i64_w, i32_w]
              rfl
            refine pure_ (i := 3) (N := some 24) (v := ?_) (a' := ?_) #[true, true, true, true, false, false, false, false, false, false, false, false] rfl rfl (any_of HT_.out (by kernel_rfl)) (fun _ _ _ h => h) (Or.inl ⟨by rfl, ?_⟩) ?_ ?_
            rotate_left
            · intro w'
              go_simp
              with_reducible rfl
            rotate_left
            · simp only [Act.put, List.setIfInBounds_toArray, List.set_cons_zero, List.set_cons_succ, i64_w, i32_w]
              rfl
            refine pure_ (i := 5) (N := some 26) (v := ?_) (a' := ?_) #[true, true, true, true, false, true, false, false, false, false, false, false] rfl rfl (any_of HT_.out (by kernel_rfl)) (fun _ _ _ h => h) (Or.inl ⟨by rfl, ?_⟩) ?_ ?_
            rotate_left
            · intro w'
              go_simp
              with_reducible rfl
            rotate_left
            · simp only [Act.put, List.setIfInBounds_toArray, List.set_cons_zero, List.set_cons_succ, i64_w, i32_w]
              rfl
            refine pure_ (i := 6) (N := some 27) (v := ?_) (a' := ?_) #[true, true, true, true, false, true, true, false, false, false, false, false] rfl rfl (any_of HT_.out (by kernel_rfl)) (fun _ _ _ h => h) (Or.inl ⟨by rfl, ?_⟩) ?_ ?_
            rotate_left
            · intro w'
              go_simp
              with_reducible rfl
            rotate_left
            · simp only [Act.put, List.setIfInBounds_toArray, List.set_cons_zero, List.set_cons_succ, i64_w, i32_w]
              rfl
            refine pure_ (i := 7) (N := some 28) (v := ?_) (a' := ?_) #[true, true, true, true, false, true, true, true, false, false, false, false] rfl rfl (any_of HT_.out (by kernel_rfl)) (fun _ _ _ h => h) (Or.inl ⟨by rfl, ?_⟩) ?_ ?_
            rotate_left
            · intro w'
              go_simp
              with_reducible rfl
            rotate_left
            · simp only [Act.put, List.setIfInBounds_toArray, List.set_cons_zero, List.set_cons_succ, i64_w, i32_w]
              rfl
            refine pure_ (i := 8) (N := some 29) (v := ?_) (a' := ?_) #[true, true, true, true, false, true, true, true, true, false, false, false] rfl rfl (any_of HT_.out (by kernel_rfl)) (fun _ _ _ h => h) (Or.inl ⟨by rfl, ?_⟩) ?_ ?_
            rotate_left
            · intro w'
              go_simp
              with_reducible rfl
            rotate_left
            · simp only [Act.put, List.setIfInBounds_toArray, List.set_cons_zero, List.set_cons_succ, i64_w, i32_w]
              rfl
            refine pure_ (i := 10) (N := some 31) (v := ?_) (a' := ?_) #[true, true, true, true, false, true, true, true, true, false, true, false] rfl rfl (any_of HT_.out (by kernel_rfl)) (fun _ _ _ h => h) (Or.inl ⟨by rfl, ?_⟩) ?_ ?_
            rotate_left
            · intro w'
              go_simp
              with_reducible rfl
            rotate_left
            · simp only [Act.put, List.setIfInBounds_toArray, List.set_cons_zero, List.set_cons_succ, i64_w, i32_w]
              rfl
            refine take_ (i := 4) (N := some 25) (v := ?_) (a' := ?_) #[true, true, true, true, true, true, true, true, true, false, true, false] rfl rfl (take_ofW HT_.out HW_.out (by kernel_rfl)) (fun _ _ _ h => h) (Or.inl ⟨by rfl, ?_⟩) hHeld ?_ ?_
            rotate_left
            · rintro w' ⟨s0, s1, s2, s3, s4, s5, s6⟩
              go_simp
              with_reducible rfl
            rotate_left
            · simp only [Act.put, List.setIfInBounds_toArray, List.set_cons_zero, List.set_cons_succ, i64_w, i32_w]
              rfl
            refine take_ (i := 9) (N := some 30) (v := ?_) (a' := ?_) #[true, true, true, true, true, true, true, true, true, true, true, false] rfl rfl (take_ofW HT_.out HW_.out (by kernel_rfl)) (fun _ _ _ h => h) (Or.inl ⟨by rfl, ?_⟩) hHeld ?_ ?_
            rotate_left
            · rintro w' ⟨s0, s1, s2, s3, s4, s5, s6⟩
              go_simp
              with_reducible rfl
            rotate_left
            · simp only [Act.put, List.setIfInBounds_toArray, List.set_cons_zero, List.set_cons_succ, i64_w, i32_w]
              rfl
            refine one_ (i := 11) (N := some 32) #[true, true, true, true, true, true, true, true, true, true, true, true] rfl rfl (one_of HT_.out (by kernel_rfl)) (by decide) (fun K hK => ?_)
            refine goes_ Try.func24 (by kernel_rfl) rfl #[.slice A3 l3.length c3, .agg #[.int .i64 ((rd_T25 l1 a5).f0), .int .i64 ((rd_T25 l1 a5).f1)], .int .i64 ((rd_T50 l0 a5).f1), .int .i64 a4] (by rfl) rfl rfl (by (try simp only [List.map_toArray, List.map_cons, List.map_nil]); first | done | rfl | (simp only [List.length_drop, List.length_take]; rfl)) ?_
            with_reducible refine (slotmeshref16_Jammed.calls k _ _ l3 ((rd_T25 l1 a5).f0) ((rd_T25 l1 a5).f1) ((rd_T50 l0 a5).f1) a4 false _ ?side1 ?side2 A11.out).mono ?_
            (case side1 => repeat (first | exact (Kd.C_below HR3.out HB.out) | (with_reducible refine Kd.C_alloc ?_ _) | (with_reducible refine Kd.C_drewN ?_ _) | (with_reducible refine Kd.C_drew ?_)))
            (case side2 => exact HC3.out)
            rintro e w16 ⟨rfl, hb⟩
            refine ⟨_, rfl, ?_⟩
            have n0_ := Aside0.mk (below_step (by repeat (first | (with_reducible first | exact HB.out | apply below_alloc | apply pw_below_drewN | apply below_drew1) | exact HB.out)) hb)
            clear HB
            have HB := n0_
            clear n0_
            (try clear hb)
            (try clear hb2)
            (try clear hk)
            (try clear hi)
            refine hK.out _ _ ⟨((HB.out.cell (World.block_lt_of_cell? w _ hw221_0)).trans hw221_0), ((HB.out.cell (World.block_lt_of_cell? w _ hw221_1)).trans hw221_1), ((HB.out.cell (World.block_lt_of_cell? w _ hw222_0)).trans hw222_0), ((HB.out.cell (World.block_lt_of_cell? w _ hw222_1)).trans hw222_1), ((HB.out.cell (World.block_lt_of_cell? w _ hw222_2)).trans hw222_2), ((HB.out.cell (World.block_lt_of_cell? w _ hw222_3)).trans hw222_3), ((HB.out.cell (World.block_lt_of_cell? w _ hw222_4)).trans hw222_4)⟩ (fun hHeld => ?_)
            clear hK K
            refine norm_ (a' := ?_) ?_ ?_
            rotate_left
            · show Act.put _ (some 32) _ = _
              simp only [Act.put, List.setIfInBounds_toArray, List.set_cons_zero, List.set_cons_succ, i64_w, i32_w]
              rfl
            refine done_ (done_of HT_.out (by kernel_rfl)) ?_
            try go_wp2
            go_loopg [13, 14] k (fun kq v13 v14 w' => ∃ (x13_1 : Int) (x14_1 : Int), v13 = .int .i64 x13_1 ∧ v14 = .int .i64 x14_1 ∧ Aside0 (slotmeshref17_one.l0 kq l0 l1 a2 a5 x13_1 x14_1 = some r) ∧ Aside0 (kq ≤ k) ∧ Aside0 (Below w.heap.size w w'))
            case atStart => exact ⟨((-1)), (0), (by first | rfl | (simp; done) | (simp [*]; done)), (by first | rfl | (simp; done) | (simp [*]; done)), H', ⟨Nat.le_refl _⟩, ⟨by repeat (first | (with_reducible first | exact HB.out | apply below_alloc | apply pw_below_drewN | apply below_drew1) | exact HB.out)⟩⟩
            case round =>
              clear H'
              try clear c1
              try clear c2
              try clear p2
              try clear q2
              try clear hx2
              try clear c3
              try clear c4
              try clear c7
              try clear c7b0
              try clear c8
              try clear c8b0
              try clear c9
              try clear c9b0
              try clear c9b1
              try clear c10
              try clear c10b0
              try clear c12
              try clear hx220_0
              try clear hx220_1
              try clear hx220_2
              try clear hx220_3
              try clear hx220_4
              try clear hx221_0
              try clear hx221_1
              try clear hx222_0
              try clear hx222_1
              try clear hx222_2
              try clear hx222_3
              try clear hx222_4
              try clear p220
              try clear p221
              try clear p222
              try clear q220
              try clear q221
              try clear q222
              obtain ⟨x13_1, x14_1, rfl, rfl, HA, HK1, HB⟩ := hrel
              cases gk with
              | zero => exact absurd HA.out (by simp [slotmeshref17_one.l0])
              | succ k1 =>
                have H := HA.out
                clear HA
                simp only [slotmeshref17_one.l0] at H
                by_cases c17 : x14_1 < (l0.length : Int)
                · rw [if_pos c17] at H
                  have c17b0 : decide (x14_1 < (l0.length : Int)) = true := decide_eq_true c17
                  clear c17
                  replace H := Option.bind_eq_some_iff.mp H
                  obtain ⟨t227, A180, H⟩ := H
                  replace H : (if t227 = true then (if x13_1 ≥ 0 then (some (-2)) else (slotmeshref17_one.l0 k1 l0 l1 a2 a5 x14_1 (wrap64 (x14_1 + 1)))) else (slotmeshref17_one.l0 k1 l0 l1 a2 a5 x13_1 (wrap64 (x14_1 + 1)))) = some r := H
                  have A18 := Aside0.mk A180
                  clear A180
                  by_cases c19 : t227 = true
                  · subst c19
                    have H1 : (if x13_1 ≥ 0 then (some (-2)) else (slotmeshref17_one.l0 k1 l0 l1 a2 a5 x14_1 (wrap64 (x14_1 + 1)))) = some r := by rw [if_pos rfl] at H; exact H
                    clear H
                    have H := H1
                    clear H1
                    by_cases c20 : x13_1 ≥ 0
                    · rw [if_pos c20] at H
                      have c20b0 : decide (0 ≤ x13_1) = true := decide_eq_true c20
                      clear c20
                      obtain rfl := Option.some.inj H
                      go_wp2_with (first | ((with_reducible refine gate_callee (f := 53) rfl ?_); refine goesL_ (some 44) rfl rfl Try.func53 (by kernel_rfl) rfl #[.slice (some ad220) l0.length c0, .slice (some ad221) l1.length c1, .int .i64 a2, .int .i64 x14_1, .int .i64 a5] rfl (by (try simp only [List.map_toArray, List.map_cons, List.map_nil]); first | done | rfl | (simp only [List.length_drop, List.length_take]; rfl)) ?_; (with_reducible refine (slotmeshref17_Heard.calls _ _ l0 _ _ l1 a2 x14_1 a5 true _ ?side1 ?side2 ?side3 ?side4 A18.out).mono ?_); (case side1 => repeat (first | exact (Kd.C_below HR0.out HB.out) | (with_reducible refine Kd.C_alloc ?_ _) | (with_reducible refine Kd.C_drewN ?_ _) | (with_reducible refine Kd.C_drew ?_))); (case side2 => exact HC0.out); (case side3 => repeat (first | exact (Kd.C_below HR1.out HB.out) | (with_reducible refine Kd.C_alloc ?_ _) | (with_reducible refine Kd.C_drewN ?_ _) | (with_reducible refine Kd.C_drew ?_))); (case side4 => exact HC1.out); rintro e w21 ⟨rfl, hb⟩; refine ⟨_, rfl, ?_⟩; have n0_ := Aside0.mk (below_step (by repeat (first | (with_reducible first | exact HB.out | apply below_alloc | apply pw_below_drewN | apply below_drew1) | exact HB.out)) hb); clear HB; have HB := n0_; clear n0_; (try clear hb); (try clear hb2); (try clear hk); (try clear hi)))
                      go_ret
                      exact ⟨by first | rfl | (simp [errW_none, errW_some] <;> rfl) | (simp [*, errW_none, errW_some] <;> rfl), by repeat (first | (with_reducible first | exact HB.out | apply below_alloc | apply pw_below_drewN | apply below_drew1) | exact HB.out)⟩
                    · rw [if_neg c20] at H
                      have c20b0 : decide (0 ≤ x13_1) = false := decide_eq_false c20
                      clear c20
                      have H' := Aside0.mk H
                      clear H
                      go_wp2_with (first | ((with_reducible refine gate_callee (f := 53) rfl ?_); refine goesL_ (some 44) rfl rfl Try.func53 (by kernel_rfl) rfl #[.slice (some ad220) l0.length c0, .slice (some ad221) l1.length c1, .int .i64 a2, .int .i64 x14_1, .int .i64 a5] rfl (by (try simp only [List.map_toArray, List.map_cons, List.map_nil]); first | done | rfl | (simp only [List.length_drop, List.length_take]; rfl)) ?_; (with_reducible refine (slotmeshref17_Heard.calls _ _ l0 _ _ l1 a2 x14_1 a5 true _ ?side1 ?side2 ?side3 ?side4 A18.out).mono ?_); (case side1 => repeat (first | exact (Kd.C_below HR0.out HB.out) | (with_reducible refine Kd.C_alloc ?_ _) | (with_reducible refine Kd.C_drewN ?_ _) | (with_reducible refine Kd.C_drew ?_))); (case side2 => exact HC0.out); (case side3 => repeat (first | exact (Kd.C_below HR1.out HB.out) | (with_reducible refine Kd.C_alloc ?_ _) | (with_reducible refine Kd.C_drewN ?_ _) | (with_reducible refine Kd.C_drew ?_))); (case side4 => exact HC1.out); rintro e w22 ⟨rfl, hb⟩; refine ⟨_, rfl, ?_⟩; have n0_ := Aside0.mk (below_step (by repeat (first | (with_reducible first | exact HB.out | apply below_alloc | apply pw_below_drewN | apply below_drew1) | exact HB.out)) hb); clear HB; have HB := n0_; clear n0_; (try clear hb); (try clear hb2); (try clear hk); (try clear hi)))
                      go_roundg k1
                      case measure => have := HK1.out; omega
                      case rel => exact ⟨(x14_1), (wrap64 (x14_1 + 1)), (by first | rfl | (simp; done) | (simp [*]; done)), (by first | rfl | (simp; done) | (simp [*]; done)), H', ⟨by have := HK1.out; omega⟩, ⟨by repeat (first | (with_reducible first | exact HB.out | apply below_alloc | apply pw_below_drewN | apply below_drew1) | exact HB.out)⟩⟩
                  · replace c19 := Bool.eq_false_iff.mpr c19
                    subst c19
                    have H1 : (slotmeshref17_one.l0 k1 l0 l1 a2 a5 x13_1 (wrap64 (x14_1 + 1))) = some r := by rw [if_neg (show ¬ (false = true) by decide)] at H; exact H
                    clear H
                    have H := H1
                    clear H1
                    have H' := Aside0.mk H
                    clear H
                    go_wp2_with (first | ((with_reducible refine gate_callee (f := 53) rfl ?_); refine goesL_ (some 44) rfl rfl Try.func53 (by kernel_rfl) rfl #[.slice (some ad220) l0.length c0, .slice (some ad221) l1.length c1, .int .i64 a2, .int .i64 x14_1, .int .i64 a5] rfl (by (try simp only [List.map_toArray, List.map_cons, List.map_nil]); first | done | rfl | (simp only [List.length_drop, List.length_take]; rfl)) ?_; (with_reducible refine (slotmeshref17_Heard.calls _ _ l0 _ _ l1 a2 x14_1 a5 false _ ?side1 ?side2 ?side3 ?side4 A18.out).mono ?_); (case side1 => repeat (first | exact (Kd.C_below HR0.out HB.out) | (with_reducible refine Kd.C_alloc ?_ _) | (with_reducible refine Kd.C_drewN ?_ _) | (with_reducible refine Kd.C_drew ?_))); (case side2 => exact HC0.out); (case side3 => repeat (first | exact (Kd.C_below HR1.out HB.out) | (with_reducible refine Kd.C_alloc ?_ _) | (with_reducible refine Kd.C_drewN ?_ _) | (with_reducible refine Kd.C_drew ?_))); (case side4 => exact HC1.out); rintro e w23 ⟨rfl, hb⟩; refine ⟨_, rfl, ?_⟩; have n0_ := Aside0.mk (below_step (by repeat (first | (with_reducible first | exact HB.out | apply below_alloc | apply pw_below_drewN | apply below_drew1) | exact HB.out)) hb); clear HB; have HB := n0_; clear n0_; (try clear hb); (try clear hb2); (try clear hk); (try clear hi)))
                    go_roundg k1
                    case measure => have := HK1.out; omega
                    case rel => exact ⟨(x13_1), (wrap64 (x14_1 + 1)), (by first | rfl | (simp; done) | (simp [*]; done)), (by first | rfl | (simp; done) | (simp [*]; done)), H', ⟨by have := HK1.out; omega⟩, ⟨by repeat (first | (with_reducible first | exact HB.out | apply below_alloc | apply pw_below_drewN | apply below_drew1) | exact HB.out)⟩⟩
                · rw [if_neg c17] at H
                  have c17b0 : decide (x14_1 < (l0.length : Int)) = false := decide_eq_false c17
                  clear c17
                  by_cases c24 : x13_1 ≥ 0
                  · rw [if_pos c24] at H
                    have c24b0 : decide (0 ≤ x13_1) = true := decide_eq_true c24
                    clear c24
                    by_cases c25 : 0 ≤ x13_1
                    · rw [if_pos c25] at H
                      have c25b0 : decide (0 ≤ x13_1) = true := decide_eq_true c25
                      clear c25
                      by_cases c26 : x13_1 < (l0.length : Int)
                      · rw [if_pos c26] at H
                        have c26b0 : decide (x13_1 < (l0.length : Int)) = true := decide_eq_true c26
                        clear c26
                        by_cases c27 : 0 ≤ a5
                        · rw [if_pos c27] at H
                          have c27b0 : decide (0 ≤ a5) = true := decide_eq_true c27
                          clear c27
                          by_cases c28 : a5 < (l0.length : Int)
                          · rw [if_pos c28] at H
                            have c28b0 : decide (a5 < (l0.length : Int)) = true := decide_eq_true c28
                            clear c28
                            replace H := Option.bind_eq_some_iff.mp H
                            obtain ⟨t226, A290, H⟩ := H
                            replace H : (if t226 = true then (some x13_1) else (some (-1))) = some r := H
                            have A29 := Aside0.mk A290
                            clear A290
                            by_cases c30 : t226 = true
                            · subst c30
                              have H1 : (some x13_1) = some r := by rw [if_pos rfl] at H; exact H
                              clear H
                              have H := H1
                              clear H1
                              obtain rfl := Option.some.inj H
                              try go_wp2
                              have n0_ := Aside0.mk (below_drew1 HB.out)
                              clear HB
                              have HB := n0_
                              clear n0_
                              have p224 : 0 ≤ (x13_1 : Int) := of_decide_eq_true (by first | (with_reducible assumption) | assumption)
                              have q224 : x13_1 < (l0.length : Int) := of_decide_eq_true (by first | (with_reducible assumption) | assumption)
                              obtain ⟨ad224, e224, hx224_0, hx224_1, hx224_2, hx224_3, hx224_4⟩ := at_T50 HR0.out x13_1 p224 q224
                              have hw224_4 := hx224_4
                              have hw224_3 := hx224_3
                              have hw224_2 := hx224_2
                              have hw224_1 := hx224_1
                              have hw224_0 := hx224_0
                              obtain rfl : ad220 = ad224 := (by injection e224)
                              replace hx224_0 := (HB.out.cell (World.block_lt_of_cell? w _ hx224_0)).trans hx224_0
                              replace hx224_1 := (HB.out.cell (World.block_lt_of_cell? w _ hx224_1)).trans hx224_1
                              replace hx224_2 := (HB.out.cell (World.block_lt_of_cell? w _ hx224_2)).trans hx224_2
                              replace hx224_3 := (HB.out.cell (World.block_lt_of_cell? w _ hx224_3)).trans hx224_3
                              replace hx224_4 := (HB.out.cell (World.block_lt_of_cell? w _ hx224_4)).trans hx224_4
                              replace p224 := eq_true p224
                              replace q224 := eq_true q224
                              have p225 : 0 ≤ (a5 : Int) := of_decide_eq_true (by first | (with_reducible assumption) | assumption)
                              have q225 : a5 < (l0.length : Int) := of_decide_eq_true (by first | (with_reducible assumption) | assumption)
                              obtain ⟨ad225, e225, hx225_0, hx225_1, hx225_2, hx225_3, hx225_4⟩ := at_T50 HR0.out a5 p225 q225
                              have hw225_4 := hx225_4
                              have hw225_3 := hx225_3
                              have hw225_2 := hx225_2
                              have hw225_1 := hx225_1
                              have hw225_0 := hx225_0
                              obtain rfl : ad220 = ad225 := (by injection e225)
                              replace hx225_0 := (HB.out.cell (World.block_lt_of_cell? w _ hx225_0)).trans hx225_0
                              replace hx225_1 := (HB.out.cell (World.block_lt_of_cell? w _ hx225_1)).trans hx225_1
                              replace hx225_2 := (HB.out.cell (World.block_lt_of_cell? w _ hx225_2)).trans hx225_2
                              replace hx225_3 := (HB.out.cell (World.block_lt_of_cell? w _ hx225_3)).trans hx225_3
                              replace hx225_4 := (HB.out.cell (World.block_lt_of_cell? w _ hx225_4)).trans hx225_4
                              replace p225 := eq_true p225
                              replace q225 := eq_true q225
                              refine start_ (n := 15) (S := fun w' => w'.cell? (ad220.add ((x13_1).toNat * 5)) = some (.int .i64 ((rd_T50 l0 x13_1).f0)) ∧ w'.cell? ⟨(ad220.add ((x13_1).toNat * 5)).block, (ad220.add ((x13_1).toNat * 5)).off + 1, none⟩ = some (.int .i64 ((rd_T50 l0 x13_1).f1)) ∧ w'.cell? ⟨(ad220.add ((x13_1).toNat * 5)).block, (ad220.add ((x13_1).toNat * 5)).off + 2, none⟩ = some (.int .i64 ((rd_T50 l0 x13_1).f2)) ∧ w'.cell? ⟨(ad220.add ((x13_1).toNat * 5)).block, (ad220.add ((x13_1).toNat * 5)).off + 3, none⟩ = some (.int .i64 ((rd_T50 l0 x13_1).f3.f0)) ∧ w'.cell? ⟨(ad220.add ((x13_1).toNat * 5)).block, (ad220.add ((x13_1).toNat * 5)).off + 4, none⟩ = some (.int .i64 ((rd_T50 l0 x13_1).f3.f1)) ∧ w'.cell? (ad220.add ((a5).toNat * 5)) = some (.int .i64 ((rd_T50 l0 a5).f0)) ∧ w'.cell? ⟨(ad220.add ((a5).toNat * 5)).block, (ad220.add ((a5).toNat * 5)).off + 1, none⟩ = some (.int .i64 ((rd_T50 l0 a5).f1)) ∧ w'.cell? ⟨(ad220.add ((a5).toNat * 5)).block, (ad220.add ((a5).toNat * 5)).off + 2, none⟩ = some (.int .i64 ((rd_T50 l0 a5).f2)) ∧ w'.cell? ⟨(ad220.add ((a5).toNat * 5)).block, (ad220.add ((a5).toNat * 5)).off + 3, none⟩ = some (.int .i64 ((rd_T50 l0 a5).f3.f0)) ∧ w'.cell? ⟨(ad220.add ((a5).toNat * 5)).block, (ad220.add ((a5).toNat * 5)).off + 4, none⟩ = some (.int .i64 ((rd_T50 l0 a5).f3.f1))) (ds := []) #[false, false, false, false, false, false, false, false, false, false, false, false, false, false, false] (by kernel_rfl) rfl rfl ⟨((HB.out.cell (World.block_lt_of_cell? w _ hw224_0)).trans hw224_0), ((HB.out.cell (World.block_lt_of_cell? w _ hw224_1)).trans hw224_1), ((HB.out.cell (World.block_lt_of_cell? w _ hw224_2)).trans hw224_2), ((HB.out.cell (World.block_lt_of_cell? w _ hw224_3)).trans hw224_3), ((HB.out.cell (World.block_lt_of_cell? w _ hw224_4)).trans hw224_4), ((HB.out.cell (World.block_lt_of_cell? w _ hw225_0)).trans hw225_0), ((HB.out.cell (World.block_lt_of_cell? w _ hw225_1)).trans hw225_1), ((HB.out.cell (World.block_lt_of_cell? w _ hw225_2)).trans hw225_2), ((HB.out.cell (World.block_lt_of_cell? w _ hw225_3)).trans hw225_3), ((HB.out.cell (World.block_lt_of_cell? w _ hw225_4)).trans hw225_4)⟩ (fun hHeld => ?_); refine with_tabW slotmeshref17_one.tab13 slotmeshref17_one.bits13 (fun HT_ HW_ => ?_)
                              generalize wr.drew = w31 at HB hx224_0 hx224_1 hx224_2 hx224_3 hx224_4 hx225_0 hx225_1 hx225_2 hx225_3 hx225_4 hHeld ⊢
                              refine pure_ (i := 0) (N := some 48) (v := ?_) (a' := ?_) #[true, false, false, false, false, false, false, false, false, false, false, false, false, false, false] rfl rfl (any_of HT_.out (by kernel_rfl)) (fun _ _ _ h => h) (Or.inl ⟨by rfl, ?_⟩) ?_ ?_
                              rotate_left
                              · intro w'
                                go_simp
                                with_reducible rfl
                              rotate_left
                              · simp only [Act.put, List.setIfInBounds_toArray, List.set_cons_zero, List.set_cons_succ, i64_w, i32_w]
                                rfl
                              refine pure_ (i := 1) (N := some 49) (v := ?_) (a' := ?_) #[true, true, false, false, false, false, false, false, false, false, false, false, false, false, false] rfl rfl (any_of HT_.out (by kernel_rfl)) (fun _ _ _ h => h) (Or.inl ⟨by rfl, ?_⟩) ?_ ?_
                              rotate_left
                              · intro w'
                                go_simp
                                with_reducible rfl
                              rotate_left
                              · simp only [Act.put, List.setIfInBounds_toArray, List.set_cons_zero, List.set_cons_succ, i64_w, i32_w]
                                rfl
                              refine pure_ (i := 2) (N := some 50) (v := ?_) (a' := ?_) #[true, true, true, false, false, false, false, false, false, false, false, false, false, false, false] rfl rfl (any_of HT_.out (by kernel_rfl)) (fun _ _ _ h => h) (Or.inl ⟨by rfl, ?_⟩) ?_ ?_
                              rotate_left
                              · intro w'
                                go_simp
                                with_reducible rfl
                              rotate_left
                              · simp only [Act.put, List.setIfInBounds_toArray, List.set_cons_zero, List.set_cons_succ, i64_w, i32_w]
                                rfl
                              refine pure_ (i := 3) (N := some 51) (v := ?_) (a' := ?_) #[true, true, true, true, false, false, false, false, false, false, false, false, false, false, false] rfl rfl (any_of HT_.out (by kernel_rfl)) (fun _ _ _ h => h) (Or.inl ⟨by rfl, ?_⟩) ?_ ?_
                              rotate_left
                              · intro w'
                                go_simp
                                with_reducible rfl
                              rotate_left
                              · simp only [Act.put, List.setIfInBounds_toArray, List.set_cons_zero, List.set_cons_succ, i64_w, i32_w]
                                rfl
                              refine pure_ (i := 4) (N := some 52) (v := ?_) (a' := ?_) #[true, true, true, true, true, false, false, false, false, false, false, false, false, false, false] rfl rfl (any_of HT_.out (by kernel_rfl)) (fun _ _ _ h => h) (Or.inl ⟨by rfl, ?_⟩) ?_ ?_
                              rotate_left
                              · intro w'
                                go_simp
                                with_reducible rfl
                              rotate_left
                              · simp only [Act.put, List.setIfInBounds_toArray, List.set_cons_zero, List.set_cons_succ, i64_w, i32_w]
                                rfl
                              refine pure_ (i := 5) (N := some 53) (v := ?_) (a' := ?_) #[true, true, true, true, true, true, false, false, false, false, false, false, false, false, false] rfl rfl (any_of HT_.out (by kernel_rfl)) (fun _ _ _ h => h) (Or.inl ⟨by rfl, ?_⟩) ?_ ?_
                              rotate_left
                              · intro w'
                                go_simp
                                with_reducible rfl
                              rotate_left
                              · simp only [Act.put, List.setIfInBounds_toArray, List.set_cons_zero, List.set_cons_succ, i64_w, i32_w]
                                rfl
                              refine pure_ (i := 6) (N := some 54) (v := ?_) (a' := ?_) #[true, true, true, true, true, true, true, false, false, false, false, false, false, false, false] rfl rfl (any_of HT_.out (by kernel_rfl)) (fun _ _ _ h => h) (Or.inl ⟨by rfl, ?_⟩) ?_ ?_
                              rotate_left
                              · intro w'
                                go_simp
                                with_reducible rfl
                              rotate_left
                              · simp only [Act.put, List.setIfInBounds_toArray, List.set_cons_zero, List.set_cons_succ, i64_w, i32_w]
                                rfl
                              refine pure_ (i := 8) (N := some 56) (v := ?_) (a' := ?_) #[true, true, true, true, true, true, true, false, true, false, false, false, false, false, false] rfl rfl (any_of HT_.out (by kernel_rfl)) (fun _ _ _ h => h) (Or.inl ⟨by rfl, ?_⟩) ?_ ?_
                              rotate_left
                              · intro w'
                                go_simp
                                with_reducible rfl
                              rotate_left
                              · simp only [Act.put, List.setIfInBounds_toArray, List.set_cons_zero, List.set_cons_succ, i64_w, i32_w]
                                rfl
                              refine pure_ (i := 9) (N := some 57) (v := ?_) (a' := ?_) #[true, true, true, true, true, true, true, false, true, true, false, false, false, false, false] rfl rfl (any_of HT_.out (by kernel_rfl)) (fun _ _ _ h => h) (Or.inl ⟨by rfl, ?_⟩) ?_ ?_
                              rotate_left
                              · intro w'
                                go_simp
                                with_reducible rfl
                              rotate_left
                              · simp only [Act.put, List.setIfInBounds_toArray, List.set_cons_zero, List.set_cons_succ, i64_w, i32_w]
                                rfl
                              refine pure_ (i := 10) (N := some 58) (v := ?_) (a' := ?_) #[true, true, true, true, true, true, true, false, true, true, true, false, false, false, false] rfl rfl (any_of HT_.out (by kernel_rfl)) (fun _ _ _ h => h) (Or.inl ⟨by rfl, ?_⟩) ?_ ?_
                              rotate_left
                              · intro w'
                                go_simp
                                with_reducible rfl
                              rotate_left
                              · simp only [Act.put, List.setIfInBounds_toArray, List.set_cons_zero, List.set_cons_succ, i64_w, i32_w]
                                rfl
                              refine pure_ (i := 11) (N := some 59) (v := ?_) (a' := ?_) #[true, true, true, true, true, true, true, false, true, true, true, true, false, false, false] rfl rfl (any_of HT_.out (by kernel_rfl)) (fun _ _ _ h => h) (Or.inl ⟨by rfl, ?_⟩) ?_ ?_
                              rotate_left
                              · intro w'
                                go_simp
                                with_reducible rfl
                              rotate_left
                              · simp only [Act.put, List.setIfInBounds_toArray, List.set_cons_zero, List.set_cons_succ, i64_w, i32_w]
                                rfl
                              refine take_ (i := 7) (N := some 55) (v := ?_) (a' := ?_) #[true, true, true, true, true, true, true, true, true, true, true, true, false, false, false] rfl rfl (take_ofW HT_.out HW_.out (by kernel_rfl)) (fun _ _ _ h => h) (Or.inl ⟨by rfl, ?_⟩) hHeld ?_ ?_
                              rotate_left
                              · rintro w' ⟨s0, s1, s2, s3, s4, s5, s6, s7, s8, s9⟩
                                go_simp
                                with_reducible rfl
                              rotate_left
                              · simp only [Act.put, List.setIfInBounds_toArray, List.set_cons_zero, List.set_cons_succ, i64_w, i32_w]
                                rfl
                              refine take_ (i := 12) (N := some 60) (v := ?_) (a' := ?_) #[true, true, true, true, true, true, true, true, true, true, true, true, true, false, false] rfl rfl (take_ofW HT_.out HW_.out (by kernel_rfl)) (fun _ _ _ h => h) (Or.inl ⟨by rfl, ?_⟩) hHeld ?_ ?_
                              rotate_left
                              · rintro w' ⟨s0, s1, s2, s3, s4, s5, s6, s7, s8, s9⟩
                                go_simp
                                with_reducible rfl
                              rotate_left
                              · simp only [Act.put, List.setIfInBounds_toArray, List.set_cons_zero, List.set_cons_succ, i64_w, i32_w]
                                rfl
                              refine one_ (i := 13) (N := some 61) #[true, true, true, true, true, true, true, true, true, true, true, true, true, true, false] rfl rfl (one_of HT_.out (by kernel_rfl)) (by decide) (fun K hK => ?_)
                              refine goes_ Try.func54 (by kernel_rfl) rfl #[.int .i64 ((rd_T50 l0 x13_1).f2), .agg #[.int .i64 ((rd_T50 l0 a5).f3.f0), .int .i64 ((rd_T50 l0 a5).f3.f1)]] (by rfl) rfl rfl (by (try simp only [List.map_toArray, List.map_cons, List.map_nil]); first | done | rfl | (simp only [List.length_drop, List.length_take]; rfl)) ?_
                              with_reducible refine (slotmeshref10_Catches.calls ((rd_T50 l0 x13_1).f2) ((rd_T50 l0 a5).f3.f0) ((rd_T50 l0 a5).f3.f1) true _ A29.out).mono ?_
                              rintro e w32 ⟨rfl, hb⟩
                              refine ⟨_, rfl, ?_⟩
                              have n0_ := Aside0.mk (below_step (by repeat (first | (with_reducible first | exact HB.out | apply below_alloc | apply pw_below_drewN | apply below_drew1) | exact HB.out)) hb)
                              clear HB
                              have HB := n0_
                              clear n0_
                              (try clear hb)
                              (try clear hb2)
                              (try clear hk)
                              (try clear hi)
                              refine hK.out _ _ ⟨((HB.out.cell (World.block_lt_of_cell? w _ hw224_0)).trans hw224_0), ((HB.out.cell (World.block_lt_of_cell? w _ hw224_1)).trans hw224_1), ((HB.out.cell (World.block_lt_of_cell? w _ hw224_2)).trans hw224_2), ((HB.out.cell (World.block_lt_of_cell? w _ hw224_3)).trans hw224_3), ((HB.out.cell (World.block_lt_of_cell? w _ hw224_4)).trans hw224_4), ((HB.out.cell (World.block_lt_of_cell? w _ hw225_0)).trans hw225_0), ((HB.out.cell (World.block_lt_of_cell? w _ hw225_1)).trans hw225_1), ((HB.out.cell (World.block_lt_of_cell? w _ hw225_2)).trans hw225_2), ((HB.out.cell (World.block_lt_of_cell? w _ hw225_3)).trans hw225_3), ((HB.out.cell (World.block_lt_of_cell? w _ hw225_4)).trans hw225_4)⟩ (fun hHeld => ?_)
                              clear hK K
                              refine norm_ (a' := ?_) ?_ ?_
                              rotate_left
                              · show Act.put _ (some 61) _ = _
                                simp only [Act.put, List.setIfInBounds_toArray, List.set_cons_zero, List.set_cons_succ, i64_w, i32_w]
                                rfl
                              refine pure_ (i := 14) (N := some 62) (v := ?_) (a' := ?_) #[true, true, true, true, true, true, true, true, true, true, true, true, true, true, true] rfl rfl (any_of HT_.out (by kernel_rfl)) (fun _ _ _ h => h) (Or.inl ⟨by rfl, ?_⟩) ?_ ?_
                              rotate_left
                              · intro w'
                                go_simp
                                with_reducible rfl
                              rotate_left
                              · simp only [Act.put, List.setIfInBounds_toArray, List.set_cons_zero, List.set_cons_succ, i64_w, i32_w]
                                rfl
                              refine done_ (done_of HT_.out (by kernel_rfl)) ?_
                              try go_wp2
                              go_ret
                              exact ⟨by first | rfl | (simp [errW_none, errW_some] <;> rfl) | (simp [*, errW_none, errW_some] <;> rfl), by repeat (first | (with_reducible first | exact HB.out | apply below_alloc | apply pw_below_drewN | apply below_drew1) | exact HB.out)⟩
                            · replace c30 := Bool.eq_false_iff.mpr c30
                              subst c30
                              have H1 : (some (-1)) = some r := by rw [if_neg (show ¬ (false = true) by decide)] at H; exact H
                              clear H
                              have H := H1
                              clear H1
                              obtain rfl := Option.some.inj H
                              try go_wp2
                              have n0_ := Aside0.mk (below_drew1 HB.out)
                              clear HB
                              have HB := n0_
                              clear n0_
                              have p224 : 0 ≤ (x13_1 : Int) := of_decide_eq_true (by first | (with_reducible assumption) | assumption)
                              have q224 : x13_1 < (l0.length : Int) := of_decide_eq_true (by first | (with_reducible assumption) | assumption)
                              obtain ⟨ad224, e224, hx224_0, hx224_1, hx224_2, hx224_3, hx224_4⟩ := at_T50 HR0.out x13_1 p224 q224
                              have hw224_4 := hx224_4
                              have hw224_3 := hx224_3
                              have hw224_2 := hx224_2
                              have hw224_1 := hx224_1
                              have hw224_0 := hx224_0
                              obtain rfl : ad220 = ad224 := (by injection e224)
                              replace hx224_0 := (HB.out.cell (World.block_lt_of_cell? w _ hx224_0)).trans hx224_0
                              replace hx224_1 := (HB.out.cell (World.block_lt_of_cell? w _ hx224_1)).trans hx224_1
                              replace hx224_2 := (HB.out.cell (World.block_lt_of_cell? w _ hx224_2)).trans hx224_2
                              replace hx224_3 := (HB.out.cell (World.block_lt_of_cell? w _ hx224_3)).trans hx224_3
                              replace hx224_4 := (HB.out.cell (World.block_lt_of_cell? w _ hx224_4)).trans hx224_4
                              replace p224 := eq_true p224
                              replace q224 := eq_true q224
                              have p225 : 0 ≤ (a5 : Int) := of_decide_eq_true (by first | (with_reducible assumption) | assumption)
                              have q225 : a5 < (l0.length : Int) := of_decide_eq_true (by first | (with_reducible assumption) | assumption)
                              obtain ⟨ad225, e225, hx225_0, hx225_1, hx225_2, hx225_3, hx225_4⟩ := at_T50 HR0.out a5 p225 q225
                              have hw225_4 := hx225_4
                              have hw225_3 := hx225_3
                              have hw225_2 := hx225_2
                              have hw225_1 := hx225_1
                              have hw225_0 := hx225_0
                              obtain rfl : ad220 = ad225 := (by injection e225)
                              replace hx225_0 := (HB.out.cell (World.block_lt_of_cell? w _ hx225_0)).trans hx225_0
                              replace hx225_1 := (HB.out.cell (World.block_lt_of_cell? w _ hx225_1)).trans hx225_1
                              replace hx225_2 := (HB.out.cell (World.block_lt_of_cell? w _ hx225_2)).trans hx225_2
                              replace hx225_3 := (HB.out.cell (World.block_lt_of_cell? w _ hx225_3)).trans hx225_3
                              replace hx225_4 := (HB.out.cell (World.block_lt_of_cell? w _ hx225_4)).trans hx225_4
                              replace p225 := eq_true p225
                              replace q225 := eq_true q225
                              refine start_ (n := 15) (S := fun w' => w'.cell? (ad220.add ((x13_1).toNat * 5)) = some (.int .i64 ((rd_T50 l0 x13_1).f0)) ∧ w'.cell? ⟨(ad220.add ((x13_1).toNat * 5)).block, (ad220.add ((x13_1).toNat * 5)).off + 1, none⟩ = some (.int .i64 ((rd_T50 l0 x13_1).f1)) ∧ w'.cell? ⟨(ad220.add ((x13_1).toNat * 5)).block, (ad220.add ((x13_1).toNat * 5)).off + 2, none⟩ = some (.int .i64 ((rd_T50 l0 x13_1).f2)) ∧ w'.cell? ⟨(ad220.add ((x13_1).toNat * 5)).block, (ad220.add ((x13_1).toNat * 5)).off + 3, none⟩ = some (.int .i64 ((rd_T50 l0 x13_1).f3.f0)) ∧ w'.cell? ⟨(ad220.add ((x13_1).toNat * 5)).block, (ad220.add ((x13_1).toNat * 5)).off + 4, none⟩ = some (.int .i64 ((rd_T50 l0 x13_1).f3.f1)) ∧ w'.cell? (ad220.add ((a5).toNat * 5)) = some (.int .i64 ((rd_T50 l0 a5).f0)) ∧ w'.cell? ⟨(ad220.add ((a5).toNat * 5)).block, (ad220.add ((a5).toNat * 5)).off + 1, none⟩ = some (.int .i64 ((rd_T50 l0 a5).f1)) ∧ w'.cell? ⟨(ad220.add ((a5).toNat * 5)).block, (ad220.add ((a5).toNat * 5)).off + 2, none⟩ = some (.int .i64 ((rd_T50 l0 a5).f2)) ∧ w'.cell? ⟨(ad220.add ((a5).toNat * 5)).block, (ad220.add ((a5).toNat * 5)).off + 3, none⟩ = some (.int .i64 ((rd_T50 l0 a5).f3.f0)) ∧ w'.cell? ⟨(ad220.add ((a5).toNat * 5)).block, (ad220.add ((a5).toNat * 5)).off + 4, none⟩ = some (.int .i64 ((rd_T50 l0 a5).f3.f1))) (ds := []) #[false, false, false, false, false, false, false, false, false, false, false, false, false, false, false] (by kernel_rfl) rfl rfl ⟨((HB.out.cell (World.block_lt_of_cell? w _ hw224_0)).trans hw224_0), ((HB.out.cell (World.block_lt_of_cell? w _ hw224_1)).trans hw224_1), ((HB.out.cell (World.block_lt_of_cell? w _ hw224_2)).trans hw224_2), ((HB.out.cell (World.block_lt_of_cell? w _ hw224_3)).trans hw224_3), ((HB.out.cell (World.block_lt_of_cell? w _ hw224_4)).trans hw224_4), ((HB.out.cell (World.block_lt_of_cell? w _ hw225_0)).trans hw225_0), ((HB.out.cell (World.block_lt_of_cell? w _ hw225_1)).trans hw225_1), ((HB.out.cell (World.block_lt_of_cell? w _ hw225_2)).trans hw225_2), ((HB.out.cell (World.block_lt_of_cell? w _ hw225_3)).trans hw225_3), ((HB.out.cell (World.block_lt_of_cell? w _ hw225_4)).trans hw225_4)⟩ (fun hHeld => ?_); refine with_tabW slotmeshref17_one.tab13 slotmeshref17_one.bits13 (fun HT_ HW_ => ?_)
                              generalize wr.drew = w33 at HB hx224_0 hx224_1 hx224_2 hx224_3 hx224_4 hx225_0 hx225_1 hx225_2 hx225_3 hx225_4 hHeld ⊢
                              refine pure_ (i := 0) (N := some 48) (v := ?_) (a' := ?_) #[true, false, false, false, false, false, false, false, false, false, false, false, false, false, false] rfl rfl (any_of HT_.out (by kernel_rfl)) (fun _ _ _ h => h) (Or.inl ⟨by rfl, ?_⟩) ?_ ?_
                              rotate_left
                              · intro w'
                                go_simp
                                with_reducible rfl
                              rotate_left
                              · simp only [Act.put, List.setIfInBounds_toArray, List.set_cons_zero, List.set_cons_succ, i64_w, i32_w]
                                rfl
                              refine pure_ (i := 1) (N := some 49) (v := ?_) (a' := ?_) #[true, true, false, false, false, false, false, false, false, false, false, false, false, false, false] rfl rfl (any_of HT_.out (by kernel_rfl)) (fun _ _ _ h => h) (Or.inl ⟨by rfl, ?_⟩) ?_ ?_
                              rotate_left
                              · intro w'
                                go_simp
                                with_reducible rfl
                              rotate_left
                              · simp only [Act.put, List.setIfInBounds_toArray, List.set_cons_zero, List.set_cons_succ, i64_w, i32_w]
                                rfl
                              refine pure_ (i := 2) (N := some 50) (v := ?_) (a' := ?_) #[true, true, true, false, false, false, false, false, false, false, false, false, false, false, false] rfl rfl (any_of HT_.out (by kernel_rfl)) (fun _ _ _ h => h) (Or.inl ⟨by rfl, ?_⟩) ?_ ?_
                              rotate_left
                              · intro w'
                                go_simp
                                with_reducible rfl
                              rotate_left
                              · simp only [Act.put, List.setIfInBounds_toArray, List.set_cons_zero, List.set_cons_succ, i64_w, i32_w]
                                rfl
                              refine pure_ (i := 3) (N := some 51) (v := ?_) (a' := ?_) #[true, true, true, true, false, false, false, false, false, false, false, false, false, false, false] rfl rfl (any_of HT_.out (by kernel_rfl)) (fun _ _ _ h => h) (Or.inl ⟨by rfl, ?_⟩) ?_ ?_
                              rotate_left
                              · intro w'
                                go_simp
                                with_reducible rfl
                              rotate_left
                              · simp only [Act.put, List.setIfInBounds_toArray, List.set_cons_zero, List.set_cons_succ, i64_w, i32_w]
                                rfl
                              refine pure_ (i := 4) (N := some 52) (v := ?_) (a' := ?_) #[true, true, true, true, true, false, false, false, false, false, false, false, false, false, false] rfl rfl (any_of HT_.out (by kernel_rfl)) (fun _ _ _ h => h) (Or.inl ⟨by rfl, ?_⟩) ?_ ?_
                              rotate_left
                              · intro w'
                                go_simp
                                with_reducible rfl
                              rotate_left
                              · simp only [Act.put, List.setIfInBounds_toArray, List.set_cons_zero, List.set_cons_succ, i64_w, i32_w]
                                rfl
                              refine pure_ (i := 5) (N := some 53) (v := ?_) (a' := ?_) #[true, true, true, true, true, true, false, false, false, false, false, false, false, false, false] rfl rfl (any_of HT_.out (by kernel_rfl)) (fun _ _ _ h => h) (Or.inl ⟨by rfl, ?_⟩) ?_ ?_
                              rotate_left
                              · intro w'
                                go_simp
                                with_reducible rfl
                              rotate_left
                              · simp only [Act.put, List.setIfInBounds_toArray, List.set_cons_zero, List.set_cons_succ, i64_w, i32_w]
                                rfl
                              refine pure_ (i := 6) (N := some 54) (v := ?_) (a' := ?_) #[true, true, true, true, true, true, true, false, false, false, false, false, false, false, false] rfl rfl (any_of HT_.out (by kernel_rfl)) (fun _ _ _ h => h) (Or.inl ⟨by rfl, ?_⟩) ?_ ?_
                              rotate_left
                              · intro w'
                                go_simp
                                with_reducible rfl
                              rotate_left
                              · simp only [Act.put, List.setIfInBounds_toArray, List.set_cons_zero, List.set_cons_succ, i64_w, i32_w]
                                rfl
                              refine pure_ (i := 8) (N := some 56) (v := ?_) (a' := ?_) #[true, true, true, true, true, true, true, false, true, false, false, false, false, false, false] rfl rfl (any_of HT_.out (by kernel_rfl)) (fun _ _ _ h => h) (Or.inl ⟨by rfl, ?_⟩) ?_ ?_
                              rotate_left
                              · intro w'
                                go_simp
                                with_reducible rfl
                              rotate_left
                              · simp only [Act.put, List.setIfInBounds_toArray, List.set_cons_zero, List.set_cons_succ, i64_w, i32_w]
                                rfl
                              refine pure_ (i := 9) (N := some 57) (v := ?_) (a' := ?_) #[true, true, true, true, true, true, true, false, true, true, false, false, false, false, false] rfl rfl (any_of HT_.out (by kernel_rfl)) (fun _ _ _ h => h) (Or.inl ⟨by rfl, ?_⟩) ?_ ?_
                              rotate_left
                              · intro w'
                                go_simp
                                with_reducible rfl
                              rotate_left
                              · simp only [Act.put, List.setIfInBounds_toArray, List.set_cons_zero, List.set_cons_succ, i64_w, i32_w]
                                rfl
                              refine pure_ (i := 10) (N := some 58) (v := ?_) (a' := ?_) #[true, true, true, true, true, true, true, false, true, true, true, false, false, false, false] rfl rfl (any_of HT_.out (by kernel_rfl)) (fun _ _ _ h => h) (Or.inl ⟨by rfl, ?_⟩) ?_ ?_
                              rotate_left
                              · intro w'
                                go_simp
                                with_reducible rfl
                              rotate_left
                              · simp only [Act.put, List.setIfInBounds_toArray, List.set_cons_zero, List.set_cons_succ, i64_w, i32_w]
                                rfl
                              refine pure_ (i := 11) (N := some 59) (v := ?_) (a' := ?_) #[true, true, true, true, true, true, true, false, true, true, true, true, false, false, false] rfl rfl (any_of HT_.out (by kernel_rfl)) (fun _ _ _ h => h) (Or.inl ⟨by rfl, ?_⟩) ?_ ?_
                              rotate_left
                              · intro w'
                                go_simp
                                with_reducible rfl
                              rotate_left
                              · simp only [Act.put, List.setIfInBounds_toArray, List.set_cons_zero, List.set_cons_succ, i64_w, i32_w]
                                rfl
                              refine take_ (i := 7) (N := some 55) (v := ?_) (a' := ?_) #[true, true, true, true, true, true, true, true, true, true, true, true, false, false, false] rfl rfl (take_ofW HT_.out HW_.out (by kernel_rfl)) (fun _ _ _ h => h) (Or.inl ⟨by rfl, ?_⟩) hHeld ?_ ?_
                              rotate_left
                              · rintro w' ⟨s0, s1, s2, s3, s4, s5, s6, s7, s8, s9⟩
                                go_simp
                                with_reducible rfl
                              rotate_left
                              · simp only [Act.put, List.setIfInBounds_toArray, List.set_cons_zero, List.set_cons_succ, i64_w, i32_w]
                                rfl
                              refine take_ (i := 12) (N := some 60) (v := ?_) (a' := ?_) #[true, true, true, true, true, true, true, true, true, true, true, true, true, false, false] rfl rfl (take_ofW HT_.out HW_.out (by kernel_rfl)) (fun _ _ _ h => h) (Or.inl ⟨by rfl, ?_⟩) hHeld ?_ ?_
                              rotate_left
                              · rintro w' ⟨s0, s1, s2, s3, s4, s5, s6, s7, s8, s9⟩
                                go_simp
                                with_reducible rfl
                              rotate_left
                              · simp only [Act.put, List.setIfInBounds_toArray, List.set_cons_zero, List.set_cons_succ, i64_w, i32_w]
                                rfl
                              refine one_ (i := 13) (N := some 61) #[true, true, true, true, true, true, true, true, true, true, true, true, true, true, false] rfl rfl (one_of HT_.out (by kernel_rfl)) (by decide) (fun K hK => ?_)
                              refine goes_ Try.func54 (by kernel_rfl) rfl #[.int .i64 ((rd_T50 l0 x13_1).f2), .agg #[.int .i64 ((rd_T50 l0 a5).f3.f0), .int .i64 ((rd_T50 l0 a5).f3.f1)]] (by rfl) rfl rfl (by (try simp only [List.map_toArray, List.map_cons, List.map_nil]); first | done | rfl | (simp only [List.length_drop, List.length_take]; rfl)) ?_
                              with_reducible refine (slotmeshref10_Catches.calls ((rd_T50 l0 x13_1).f2) ((rd_T50 l0 a5).f3.f0) ((rd_T50 l0 a5).f3.f1) false _ A29.out).mono ?_
                              rintro e w34 ⟨rfl, hb⟩
                              refine ⟨_, rfl, ?_⟩
                              have n0_ := Aside0.mk (below_step (by repeat (first | (with_reducible first | exact HB.out | apply below_alloc | apply pw_below_drewN | apply below_drew1) | exact HB.out)) hb)
                              clear HB
                              have HB := n0_
                              clear n0_
                              (try clear hb)
                              (try clear hb2)
                              (try clear hk)
                              (try clear hi)
                              refine hK.out _ _ ⟨((HB.out.cell (World.block_lt_of_cell? w _ hw224_0)).trans hw224_0), ((HB.out.cell (World.block_lt_of_cell? w _ hw224_1)).trans hw224_1), ((HB.out.cell (World.block_lt_of_cell? w _ hw224_2)).trans hw224_2), ((HB.out.cell (World.block_lt_of_cell? w _ hw224_3)).trans hw224_3), ((HB.out.cell (World.block_lt_of_cell? w _ hw224_4)).trans hw224_4), ((HB.out.cell (World.block_lt_of_cell? w _ hw225_0)).trans hw225_0), ((HB.out.cell (World.block_lt_of_cell? w _ hw225_1)).trans hw225_1), ((HB.out.cell (World.block_lt_of_cell? w _ hw225_2)).trans hw225_2), ((HB.out.cell (World.block_lt_of_cell? w _ hw225_3)).trans hw225_3), ((HB.out.cell (World.block_lt_of_cell? w _ hw225_4)).trans hw225_4)⟩ (fun hHeld => ?_)
                              clear hK K
                              refine norm_ (a' := ?_) ?_ ?_
                              rotate_left
                              · show Act.put _ (some 61) _ = _
                                simp only [Act.put, List.setIfInBounds_toArray, List.set_cons_zero, List.set_cons_succ, i64_w, i32_w]
                                rfl
                              refine pure_ (i := 14) (N := some 62) (v := ?_) (a' := ?_) #[true, true, true, true, true, true, true, true, true, true, true, true, true, true, true] rfl rfl (any_of HT_.out (by kernel_rfl)) (fun _ _ _ h => h) (Or.inl ⟨by rfl, ?_⟩) ?_ ?_
                              rotate_left
                              · intro w'
                                go_simp
                                with_reducible rfl
                              rotate_left
                              · simp only [Act.put, List.setIfInBounds_toArray, List.set_cons_zero, List.set_cons_succ, i64_w, i32_w]
                                rfl
                              refine done_ (done_of HT_.out (by kernel_rfl)) ?_
                              try go_wp2
                              go_ret
                              exact ⟨by first | rfl | (simp [errW_none, errW_some] <;> rfl) | (simp [*, errW_none, errW_some] <;> rfl), by repeat (first | (with_reducible first | exact HB.out | apply below_alloc | apply pw_below_drewN | apply below_drew1) | exact HB.out)⟩
                          · rw [if_neg c28] at H
                            exact absurd H (by simp)
                        · rw [if_neg c27] at H
                          exact absurd H (by simp)
                      · rw [if_neg c26] at H
                        exact absurd H (by simp)
                    · rw [if_neg c25] at H
                      exact absurd H (by simp)
                  · rw [if_neg c24] at H
                    have c24b0 : decide (0 ≤ x13_1) = false := decide_eq_false c24
                    clear c24
                    obtain rfl := Option.some.inj H
                    try go_wp2
                    have n0_ := Aside0.mk (below_drew1 HB.out)
                    clear HB
                    have HB := n0_
                    clear n0_
                    refine start_ (n := 15) (S := fun w' => True) (ds := []) #[false, false, false, false, false, false, false, false, false, false, false, false, false, false, false] (by kernel_rfl) rfl rfl trivial (fun hHeld => ?_); refine with_tabW slotmeshref17_one.tab13 slotmeshref17_one.bits13 (fun HT_ HW_ => ?_)
                    generalize wr.drew = w35 at HB hHeld ⊢
                    refine pure_ (i := 0) (N := some 48) (v := ?_) (a' := ?_) #[true, false, false, false, false, false, false, false, false, false, false, false, false, false, false] rfl rfl (any_of HT_.out (by kernel_rfl)) (fun _ _ _ h => h) (Or.inl ⟨by rfl, ?_⟩) ?_ ?_
                    rotate_left
                    · intro w'
                      go_simp
                      with_reducible rfl
                    rotate_left
                    · simp only [Act.put, List.setIfInBounds_toArray, List.set_cons_zero, List.set_cons_succ, i64_w, i32_w]
                      rfl
                    refine pure_ (i := 1) (N := some 49) (v := ?_) (a' := ?_) #[true, true, false, false, false, false, false, false, false, false, false, false, false, false, false] rfl rfl (any_of HT_.out (by kernel_rfl)) (fun _ _ _ h => h) (Or.inl ⟨by rfl, ?_⟩) ?_ ?_
                    rotate_left
                    · intro w'
                      go_simp
                      with_reducible rfl
                    rotate_left
                    · simp only [Act.put, List.setIfInBounds_toArray, List.set_cons_zero, List.set_cons_succ, i64_w, i32_w]
                      rfl
                    refine pure_ (i := 2) (N := some 50) (v := ?_) (a' := ?_) #[true, true, true, false, false, false, false, false, false, false, false, false, false, false, false] rfl rfl (any_of HT_.out (by kernel_rfl)) (fun _ _ _ h => h) (Or.inl ⟨by rfl, ?_⟩) ?_ ?_
                    rotate_left
                    · intro w'
                      go_simp
                      with_reducible rfl
                    rotate_left
                    · simp only [Act.put, List.setIfInBounds_toArray, List.set_cons_zero, List.set_cons_succ, i64_w, i32_w]
                      rfl
                    refine pure_ (i := 3) (N := some 51) (v := undef) (a' := ?_) #[true, true, true, true, false, false, false, false, false, false, false, false, false, false, false] rfl rfl (any_of HT_.out (by kernel_rfl)) (fun _ _ _ h => h) (Or.inr ⟨by rfl, rfl⟩) ?_ ?_
                    rotate_left
                    · simp only [Act.put, List.setIfInBounds_toArray, List.set_cons_zero, List.set_cons_succ, i64_w, i32_w]
                      rfl
                    refine pure_ (i := 4) (N := some 52) (v := undef) (a' := ?_) #[true, true, true, true, true, false, false, false, false, false, false, false, false, false, false] rfl rfl (any_of HT_.out (by kernel_rfl)) (fun _ _ _ h => h) (Or.inr ⟨by rfl, rfl⟩) ?_ ?_
                    rotate_left
                    · simp only [Act.put, List.setIfInBounds_toArray, List.set_cons_zero, List.set_cons_succ, i64_w, i32_w]
                      rfl
                    refine pure_ (i := 5) (N := some 53) (v := undef) (a' := ?_) #[true, true, true, true, true, true, false, false, false, false, false, false, false, false, false] rfl rfl (any_of HT_.out (by kernel_rfl)) (fun _ _ _ h => h) (Or.inr ⟨by rfl, rfl⟩) ?_ ?_
                    rotate_left
                    · simp only [Act.put, List.setIfInBounds_toArray, List.set_cons_zero, List.set_cons_succ, i64_w, i32_w]
                      rfl
                    refine pure_ (i := 6) (N := some 54) (v := undef) (a' := ?_) #[true, true, true, true, true, true, true, false, false, false, false, false, false, false, false] rfl rfl (any_of HT_.out (by kernel_rfl)) (fun _ _ _ h => h) (Or.inr ⟨by rfl, rfl⟩) ?_ ?_
                    rotate_left
                    · simp only [Act.put, List.setIfInBounds_toArray, List.set_cons_zero, List.set_cons_succ, i64_w, i32_w]
                      rfl
                    refine pure_ (i := 7) (N := some 55) (v := undef) (a' := ?_) #[true, true, true, true, true, true, true, true, false, false, false, false, false, false, false] rfl rfl (any_of HT_.out (by kernel_rfl)) (fun _ _ _ h => h) (Or.inr ⟨by rfl, rfl⟩) ?_ ?_
                    rotate_left
                    · simp only [Act.put, List.setIfInBounds_toArray, List.set_cons_zero, List.set_cons_succ, i64_w, i32_w]
                      rfl
                    refine pure_ (i := 8) (N := some 56) (v := undef) (a' := ?_) #[true, true, true, true, true, true, true, true, true, false, false, false, false, false, false] rfl rfl (any_of HT_.out (by kernel_rfl)) (fun _ _ _ h => h) (Or.inr ⟨by rfl, rfl⟩) ?_ ?_
                    rotate_left
                    · simp only [Act.put, List.setIfInBounds_toArray, List.set_cons_zero, List.set_cons_succ, i64_w, i32_w]
                      rfl
                    refine pure_ (i := 9) (N := some 57) (v := undef) (a' := ?_) #[true, true, true, true, true, true, true, true, true, true, false, false, false, false, false] rfl rfl (any_of HT_.out (by kernel_rfl)) (fun _ _ _ h => h) (Or.inr ⟨by rfl, rfl⟩) ?_ ?_
                    rotate_left
                    · simp only [Act.put, List.setIfInBounds_toArray, List.set_cons_zero, List.set_cons_succ, i64_w, i32_w]
                      rfl
                    refine pure_ (i := 10) (N := some 58) (v := undef) (a' := ?_) #[true, true, true, true, true, true, true, true, true, true, true, false, false, false, false] rfl rfl (any_of HT_.out (by kernel_rfl)) (fun _ _ _ h => h) (Or.inr ⟨by rfl, rfl⟩) ?_ ?_
                    rotate_left
                    · simp only [Act.put, List.setIfInBounds_toArray, List.set_cons_zero, List.set_cons_succ, i64_w, i32_w]
                      rfl
                    refine pure_ (i := 11) (N := some 59) (v := undef) (a' := ?_) #[true, true, true, true, true, true, true, true, true, true, true, true, false, false, false] rfl rfl (any_of HT_.out (by kernel_rfl)) (fun _ _ _ h => h) (Or.inr ⟨by rfl, rfl⟩) ?_ ?_
                    rotate_left
                    · simp only [Act.put, List.setIfInBounds_toArray, List.set_cons_zero, List.set_cons_succ, i64_w, i32_w]
                      rfl
                    refine pure_ (i := 12) (N := some 60) (v := undef) (a' := ?_) #[true, true, true, true, true, true, true, true, true, true, true, true, true, false, false] rfl rfl (any_of HT_.out (by kernel_rfl)) (fun _ _ _ h => h) (Or.inr ⟨by rfl, rfl⟩) ?_ ?_
                    rotate_left
                    · simp only [Act.put, List.setIfInBounds_toArray, List.set_cons_zero, List.set_cons_succ, i64_w, i32_w]
                      rfl
                    refine pure_ (i := 13) (N := some 61) (v := undef) (a' := ?_) #[true, true, true, true, true, true, true, true, true, true, true, true, true, true, false] rfl rfl (any_of HT_.out (by kernel_rfl)) (fun _ _ _ h => h) (Or.inr ⟨by rfl, rfl⟩) ?_ ?_
                    rotate_left
                    · simp only [Act.put, List.setIfInBounds_toArray, List.set_cons_zero, List.set_cons_succ, i64_w, i32_w]
                      rfl
                    refine pure_ (i := 14) (N := some 62) (v := ?_) (a' := ?_) #[true, true, true, true, true, true, true, true, true, true, true, true, true, true, true] rfl rfl (any_of HT_.out (by kernel_rfl)) (fun _ _ _ h => h) (Or.inl ⟨by rfl, ?_⟩) ?_ ?_
                    rotate_left
                    · intro w'
                      go_simp
                      with_reducible rfl
                    rotate_left
                    · simp only [Act.put, List.setIfInBounds_toArray, List.set_cons_zero, List.set_cons_succ, i64_w, i32_w]
                      rfl
                    refine done_ (done_of HT_.out (by kernel_rfl)) ?_
                    try go_wp2
                    go_ret
                    exact ⟨by first | rfl | (simp [errW_none, errW_some] <;> rfl) | (simp [*, errW_none, errW_some] <;> rfl), by repeat (first | (with_reducible first | exact HB.out | apply below_alloc | apply pw_below_drewN | apply below_drew1) | exact HB.out)⟩
        · rw [if_neg c10] at H
          exact absurd H (by simp)
      · rw [if_neg c9] at H
        have c9b0 : (((rd_T50 l0 a5).f0) == 1) = false := beq_eq_false_iff_ne.mpr c9
        have c9b1 : (((rd_T50 l0 a5).f0) != 1) = true := bne_iff_ne.mpr c9
        obtain rfl := Option.some.inj H
        have p220 : 0 ≤ (a5 : Int) := of_decide_eq_true (by first | (with_reducible assumption) | assumption)
        have q220 : a5 < (l0.length : Int) := of_decide_eq_true (by first | (with_reducible assumption) | assumption)
        obtain ⟨ad220, e220, hx220_0, hx220_1, hx220_2, hx220_3, hx220_4⟩ := at_T50 HR0.out a5 p220 q220
        cases e220
        replace p220 := eq_true p220
        replace q220 := eq_true q220
        go_enter Try.func47, Try.ntmps47
        go_wp2
        go_ret
        exact ⟨by first | rfl | (simp [errW_none, errW_some] <;> rfl) | (simp [*, errW_none, errW_some] <;> rfl), by repeat (first | (with_reducible first | exact HB.out | apply below_alloc | apply pw_below_drewN | apply below_drew1) | exact HB.out)⟩
    · rw [if_neg c8] at H
      exact absurd H (by simp)
  · rw [if_neg c7] at H
    exact absurd H (by simp)
end Go.Proofs.Ytcgbfkplhlngjaa.PA
