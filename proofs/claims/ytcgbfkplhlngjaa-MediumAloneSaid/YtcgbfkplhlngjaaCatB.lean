/- medium.Catch: the calls that come to an error. -/
import Derived.Test.YtcgbfkplhlngjaaCatA
namespace Go.Proofs.Ytcgbfkplhlngjaa.PA
open Go.RowKit Go.Shelf Go.Proofs.YtcgbfkplhlngjaaW.PrintWords Go.Proofs.YtcgbfkplhlngjaaW.PrintLast Go.Proofs.YtcgbfkplhlngjaaW.PrintMore
set_option linter.unusedVariables false
set_option linter.unusedSimpArgs false

abbrev catErr (w : World) (e : Ending) (w' : World) : Prop := e = .returned (.tuple #[.slice none 0 0, .int .i64 1]) ∧ Below w.heap.size w w'
section
variable (A0 : Option Addr) (n0 c0 : Nat) (A1 : Option Addr) (n1 c1 : Nat) (a2 : Int) (A3 : Option Addr) (n3 c3 : Nat) (a4 : Int) (w : World)
abbrev catArgs : Array Value := #[.slice A0 n0 c0, .slice A1 n1 c1, .int .i64 a2, .slice A3 n3 c3, .int .i64 a4]
set_option maxHeartbeats 1000000 in
theorem cat_len (h : ¬ n0 = n1) : Calls Try.prog 29 (catArgs A0 n0 c0 A1 n1 c1 a2 A3 n3 c3 a4) w (catErr w) := by
  have H1 : ((n0 : Int) != (n1 : Int)) = true := by simp; omega
  clear h
  go_enter Try.func29, Try.ntmps29
  go_wp2
  go_ret2
  exact ⟨rfl, Below.refl _ _⟩
set_option maxHeartbeats 1000000 in
theorem cat_long (h1 : n0 = n1) (h : 200 < n0) : Calls Try.prog 29 (catArgs A0 n0 c0 A1 n1 c1 a2 A3 n3 c3 a4) w (catErr w) := by
  have H1 : ((n0 : Int) != (n1 : Int)) = false := by simp [h1]
  have H2 : (n0 : Int) > 200 := by omega
  clear h h1
  go_enter Try.func29, Try.ntmps29
  go_wp2
  go_ret2
  exact ⟨rfl, Below.refl _ _⟩
set_option maxHeartbeats 1000000 in
theorem cat_r1 (h1 : n0 = n1) (h2 : ¬ 200 < n0) (h : a2 < 0) : Calls Try.prog 29 (catArgs A0 n0 c0 A1 n1 c1 a2 A3 n3 c3 a4) w (catErr w) := by
  have H1 : ((n0 : Int) != (n1 : Int)) = false := by simp [h1]
  have H2 : ¬ (n0 : Int) > 200 := by omega
  clear h1 h2
  go_enter Try.func29, Try.ntmps29
  go_wp2
  go_ret2
  exact ⟨rfl, Below.refl _ _⟩
set_option maxHeartbeats 1000000 in
theorem cat_r2 (h1 : n0 = n1) (h2 : ¬ 200 < n0) (h3 : ¬ a2 < 0) (h : a2 > 20000) : Calls Try.prog 29 (catArgs A0 n0 c0 A1 n1 c1 a2 A3 n3 c3 a4) w (catErr w) := by
  have H1 : ((n0 : Int) != (n1 : Int)) = false := by simp [h1]
  have H2 : ¬ (n0 : Int) > 200 := by omega
  clear h1 h2
  go_enter Try.func29, Try.ntmps29
  go_wp2
  go_ret2
  exact ⟨rfl, Below.refl _ _⟩
set_option maxHeartbeats 1000000 in
theorem cat_s1 (h1 : n0 = n1) (h2 : ¬ 200 < n0) (h3 : ¬ a2 < 0) (h4 : ¬ a2 > 20000) (h : a4 < 0) : Calls Try.prog 29 (catArgs A0 n0 c0 A1 n1 c1 a2 A3 n3 c3 a4) w (catErr w) := by
  have H1 : ((n0 : Int) != (n1 : Int)) = false := by simp [h1]
  have H2 : ¬ (n0 : Int) > 200 := by omega
  clear h1 h2
  go_enter Try.func29, Try.ntmps29
  go_wp2
  go_ret2
  exact ⟨rfl, Below.refl _ _⟩
set_option maxHeartbeats 1000000 in
theorem cat_s2 (h1 : n0 = n1) (h2 : ¬ 200 < n0) (h3 : ¬ a2 < 0) (h4 : ¬ a2 > 20000) (h5 : ¬ a4 < 0) (h : a4 > 1000000000) : Calls Try.prog 29 (catArgs A0 n0 c0 A1 n1 c1 a2 A3 n3 c3 a4) w (catErr w) := by
  have H1 : ((n0 : Int) != (n1 : Int)) = false := by simp [h1]
  have H2 : ¬ (n0 : Int) > 200 := by omega
  clear h1 h2
  go_enter Try.func29, Try.ntmps29
  go_wp2
  go_ret2
  exact ⟨rfl, Below.refl _ _⟩
end

set_option maxRecDepth 100000 in
set_option maxHeartbeats 4000000 in
theorem cat_bad (A0 : Option Addr) (c0 : Nat) (l0 : List S50) (A1 : Option Addr) (c1 : Nat) (l1 : List S25) (a2 : Int) (A3 : Option Addr) (n3 c3 : Nat) (a4 : Int) (w : World) (hr0 : Kd.C k50 w A0 l0.length l0) (hr1 : Kd.C k25 w A1 l1.length l1)
    (h1 : l0.length = l1.length) (h2 : ¬ 200 < l0.length) (h3 : ¬ a2 < 0) (h4 : ¬ a2 > 20000) (h5 : ¬ a4 < 0) (h6 : ¬ a4 > 1000000000) (hall : ((List.range l0.length).all fun i => radioB (l0.getD i z50) (l1.getD i z25)) = false) :
    Calls Try.prog 29 (catArgs A0 l0.length c0 A1 l1.length c1 a2 A3 n3 c3 a4) w (catErr w) := by
  have HAL := Aside0.mk hall
  clear hall
  have HR0 := Aside0.mk hr0
  have HR1 := Aside0.mk hr1
  have HLL := Aside0.mk h1
  have H1 : ((l0.length : Int) != (l1.length : Int)) = false := by simp [h1]
  have H2 : ¬ (l0.length : Int) > 200 := by omega
  clear hr0 hr1 h1
  go_enter Try.func29, Try.ntmps29
  go_wp2
  clear H1
  go_loopg [46] l0.length (fun gg v46 wr => ∃ kk : Nat, kk ≤ l0.length ∧ l0.length - kk ≤ gg ∧ v46 = .int .i64 kk ∧ Aside0 (Below w.heap.size w wr) ∧ Aside0 (∀ j, j < kk → radioB (l0.getD j z50) (l1.getD j z25) = true))
  case atStart => exact ⟨0, Nat.zero_le _, by omega, rfl, ⟨Below.refl _ w⟩, ⟨fun j hj => absurd hj (Nat.not_lt_zero _)⟩⟩
  case round =>
    obtain ⟨kk, hkk, hg, rfl, BW, AL⟩ := hrel
    by_cases hlt : kk < l0.length
    · have hltz : (kk : Int) < (l0.length : Int) := by omega
      have hlt1 : (kk : Int) < (l1.length : Int) := by have := HLL.out; omega
      have hk0 : (0 : Int) ≤ (kk : Int) := by omega
      obtain ⟨ad, e, x0, x1, x2, x3, x4⟩ := at_T50 (Kd.C_below HR0.out BW.out) (kk : Int) hk0 hltz
      subst e
      obtain ⟨bd, e, p0, p1⟩ := at_T25 (Kd.C_below HR1.out BW.out) (kk : Int) hk0 hlt1
      subst e
      simp only [Int.toNat_natCast] at x0 x1 x2 x3 x4 p0 p1
      have hrad := fun w => isRadio_any (rd_T50 l0 kk) (rd_T25 l1 kk) w
      have B : Aside0 (radioB (l0.getD kk z50) (l1.getD kk z25) = radioB (rd_T50 l0 kk) (rd_T25 l1 kk)) := ⟨by rw [rdT50, rdT25]⟩
      generalize rd_T50 l0 kk = y at x0 x1 x2 x3 x4 hrad B
      generalize rd_T25 l1 kk = p at p0 p1 hrad B
      have hNew := World.alloc_heap_new wr (.cells #[.int .i64 y.f0, .int .i64 y.f1, .int .i64 y.f2, .int .i64 y.f3.f0, .int .i64 y.f3.f1] 50)
      have hBn := below_drew1 (below_alloc (Below.refl wr.heap.size wr) (.cells #[.int .i64 y.f0, .int .i64 y.f1, .int .i64 y.f2, .int .i64 y.f3.f0, .int .i64 y.f3.f1] 50))
      have q0 := pw_cell_below hBn p0
      have q1 := pw_cell_below hBn p1
      have b0 : (wr.alloc (.cells #[.int .i64 y.f0, .int .i64 y.f1, .int .i64 y.f2, .int .i64 y.f3.f0, .int .i64 y.f3.f1] 50)).drew.cell? ⟨wr.heap.size, 0, none⟩ = some (.int .i64 y.f0) := cellOf hNew rfl
      have b1 : (wr.alloc (.cells #[.int .i64 y.f0, .int .i64 y.f1, .int .i64 y.f2, .int .i64 y.f3.f0, .int .i64 y.f3.f1] 50)).drew.cell? ⟨wr.heap.size, 1, none⟩ = some (.int .i64 y.f1) := cellOf hNew rfl
      have b2 : (wr.alloc (.cells #[.int .i64 y.f0, .int .i64 y.f1, .int .i64 y.f2, .int .i64 y.f3.f0, .int .i64 y.f3.f1] 50)).drew.cell? ⟨wr.heap.size, 2, none⟩ = some (.int .i64 y.f2) := cellOf hNew rfl
      have b3 : (wr.alloc (.cells #[.int .i64 y.f0, .int .i64 y.f1, .int .i64 y.f2, .int .i64 y.f3.f0, .int .i64 y.f3.f1] 50)).drew.cell? ⟨wr.heap.size, 3, none⟩ = some (.int .i64 y.f3.f0) := cellOf hNew rfl
      have b4 : (wr.alloc (.cells #[.int .i64 y.f0, .int .i64 y.f1, .int .i64 y.f2, .int .i64 y.f3.f0, .int .i64 y.f3.f1] 50)).drew.cell? ⟨wr.heap.size, 4, none⟩ = some (.int .i64 y.f3.f1) := cellOf hNew rfl
      clear hNew
      have HBn := Aside0.mk hBn
      clear hBn
      cases hq : radioB y p with
      | true =>
        rw [hq] at hrad
        rw [hq] at B
        clear hq
        go_upto_region 6 with (fail)
        go_region_held3 (fun w' => w'.cell? ⟨wr.heap.size, 0, none⟩ = some (.int .i64 y.f0) ∧ w'.cell? ⟨wr.heap.size, 1, none⟩ = some (.int .i64 y.f1) ∧ w'.cell? ⟨wr.heap.size, 2, none⟩ = some (.int .i64 y.f2) ∧ w'.cell? ⟨wr.heap.size, 3, none⟩ = some (.int .i64 y.f3.f0) ∧ w'.cell? ⟨wr.heap.size, 4, none⟩ = some (.int .i64 y.f3.f1) ∧ w'.cell? (bd.add (kk * 2)) = some (.int .i64 p.f0) ∧ w'.cell? ⟨(bd.add (kk * 2)).block, (bd.add (kk * 2)).off + 1, none⟩ = some (.int .i64 p.f1)) (first | go_keep | (refine ⟨?_, ?_, ?_, ?_, ?_, ?_, ?_⟩ <;> (refine pw_cell_below (by assumption) ?_; assumption))) (first | (go_at_call 45; refine (hrad _).mono ?_; rintro e w' ⟨rfl, hb⟩))
        have BN := Aside0.mk (below_step BW.out (HBn.out.trans (hb.mono HBn.out.size)))
        clear hb HBn b0 b1 b2 b3 b4 q0 q1 x0 x1 x2 x3 x4 p0 p1
        go_wp2
        go_roundg (l0.length - (kk + 1))
        case measure => omega
        case rel =>
          refine ⟨kk + 1, by omega, by omega, by go_num, BN, ⟨fun j hj => ?_⟩⟩
          by_cases e : j = kk
          · subst e
            exact B.out
          · exact AL.out j (by omega)
      | false =>
        rw [hq] at hrad
        clear hq
        go_upto_region 6 with (fail)
        go_region_held3 (fun w' => w'.cell? ⟨wr.heap.size, 0, none⟩ = some (.int .i64 y.f0) ∧ w'.cell? ⟨wr.heap.size, 1, none⟩ = some (.int .i64 y.f1) ∧ w'.cell? ⟨wr.heap.size, 2, none⟩ = some (.int .i64 y.f2) ∧ w'.cell? ⟨wr.heap.size, 3, none⟩ = some (.int .i64 y.f3.f0) ∧ w'.cell? ⟨wr.heap.size, 4, none⟩ = some (.int .i64 y.f3.f1) ∧ w'.cell? (bd.add (kk * 2)) = some (.int .i64 p.f0) ∧ w'.cell? ⟨(bd.add (kk * 2)).block, (bd.add (kk * 2)).off + 1, none⟩ = some (.int .i64 p.f1)) (first | go_keep | (refine ⟨?_, ?_, ?_, ?_, ?_, ?_, ?_⟩ <;> (refine pw_cell_below (by assumption) ?_; assumption))) (first | (go_at_call 45; refine (hrad _).mono ?_; rintro e w' ⟨rfl, hb⟩))
        have BN := Aside0.mk (below_step BW.out (HBn.out.trans (hb.mono HBn.out.size)))
        clear hb HBn b0 b1 b2 b3 b4 q0 q1 x0 x1 x2 x3 x4 p0 p1
        go_wp2
        go_ret2
        exact ⟨rfl, BN.out⟩
    · exfalso
      obtain rfl : kk = l0.length := by omega
      have := HAL.out
      rw [List.all_eq_false] at this
      obtain ⟨x, hx, hn⟩ := this
      exact hn (AL.out x (List.mem_range.1 hx))
end Go.Proofs.Ytcgbfkplhlngjaa.PA
