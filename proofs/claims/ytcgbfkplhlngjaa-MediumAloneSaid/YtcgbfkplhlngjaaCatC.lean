/- medium.Catch: the call that comes to what each radio catches. -/
import Derived.Test.YtcgbfkplhlngjaaCatB
namespace Go.Proofs.Ytcgbfkplhlngjaa.PA
open Go.RowKit Go.Shelf Go.Proofs.YtcgbfkplhlngjaaW.PrintWords Go.Proofs.YtcgbfkplhlngjaaW.PrintLast Go.Proofs.YtcgbfkplhlngjaaW.PrintMore
set_option linter.unusedVariables false
set_option linter.unusedSimpArgs false

set_option maxRecDepth 100000 in
set_option maxHeartbeats 8000000 in
theorem cat_yes (A0 : Option Addr) (c0 : Nat) (l0 : List S50) (A1 : Option Addr) (c1 : Nat) (l1 : List S25) (a2 : Int) (A3 : Option Addr) (c3 : Nat) (l3 : List S42) (a4 : Int) (w : World) (hr0 : Kd.C k50 w A0 l0.length l0) (hr1 : Kd.C k25 w A1 l1.length l1)
    (hr3 : Kd.C k42 w A3 l3.length l3) (hc3 : l3.length ≤ c3)
    (h1 : l0.length = l1.length) (h2 : ¬ 200 < l0.length) (h3 : ¬ a2 < 0) (h4 : ¬ a2 > 20000) (h5 : ¬ a4 < 0) (h6 : ¬ a4 > 1000000000) (hall : ((List.range l0.length).all fun i => radioB (l0.getD i z50) (l1.getD i z25)) = true) :
    Calls Try.prog 29 (catArgs A0 l0.length c0 A1 l1.length c1 a2 A3 l3.length c3 a4) w fun e w' => (∃ v0_ : Value, e = .returned (.tuple #[v0_, .int .i64 0]) ∧ Kd.R (Kd.int .i64) 3 w' w.heap.size (fun _ => True) v0_ (catchL l0 l1 a2 l3 a4)) ∧ Below w.heap.size w w' := by
  have HAL : Aside0 (∀ j, j < l0.length → radioB (l0.getD j z50) (l1.getD j z25) = true) := ⟨fun j hj => List.all_eq_true.1 hall j (List.mem_range.2 hj)⟩
  have HR3 := Aside0.mk hr3
  have HC3 := Aside0.mk hc3
  clear hall hr3 hc3
  have HR0 := Aside0.mk hr0
  have HR1 := Aside0.mk hr1
  have HLL := Aside0.mk h1
  have H1 : ((l0.length : Int) != (l1.length : Int)) = false := by simp [h1]
  have H2 : ¬ (l0.length : Int) > 200 := by omega
  clear hr0 hr1 h1
  go_enter Try.func29, Try.ntmps29
  go_wp2
  clear H1
  go_loopg [46] l0.length (fun gg v46 wr => ∃ kk : Nat, kk ≤ l0.length ∧ l0.length - kk ≤ gg ∧ v46 = .int .i64 kk ∧ Aside0 (Below w.heap.size w wr))
  case atStart => exact ⟨0, Nat.zero_le _, by omega, rfl, ⟨Below.refl _ w⟩⟩
  case round =>
    obtain ⟨kk, hkk, hg, rfl, BW⟩ := hrel
    by_cases hlt : kk < l0.length
    · have hltz : (kk : Int) < (l0.length : Int) := by omega
      have hlt1 : (kk : Int) < (l1.length : Int) := by have := HLL.out; omega
      have hk0 : (0 : Int) ≤ (kk : Int) := by omega
      obtain ⟨ad, e, x0, x1, x2, x3, x4⟩ := at_T50 (Kd.C_below HR0.out BW.out) (kk : Int) hk0 hltz
      subst e
      obtain ⟨bd, e, p0, p1⟩ := at_T25 (Kd.C_below HR1.out BW.out) (kk : Int) hk0 hlt1
      subst e
      simp only [Int.toNat_natCast] at x0 x1 x2 x3 x4 p0 p1
      have hrad := fun w => isRadio_any (rd_T50 l0 kk) (rd_T25 l1 kk) w
      have B : Aside0 (radioB (l0.getD kk z50) (l1.getD kk z25) = radioB (rd_T50 l0 kk) (rd_T25 l1 kk)) := ⟨by rw [rdT50, rdT25]⟩
      generalize rd_T50 l0 kk = y at x0 x1 x2 x3 x4 hrad B
      generalize rd_T25 l1 kk = p at p0 p1 hrad B
      have hNew := World.alloc_heap_new wr (.cells #[.int .i64 y.f0, .int .i64 y.f1, .int .i64 y.f2, .int .i64 y.f3.f0, .int .i64 y.f3.f1] 50)
      have hBn := below_drew1 (below_alloc (Below.refl wr.heap.size wr) (.cells #[.int .i64 y.f0, .int .i64 y.f1, .int .i64 y.f2, .int .i64 y.f3.f0, .int .i64 y.f3.f1] 50))
      have q0 := pw_cell_below hBn p0
      have q1 := pw_cell_below hBn p1
      have b0 : (wr.alloc (.cells #[.int .i64 y.f0, .int .i64 y.f1, .int .i64 y.f2, .int .i64 y.f3.f0, .int .i64 y.f3.f1] 50)).drew.cell? ⟨wr.heap.size, 0, none⟩ = some (.int .i64 y.f0) := cellOf hNew rfl
      have b1 : (wr.alloc (.cells #[.int .i64 y.f0, .int .i64 y.f1, .int .i64 y.f2, .int .i64 y.f3.f0, .int .i64 y.f3.f1] 50)).drew.cell? ⟨wr.heap.size, 1, none⟩ = some (.int .i64 y.f1) := cellOf hNew rfl
      have b2 : (wr.alloc (.cells #[.int .i64 y.f0, .int .i64 y.f1, .int .i64 y.f2, .int .i64 y.f3.f0, .int .i64 y.f3.f1] 50)).drew.cell? ⟨wr.heap.size, 2, none⟩ = some (.int .i64 y.f2) := cellOf hNew rfl
      have b3 : (wr.alloc (.cells #[.int .i64 y.f0, .int .i64 y.f1, .int .i64 y.f2, .int .i64 y.f3.f0, .int .i64 y.f3.f1] 50)).drew.cell? ⟨wr.heap.size, 3, none⟩ = some (.int .i64 y.f3.f0) := cellOf hNew rfl
      have b4 : (wr.alloc (.cells #[.int .i64 y.f0, .int .i64 y.f1, .int .i64 y.f2, .int .i64 y.f3.f0, .int .i64 y.f3.f1] 50)).drew.cell? ⟨wr.heap.size, 4, none⟩ = some (.int .i64 y.f3.f1) := cellOf hNew rfl
      clear hNew
      have HBn := Aside0.mk hBn
      clear hBn
      rw [HAL.out kk hlt] at B
      have hq := B.out.symm
      rw [hq] at hrad
      clear hq B
      go_upto_region 6 with (fail)
      go_region_held3 (fun w' => w'.cell? ⟨wr.heap.size, 0, none⟩ = some (.int .i64 y.f0) ∧ w'.cell? ⟨wr.heap.size, 1, none⟩ = some (.int .i64 y.f1) ∧ w'.cell? ⟨wr.heap.size, 2, none⟩ = some (.int .i64 y.f2) ∧ w'.cell? ⟨wr.heap.size, 3, none⟩ = some (.int .i64 y.f3.f0) ∧ w'.cell? ⟨wr.heap.size, 4, none⟩ = some (.int .i64 y.f3.f1) ∧ w'.cell? (bd.add (kk * 2)) = some (.int .i64 p.f0) ∧ w'.cell? ⟨(bd.add (kk * 2)).block, (bd.add (kk * 2)).off + 1, none⟩ = some (.int .i64 p.f1)) (first | go_keep | (refine ⟨?_, ?_, ?_, ?_, ?_, ?_, ?_⟩ <;> (refine pw_cell_below (by assumption) ?_; assumption))) (first | (go_at_call 45; refine (hrad _).mono ?_; rintro e w' ⟨rfl, hb⟩))
      have BN := Aside0.mk (below_step BW.out (HBn.out.trans (hb.mono HBn.out.size)))
      clear hb HBn b0 b1 b2 b3 b4 q0 q1 x0 x1 x2 x3 x4 p0 p1
      go_wp2
      go_roundg (l0.length - (kk + 1))
      case measure => omega
      case rel => exact ⟨kk + 1, by omega, by omega, by go_num, BN⟩
    · have hltz : ¬ (kk : Int) < (l0.length : Int) := by omega
      obtain ⟨w1, rfl⟩ : ∃ x, x = wr := ⟨wr, rfl⟩
      have M44 := make44 l0.length (by omega)
      go_wp2
      have HO0 := Aside0.mk (COut.start w1 (.slice A0 l0.length c0) (.slice A1 l1.length c1) a2 l0.length (oneV l0 l1 a2 l3 a4))
      clear M44 hltz hlt hkk hg
      go_loopg [68] l0.length (fun gg v68 wr => ∃ kk : Nat, kk ≤ l0.length ∧ l0.length - kk ≤ gg ∧ v68 = .int .i64 kk ∧ Aside0 (COut w1 wr (.slice A0 l0.length c0, .slice A1 l1.length c1, a2) l0.length kk (oneV l0 l1 a2 l3 a4)))
      case atStart => exact ⟨0, Nat.zero_le _, by omega, rfl, HO0⟩
      case round =>
        clear HO0
        obtain ⟨kk, hkk, hg, rfl, HO⟩ := hrel
        by_cases hlt : kk < l0.length
        · have hltz : (kk : Int) < (l0.length : Int) := by omega
          have hlt1 : (kk : Int) < (l1.length : Int) := by have := HLL.out; omega
          have hk0 : (0 : Int) ≤ (kk : Int) := by omega
          have BQ := Aside0.mk (BW.out.trans (HO.out.below.mono BW.out.size))
          obtain ⟨ad, e, x0, x1, x2, x3, x4⟩ := at_T50 (Kd.C_below HR0.out BQ.out) (kk : Int) hk0 hltz
          subst e
          obtain ⟨bd, e, p0, p1⟩ := at_T25 (Kd.C_below HR1.out BQ.out) (kk : Int) hk0 hlt1
          subst e
          simp only [Int.toNat_natCast] at x0 x1 x2 x3 x4 p0 p1
          have B : Aside0 (oneV l0 l1 a2 l3 a4 kk = if (rd_T50 l0 kk).f0 = 1 then (if (l3.any fun j => jamB j (rd_T25 l1 kk) (rd_T50 l0 kk).f1 a4) = true then -2 else catchV l0 l1 a2 kk) else -1) := ⟨by rw [rdT50, rdT25]; rfl⟩
          generalize rd_T50 l0 kk = y at x0 x1 x2 x3 x4 B
          generalize rd_T25 l1 kk = p at p0 p1 B
          have hNew := World.alloc_heap_new wr (.cells #[.int .i64 y.f0, .int .i64 y.f1, .int .i64 y.f2, .int .i64 y.f3.f0, .int .i64 y.f3.f1] 50)
          have hBn := below_alloc (Below.refl wr.heap.size wr) (.cells #[.int .i64 y.f0, .int .i64 y.f1, .int .i64 y.f2, .int .i64 y.f3.f0, .int .i64 y.f3.f1] 50)
          have HS := Aside0.mk (HO.out.step hBn)
          have HBW := Aside0.mk (BQ.out.trans (hBn.mono BQ.out.size))
          have b0 : (wr.alloc (.cells #[.int .i64 y.f0, .int .i64 y.f1, .int .i64 y.f2, .int .i64 y.f3.f0, .int .i64 y.f3.f1] 50)).cell? ⟨wr.heap.size, 0, none⟩ = some (.int .i64 y.f0) := cellOf hNew rfl
          have b1 : (wr.alloc (.cells #[.int .i64 y.f0, .int .i64 y.f1, .int .i64 y.f2, .int .i64 y.f3.f0, .int .i64 y.f3.f1] 50)).cell? ⟨wr.heap.size, 1, none⟩ = some (.int .i64 y.f1) := cellOf hNew rfl
          have q0 := pw_cell_below hBn p0
          have q1 := pw_cell_below hBn p1
          have k0 := HS.out.cell hlt
          have kf := HS.out.frozen kk
          clear hNew hBn HO
          by_cases g1 : y.f0 = 1
          · have g1b : (y.f0 != 1) = false := by simp [g1]
            rw [if_pos g1] at B
            have hj : ∀ w, Kd.C k42 w A3 l3.length l3 → Calls Try.prog 23 #[.slice A3 l3.length c3, .agg #[.int .i64 p.f0, .int .i64 p.f1], .int .i64 y.f1, .int .i64 a4] w fun e w' => e = .returned (.bool (l3.any fun j => jamB j p y.f1 a4)) ∧ Below w.heap.size w w' := fun w hr => plane_Jammed.calls A3 c3 l3 p.f0 p.f1 y.f1 a4 _ w hr HC3.out rfl
            generalize (l3.any fun j => jamB j p y.f1 a4) = b at hj B
            clear g1
            cases b with
            | true =>
              rw [if_pos rfl] at B
              go_upto_region 17 with (fail)
              go_region_held3 (fun w' => w'.cell? (bd.add (kk * 2)) = some (.int .i64 p.f0) ∧ w'.cell? ⟨(bd.add (kk * 2)).block, (bd.add (kk * 2)).off + 1, none⟩ = some (.int .i64 p.f1) ∧ w'.cell? ⟨wr.heap.size, 1, none⟩ = some (.int .i64 y.f1)) (first | go_keep | (refine ⟨?_, ?_, ?_⟩ <;> (refine pw_cell_below (by assumption) ?_; assumption))) (first | (go_at_call 23; refine (hj _ (Kd.C_below HR3.out (below_drew1 HBW.out))).mono ?_; rintro e w' ⟨rfl, hb⟩))
              have HS3 := HS.out.step ((Below.refl _ _).drew.trans hb)
              have k3 := HS3.cell hlt
              have kf3 := HS3.frozen kk
              have E := COut.set HS3 hlt
              rw [B.out] at E
              have HE := Aside0.mk E
              clear hb HS3 E k0 kf b0 b1 q0 q1 x0 x1 x2 x3 x4 p0 p1
              go_wp2
              go_roundg (l0.length - (kk + 1))
              case measure => omega
              case rel => exact ⟨kk + 1, by omega, by omega, by go_num, HE⟩
            | false =>
              rw [if_neg (by simp)] at B
              go_upto_region 17 with (fail)
              go_region_held3 (fun w' => w'.cell? (bd.add (kk * 2)) = some (.int .i64 p.f0) ∧ w'.cell? ⟨(bd.add (kk * 2)).block, (bd.add (kk * 2)).off + 1, none⟩ = some (.int .i64 p.f1) ∧ w'.cell? ⟨wr.heap.size, 1, none⟩ = some (.int .i64 y.f1)) (first | go_keep | (refine ⟨?_, ?_, ?_⟩ <;> (refine pw_cell_below (by assumption) ?_; assumption))) (first | (go_at_call 23; refine (hj _ (Kd.C_below HR3.out (below_drew1 HBW.out))).mono ?_; rintro e w' ⟨rfl, hb⟩))
              have HS3 := Aside0.mk (HS.out.step ((Below.refl _ _).drew.trans hb))
              have HB3 := Aside0.mk (HBW.out.trans (((Below.refl _ _).drew.trans hb).mono HBW.out.size))
              obtain ⟨v0, v1, v2⟩ := HS3.out.airc
              clear hb k0 kf b0 b1 q0 q1 x0 x1 x2 x3 x4 p0 p1 hj
              go_wp2_with (first | (go_at_call 46; refine (catch_any (some ad) c0 l0 (some bd) c1 l1 a2 kk w' (Kd.C_below HR0.out HB3.out) (Kd.C_below HR1.out HB3.out) HLL.out.symm hlt (by omega)).mono ?_; rintro e w4 ⟨rfl, hb4⟩; have HS4 := Aside0.mk (HS3.out.step hb4); have k4 := HS4.out.cell hlt; have kf4 := HS4.out.frozen kk; clear hb4))
              have E := COut.set HS4.out hlt
              rw [B.out] at E
              go_roundg (l0.length - (kk + 1))
              case measure => omega
              case rel => exact ⟨kk + 1, by omega, by omega, by go_num, ⟨E⟩⟩
          · have g1b : (y.f0 != 1) = true := by simp [g1]
            rw [if_neg g1] at B
            have E := COut.set HS.out hlt
            rw [B.out] at E
            have HE := Aside0.mk E
            clear g1 B E q0 q1 p0 p1 b1
            go_wp2
            go_roundg (l0.length - (kk + 1))
            case measure => omega
            case rel => exact ⟨kk + 1, by omega, by omega, by go_num, HE⟩
        · have hltz : ¬ (kk : Int) < (l0.length : Int) := by omega
          obtain rfl : kk = l0.length := by omega
          go_wp2
          go_ret2
          exact ⟨⟨_, rfl, HO.out.own (by have := BW.out.size; omega) (by omega)⟩, BW.out.trans (HO.out.below.mono BW.out.size)⟩
end Go.Proofs.Ytcgbfkplhlngjaa.PA
