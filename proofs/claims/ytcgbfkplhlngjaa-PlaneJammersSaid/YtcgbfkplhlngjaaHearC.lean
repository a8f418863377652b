/- plane.Hears at valid places and a valid radius: the table of who hears whom, filled pair by pair. -/
import Derived.Test.YtcgbfkplhlngjaaHearB
namespace Go.Proofs.Ytcgbfkplhlngjaa.PA
open Go.RowKit Go.Shelf Go.Proofs.YtcgbfkplhlngjaaW.PrintWords Go.Proofs.YtcgbfkplhlngjaaW.PrintLast Go.Proofs.YtcgbfkplhlngjaaW.PrintMore
set_option linter.unusedVariables false
set_option linter.unusedSimpArgs false
attribute [local go_sem] Oper.semAt_some

theorem make27 (n : Nat) (hn : n ≤ 1000) (w : World) : (Instr.makeSlice 27 (.int .i64 n) (.int .i64 n)).run Try.prog w = .ok (.slice (some ⟨w.heap.size, 0, none⟩) n n) (w.alloc (.cells (madeCells #[.slice none 0 0] n) 36)) := by
  obtain ⟨i0, hi, hz0, hz1, hz2⟩ := info_parts info36
  have := run_make (P := Try.prog) w 27 36 i0 _ (by kernel_rfl) hi hz0 .i64 .i64 n n (by omega) (by omega) (by rw [hz2]; omega) (by omega)
  simp only [Int.toNat_natCast, hz1, Nat.mul_one] at this
  exact this
theorem make36 (n : Nat) (hn : n ≤ 1000) (w : World) : (Instr.makeSlice 36 (.int .i64 n) (.int .i64 n)).run Try.prog w = .ok (.slice (some ⟨w.heap.size, 0, none⟩) n n) (w.alloc (.cells (madeCells #[.bool false] n) 4)) := by
  obtain ⟨i0, hi, hz0, hz1, hz2⟩ := info_parts info4
  have := run_make (P := Try.prog) w 36 4 i0 _ (by kernel_rfl) hi hz0 .i64 .i64 n n (by omega) (by omega) (by rw [hz2]; omega) (by omega)
  simp only [Int.toNat_natCast, hz1, Nat.mul_one] at this
  exact this

/-- What lies in the world behind the tests: the two parameters' boxes, and all that lay before. -/
structure Boxes (w w1 : World) (v1 v2 : Value) : Prop where
  one : w1.heap[w.heap.size]? = some (.cells #[v1] 22 (0, 0))
  two : w1.heap[w.heap.size + 1]? = some (.cells #[v2] 3 (0, 0))
  size : w.heap.size + 2 ≤ w1.heap.size
  below : Below w.heap.size w w1
theorem boxes_of {w w1 : World} {v1 v2 : Value} {nq : Nat} (h : Below (((w.alloc (.cells #[v1] 22)).alloc (.cells #[v2] 3)).drewN nq).heap.size (((w.alloc (.cells #[v1] 22)).alloc (.cells #[v2] 3)).drewN nq) w1) : Boxes w w1 v1 v2 := by
  have hs : (((w.alloc (.cells #[v1] 22)).alloc (.cells #[v2] 3)).drewN nq).heap.size = w.heap.size + 2 := by simp
  refine ⟨?_, ?_, by have := h.size; omega, below_step (pw_below_drewN (below_alloc (below_alloc (Below.refl _ _) _) _) _) h⟩
  · refine (h.block _ (by omega)).trans ?_
    exact (Below.heap_alloc _ _ _ (by simp)).trans (World.alloc_heap_new w _)
  · refine (h.block _ (by omega)).trans ?_
    have := World.alloc_heap_new (w.alloc (.cells #[v1] 22)) (.cells #[v2] 3)
    rwa [World.size_alloc] at this
theorem Boxes.cell1 {w w1 : World} {v1 v2 : Value} (h : Boxes w w1 v1 v2) : w1.cell? ⟨w.heap.size, 0, none⟩ = some v1 := cell_of h.one rfl
theorem Boxes.cell2 {w w1 : World} {v1 v2 : Value} (h : Boxes w w1 v1 v2) : w1.cell? ⟨w.heap.size + 1, 0, none⟩ = some v2 := cell_of h.two rfl

theorem below_alloc' {w W : World} (h : Below w.heap.size w W) (o : Obj) : Below w.heap.size w (W.alloc o) := h.alloc h.size o
theorem cell_al {W : World} {o : Obj} {b j : Nat} {u : Value} (h : W.cell? ⟨b, j, none⟩ = some u) (hb : b < W.heap.size) : (W.alloc o).cell? ⟨b, j, none⟩ = some u :=
  ((below_alloc (Below.refl W.heap.size W) o).cell (p := ⟨b, j, none⟩) hb).trans h
theorem cell_set_ne {W : World} {b b' j j' : Nat} (h : b ≠ b') (u : Value) : (W.setCell ⟨b', j', none⟩ u).cell? ⟨b, j, none⟩ = W.cell? ⟨b, j, none⟩ := by
  unfold World.cell?
  rw [heap_set_other h]
theorem HTab.topAl {W : World} {g n k : Nat} {T : Nat → Nat → Bool} (h : HTab W g n k T) (hk : k < n) (o : Obj) : (∃ u, (W.alloc o).cell? ⟨g, k, none⟩ = some u) ∧ (W.alloc o).frozen? ⟨g, k, none⟩ = false := by
  obtain ⟨⟨cur, h1, h2, h3⟩, _, _⟩ := h
  have h1' : (W.alloc o).heap[g]? = some (.cells cur 36 (0, 0)) := (Below.heap_alloc _ _ _ (Array.getElem?_eq_some_iff.1 h1).1).trans h1
  exact ⟨⟨cur[k], cell_of h1' (by rw [Array.getElem?_eq_getElem (by omega)])⟩, frozen_of h1' k⟩

theorem keeps_below {W W' : World} (h : Below W.heap.size W W') : KeepsOthers W W' := ⟨h.size, fun k o hk _ => (h.block k (Array.getElem?_eq_some_iff.1 hk).1).trans hk⟩
/-- What has come so far, as the table shows it. -/
def tof (l0 : List S25) (a1 : Int) (pre : List (Pr l0.length)) (a b : Nat) : Bool :=
  (pre.any fun x => (x.1.1 == a && x.1.2 == b) || (x.1.1 == b && x.1.2 == a)) && nearB (l0.getD a z25) (l0.getD b z25) a1
/-- The loop's invariant: the table, and all that lay before the outer array. -/
structure HInv (w1 W : World) (l0 : List S25) (a1 : Int) (pre : List (Pr l0.length)) : Prop where
  tab : HTab W w1.heap.size l0.length l0.length (tof l0 a1 pre)
  size : w1.heap.size + 2 + l0.length < W.heap.size
  below : Below w1.heap.size w1 W
theorem HInv.abides {w1 : World} {l0 : List S25} {a1 : Int} {B : Nat} (hB : w1.heap.size + 2 + l0.length ≤ B) : OwnFrom B (fun pre W => HInv w1 W l0 a1 pre) := fun s W W' row h hg hr =>
  have hne : ∀ j, j < w1.heap.size + 2 + l0.length → some j ≠ row := fun j hj e => by have := (hr j e.symm).1; omega
  ⟨h.tab.keep fun j hj => hg.block j (by have := h.size; omega) (hne j hj), Nat.lt_of_lt_of_le h.size hg.size, h.below.grown hg h.below.size fun k e => by have := (hr k e).1; omega⟩

theorem HInv.step {w1 W W' : World} {l0 : List S25} {a1 : Int} {pre : List (Pr l0.length)} (h : HInv w1 W l0 a1 pre) (hb : Below W.heap.size W W') : HInv w1 W' l0 a1 pre :=
  ⟨h.tab.keep fun j hj => hb.block j (by have := h.size; omega), Nat.lt_of_lt_of_le h.size hb.size, h.below.trans (hb.mono h.below.size)⟩
theorem HInv.drew {w1 W : World} {l0 : List S25} {a1 : Int} {pre : List (Pr l0.length)} (h : HInv w1 W l0 a1 pre) : HInv w1 W.drew l0 a1 pre := h.step (below_drew1 (Below.refl _ _))
theorem distB_comm (a b : S25) (r : Int) : distB a b r = distB b a r := by
  unfold distB
  congr 1
  have h1 : (a.f0 - b.f0) * (a.f0 - b.f0) = (b.f0 - a.f0) * (b.f0 - a.f0) := by have := Int.neg_mul_neg (a.f0 - b.f0) (a.f0 - b.f0); rw [Int.neg_sub] at this; exact this.symm
  have h2 : (a.f1 - b.f1) * (a.f1 - b.f1) = (b.f1 - a.f1) * (b.f1 - a.f1) := by have := Int.neg_mul_neg (a.f1 - b.f1) (a.f1 - b.f1); rw [Int.neg_sub] at this; exact this.symm
  rw [h1, h2]
theorem nearB_comm (a b : S25) (r : Int) : nearB a b r = nearB b a r := by
  unfold nearB
  rw [distB_comm a b r, Bool.and_comm (vldB a) (vldB b)]
theorem tof_snoc {l0 : List S25} {a1 : Int} {pre : List (Pr l0.length)} {i k : Nat} (h : i < k ∧ k < l0.length) :
    tof l0 a1 (pre ++ [⟨(i, k), h⟩]) = updT (updT (tof l0 a1 pre) i k (nearB (rd_T25 l0 i) (rd_T25 l0 k) a1)) k i (nearB (rd_T25 l0 i) (rd_T25 l0 k) a1) := by
  funext a b
  unfold updT tof rd_T25
  rw [List.any_append]
  simp only [List.any_cons, List.any_nil, Bool.or_false, Int.toNat_natCast]
  by_cases h1 : a = k ∧ b = i
  · obtain ⟨rfl, rfl⟩ := h1
    simp
    exact nearB_comm _ _ _
  · rw [if_neg h1]
    by_cases h2 : a = i ∧ b = k
    · obtain ⟨rfl, rfl⟩ := h2
      simp
    · rw [if_neg h2]
      have e1 : (i == a && k == b) = false := by rw [Bool.eq_false_iff]; simp; omega
      have e2 : (i == b && k == a) = false := by rw [Bool.eq_false_iff]; simp; omega
      rw [e1, e2]; simp
theorem tabL_all {l0 : List S25} {a1 : Int} {ys : List (Pr l0.length)} (h : AllPr ys) : tabL (tof l0 a1 ys) l0.length = hearsT l0 a1 := by
  unfold tabL hearsT
  refine List.map_congr_left fun a ha => List.map_congr_left fun b hb => ?_
  rw [List.mem_range] at ha hb
  unfold tof
  congr 1
  rw [Bool.eq_iff_iff, List.any_eq_true]
  constructor
  · rintro ⟨x, _, hx⟩
    have := x.2.1
    simp at hx ⊢
    omega
  · intro hne
    simp at hne
    rcases Nat.lt_or_gt_of_ne hne with hlt | hlt
    · exact ⟨⟨(a, b), hlt, hb⟩, h _, by simp⟩
    · exact ⟨⟨(b, a), hlt, ha⟩, h _, by simp⟩
/-- The two stores of a round. -/
theorem HInv.stores {w1 X : World} {l0 : List S25} {a1 : Int} {pre : List (Pr l0.length)} (hI : HInv w1 X l0 a1 pre) {i k : Nat} (h : i < k ∧ k < l0.length) :
    HInv w1 ((X.setCell ⟨w1.heap.size + 2 + i, k, none⟩ (.bool (nearB (rd_T25 l0 i) (rd_T25 l0 k) a1))).setCell ⟨w1.heap.size + 2 + k, i, none⟩ (.bool (nearB (rd_T25 l0 i) (rd_T25 l0 k) a1))) l0 a1 (pre ++ [⟨(i, k), h⟩]) := by
  refine ⟨?_, by have := hI.size; simpa using this, (hI.below.setCell (p := ⟨w1.heap.size + 2 + i, k, none⟩) (by simp; omega) _).setCell (p := ⟨w1.heap.size + 2 + k, i, none⟩) (by simp; omega) _⟩
  rw [tof_snoc h]
  exact (hI.tab.set (by omega) h.2 _).set h.2 (by omega) _

set_option maxRecDepth 100000 in
set_option maxHeartbeats 4000000 in
theorem hears_yes (A0 : Option Addr) (c0 : Nat) (l0 : List S25) (a1 : Int) (w : World) (hr0 : Kd.C k25 w A0 l0.length l0) (hc0 : l0.length ≤ c0) (hlong : ¬ 60 < l0.length) (hr : radB a1 = true) (hv : l0.any badB = false) :
    Calls Try.prog 18 #[.slice A0 l0.length c0, .int .i64 a1] w fun e w' => (∃ v0_ : Value, e = .returned (.tuple #[v0_, .int .i64 0]) ∧ Kd.S (Kd.slice 4 Kd.bool) 36 w' w.heap.size (fun _ => True) v0_ (hearsT l0 a1)) ∧ Below w.heap.size w w' := by
  have hz : ¬ (60 : Int) < (l0.length : Int) := by omega
  have H := fun w => in_any a1 w
  rw [hr] at H
  have H2 := fun w (h : Kd.C k25 w A0 l0.length l0) => containsP_any A0 c0 l0 w h hc0
  rw [hv] at H2
  have HR := Aside0.mk hr0
  clear hr hv hr0
  refine (callsIn_wide (n := 5)).1 ?_
  refine callsIn_of_wp_marks Try.func18 rfl trivial ?_ rfl
  refine wpIn_wide.2 ?_
  simp only [Try.ntmps18, List.size_toArray, List.length_cons, List.length_nil, Nat.reduceAdd, Nat.reduceSub, Array.replicate_succ, Array.replicate_zero, List.push_toArray, List.append_toArray, List.nil_append, List.cons_append]
  have M27 := make27 l0.length (by omega)
  go_wp2_with (first | (go_at_call 35; refine (H _).mono ?_; rintro e w' ⟨rfl, hb⟩; obtain ⟨nq, rfl⟩ := hb.out; clear hb) | (go_at_call 36; refine (H2 _ (Kd.C_below HR.out ((below_alloc (below_alloc (Below.refl _ _) _) _).trans (pw_below_drewN (Below.refl _ _) _)))).mono ?_; rintro e w1 ⟨rfl, hb2⟩; have HX := Aside0.mk (boxes_of hb2); clear hb2; have hx1 := HX.out.cell1; have hlt1 : w.heap.size < w1.heap.size := by (have := HX.out.size; omega)))
  clear hx1
  have HT0 := Aside0.mk (HTab.start w1 l0.length (fun _ _ => false))
  have HB0 := Aside0.mk ((below_alloc (below_alloc (Below.refl w1.heap.size w1) (.cells (madeCells #[.slice none 0 0] l0.length) 36)) (.cells #[.slice (some ⟨w1.heap.size, 0, none⟩) l0.length l0.length] 27)))
  go_loopw [7, 28] (fun _ c wr => ∃ k : Nat, k ≤ l0.length ∧ c = .int .i64 k ∧ Aside0 (HTab wr w1.heap.size l0.length k (fun _ _ => false)) ∧ Aside0 (wr.heap.size = w1.heap.size + 2 + k) ∧ Aside0 (Below w1.heap.size w1 wr))
    (fun _ c _ => l0.length - (intOf c).toNat)
  case atStart => exact ⟨0, Nat.zero_le _, rfl, HT0, ⟨by simp⟩, HB0⟩
  case round =>
    clear HT0 HB0
    obtain ⟨k, hk, rfl, HT, HS, HB⟩ := hrel
    have hx1 : wr.cell? ⟨w.heap.size, 0, none⟩ = some (.slice A0 l0.length c0) := (HB.out.cell (p := ⟨w.heap.size, 0, none⟩) hlt1).trans HX.out.cell1
    by_cases hkt : k < l0.length
    · have hktz : (k : Int) < (l0.length : Int) := by omega
      have hk0 : (0 : Int) ≤ (k : Int) := by omega
      have hxb := HT.out.boxCell
      have M36 := make36 l0.length (by omega)
      have hg := (HTab.topAl HT.out hkt (.cells (madeCells #[.bool false] l0.length) 4))
      obtain ⟨⟨u0, hu0⟩, hf0⟩ := hg
      have hx1' := cell_al (o := .cells (madeCells #[.bool false] l0.length) 4) hx1 (World.block_lt_of_cell? wr _ hx1)
      have hxb' := cell_al (o := .cells (madeCells #[.bool false] l0.length) 4) hxb (World.block_lt_of_cell? wr _ hxb)
      clear M27 H H2
      go_wp2
      go_region
      all_goals go_wp2
      all_goals
        go_roundw
        case rel => exact ⟨k + 1, by omega, by go_num, ⟨(HT.out.more hkt HS.out (fun _ => rfl)).keep (fun _ _ => rfl)⟩, ⟨by have := HS.out; simp; omega⟩, ⟨below_drew1 ((below_alloc' HB.out _).setCell (p := ⟨w1.heap.size, k, none⟩) (Nat.le_refl _) _)⟩⟩
        case measure => simp [intOf]; omega
    · have hktz : ¬ (k : Int) < (l0.length : Int) := by omega
      have hke : k = l0.length := by omega
      clear hk hkt
      have HKE := Aside0.mk hke
      go_wp2_with (go_at_call 39; refine (pairs_any _ _).mono ?_; rintro e w2 ⟨rfl, rfl⟩)
      have hsz : wr.heap.size = w1.heap.size + 2 + l0.length := by rw [← HKE.out]; exact HS.out
      have hbx := World.alloc_heap_new wr (.cells #[.int .i64 l0.length] 3)
      have hI0 : HInv w1 (wr.alloc (.cells #[.int .i64 l0.length] 3)) l0 a1 [] :=
        ⟨by
          have := HT.out
          rw [HKE.out] at this
          exact this.keep fun j hj => Below.heap_alloc _ _ _ (by omega), by simp; omega, below_alloc' HB.out _⟩
      have HAb : Aside0 (OwnFrom (wr.alloc (.cells #[.int .i64 l0.length] 3)).heap.size (fun pre W => HInv w1 W l0 a1 pre)) := ⟨HInv.abides (by simp; omega)⟩
      have HI0 := Aside0.mk hI0
      have HSZ := Aside0.mk hsz
      clear hke HKE HT HS HB hktz hI0 hsz
      refine (wpIn_wide (n := 5)).1 ?_
      refine wpIn_rangeFunc_ownF (F := Fence.wide) rfl (by omega) (gf := 49) (lb := #[.pointer (some ⟨wr.heap.size, 0, none⟩)]) rfl trivial (enters_of Try.func49 (by kernel_rfl) rfl)
        (pairs_stops Fence.wide 4 trivial rfl (by omega) wr.heap.size l0.length (by omega) _ hbx) kpB_t (kpB_b (by simp)) (Below.refl _ _) (fun _ => rfl)
        (fun pre W => HInv w1 W l0 a1 pre) (fun _ _ _ => False) HAb.out (fun _ _ _ _ _ hs _ _ => hs) HI0.out
        (fun x => { tmps := #[.slice A0 l0.length c0, .int .i64 a1, .pointer (some ⟨w.heap.size, 0, none⟩), .pointer (some ⟨w.heap.size + 1, 0, none⟩), .slice none 0 0, .int .i64 0, .pointer (some ⟨w1.heap.size + 1, 0, none⟩), u7, .int .i64 x.1.1, .int .i64 x.1.2, undef, .slice A0 l0.length c0, .int .i64 l0.length, .bool false, .bool false, .int .i64 a1, .bool true, .bool false, .bool false, .bool false, .slice A0 l0.length c0, .bool false, .bool false, .slice A0 l0.length c0, .int .i64 l0.length, .slice (some ⟨w1.heap.size, 0, none⟩) l0.length l0.length, .slice (some ⟨w1.heap.size, 0, none⟩) l0.length l0.length, .int .i64 l0.length, .int .i64 l0.length, .bool false, u30, u31, u32, u33, u34, u35, u36, u37, .slice A0 l0.length c0, .int .i64 l0.length, .func (.func 49) #[] #[.pointer (some ⟨wr.heap.size, 0, none⟩)], .int .i64 x.1.1, .int .i64 x.1.2, undef, undef, undef, undef, undef, undef, undef, undef, undef, undef, undef, undef, undef, undef, undef, undef, undef, undef, undef, undef, undef, undef, undef, undef, undef], defers := [] }) ?assign ?body ?done ?stop
      case assign =>
        intro l x W K hK
        gi_wp2
        exact hK
      case body =>
        rintro l pre x W hI hlen
        clear H H2 M27 hx1 hbx HAb HI0
        obtain ⟨⟨i, k2⟩, hik, hkn⟩ := x
        have hin : i < l0.length := Nat.lt_trans hik hkn
        dsimp only at hik hkn
        have HI := Aside0.mk hI
        clear hI
        obtain ⟨ad, e, pa, pb⟩ := at_T25 (Kd.C_below HR.out (HX.out.below.trans (HI.out.below.mono HX.out.below.size))) (i : Int) (by omega) (by omega)
        obtain ⟨ad', e', qa, qb⟩ := at_T25 (Kd.C_below HR.out (HX.out.below.trans (HI.out.below.mono HX.out.below.size))) (k2 : Int) (by omega) (by omega)
        subst e
        obtain rfl : ad = ad' := by injection e'
        clear e'
        simp only [Int.toNat_natCast] at pa pb qa qb
        have b1 : W.cell? ⟨w.heap.size, 0, none⟩ = some (.slice (some ad) l0.length c0) := (HI.out.below.cell (p := ⟨w.heap.size, 0, none⟩) hlt1).trans HX.out.cell1
        have b2 : W.cell? ⟨w.heap.size + 1, 0, none⟩ = some (.int .i64 a1) := (HI.out.below.cell (p := ⟨w.heap.size + 1, 0, none⟩) (by have := HX.out.size; simp; omega)).trans HX.out.cell2
        have hi0 : (0 : Int) ≤ (i : Int) := by omega
        have hk0 : (0 : Int) ≤ (k2 : Int) := by omega
        have hiz : (i : Int) < (l0.length : Int) := by omega
        have hkz : (k2 : Int) < (l0.length : Int) := by omega
        have hd1 : 1 ≤ 5 - 1 - 1 := by omega
        gi_wp2
        refine startH (fun w' => w'.cell? ⟨w.heap.size, 0, none⟩ = some (.slice (some ad) l0.length c0) ∧ w'.cell? ⟨w.heap.size + 1, 0, none⟩ = some (.int .i64 a1) ∧ w'.cell? (ad.add (i * 2)) = some (.int .i64 (rd_T25 l0 i).f0) ∧ w'.cell? ⟨(ad.add (i * 2)).block, (ad.add (i * 2)).off + 1, none⟩ = some (.int .i64 (rd_T25 l0 i).f1) ∧ w'.cell? (ad.add (k2 * 2)) = some (.int .i64 (rd_T25 l0 k2).f0) ∧ w'.cell? ⟨(ad.add (k2 * 2)).block, (ad.add (k2 * 2)).off + 1, none⟩ = some (.int .i64 (rd_T25 l0 k2).f1))
          #[false, false, false, false, false, false, false, false, false, false, false] 11 (by kernel_rfl) (by kernel_rfl) ⟨b1, b2, pa, pb, qa, qb⟩ (fun hHeld => ?_)
        refine takeH (v := ?_) 0 (some 43) #[true, false, false, false, false, false, false, false, false, false, false] ?_ rfl rfl (by kernel_rfl) (fun _ _ _ h => h) ⟨Or.inl ⟨by rfl, ?_⟩, fun _ => rfl⟩ ?_ hHeld ?_
        rotate_left 2
        · (rintro w' ⟨s0, s1, s2, s3, s4, s5⟩; go_simp; with_reducible rfl)
        · (simp only [Act.put, List.setIfInBounds_toArray, List.set_cons_zero, List.set_cons_succ]; rfl)
        refine takeH (v := ?_) 1 (some 44) #[true, true, false, false, false, false, false, false, false, false, false] ?_ rfl rfl (by kernel_rfl) (fun _ _ _ h => h) ⟨Or.inl ⟨by rfl, ?_⟩, fun _ => rfl⟩ ?_ hHeld ?_
        rotate_left 2
        · (rintro w' ⟨s0, s1, s2, s3, s4, s5⟩; go_simp; with_reducible rfl)
        · (simp only [Act.put, List.setIfInBounds_toArray, List.set_cons_zero, List.set_cons_succ]; rfl)
        refine takeH (v := ?_) 2 (some 45) #[true, true, true, false, false, false, false, false, false, false, false] ?_ rfl rfl (by kernel_rfl) (fun _ _ _ h => h) ⟨Or.inl ⟨by rfl, ?_⟩, fun _ => rfl⟩ ?_ hHeld ?_
        rotate_left 2
        · (rintro w' ⟨s0, s1, s2, s3, s4, s5⟩; go_simp; with_reducible rfl)
        · (simp only [Act.put, List.setIfInBounds_toArray, List.set_cons_zero, List.set_cons_succ]; rfl)
        refine takeH (v := ?_) 3 (some 46) #[true, true, true, true, false, false, false, false, false, false, false] ?_ rfl rfl (by kernel_rfl) (fun _ _ _ h => h) ⟨Or.inl ⟨by rfl, ?_⟩, fun _ => rfl⟩ ?_ hHeld ?_
        rotate_left 2
        · (rintro w' ⟨s0, s1, s2, s3, s4, s5⟩; go_simp; with_reducible rfl)
        · (simp only [Act.put, List.setIfInBounds_toArray, List.set_cons_zero, List.set_cons_succ]; rfl)
        refine takeH (v := ?_) 4 (some 47) #[true, true, true, true, true, false, false, false, false, false, false] ?_ rfl rfl (by kernel_rfl) (fun _ _ _ h => h) ⟨Or.inl ⟨by rfl, ?_⟩, fun _ => rfl⟩ ?_ hHeld ?_
        rotate_left 2
        · (rintro w' ⟨s0, s1, s2, s3, s4, s5⟩; go_simp; with_reducible rfl)
        · (simp only [Act.put, List.setIfInBounds_toArray, List.set_cons_zero, List.set_cons_succ]; rfl)
        refine takeH (v := ?_) 5 (some 48) #[true, true, true, true, true, true, false, false, false, false, false] ?_ rfl rfl (by kernel_rfl) (fun _ _ _ h => h) ⟨Or.inl ⟨by rfl, ?_⟩, fun _ => rfl⟩ ?_ hHeld ?_
        rotate_left 2
        · (rintro w' ⟨s0, s1, s2, s3, s4, s5⟩; go_simp; with_reducible rfl)
        · (simp only [Act.put, List.setIfInBounds_toArray, List.set_cons_zero, List.set_cons_succ]; rfl)
        refine takeH (v := ?_) 6 (some 49) #[true, true, true, true, true, true, true, false, false, false, false] ?_ rfl rfl (by kernel_rfl) (fun _ _ _ h => h) ⟨Or.inl ⟨by rfl, ?_⟩, fun _ => rfl⟩ ?_ hHeld ?_
        rotate_left 2
        · (rintro w' ⟨s0, s1, s2, s3, s4, s5⟩; go_simp; with_reducible rfl)
        · (simp only [Act.put, List.setIfInBounds_toArray, List.set_cons_zero, List.set_cons_succ]; rfl)
        refine takeH (v := ?_) 7 (some 50) #[true, true, true, true, true, true, true, true, false, false, false] ?_ rfl rfl (by kernel_rfl) (fun _ _ _ h => h) ⟨Or.inl ⟨by rfl, ?_⟩, fun _ => rfl⟩ ?_ hHeld ?_
        rotate_left 2
        · (rintro w' ⟨s0, s1, s2, s3, s4, s5⟩; go_simp; with_reducible rfl)
        · (simp only [Act.put, List.setIfInBounds_toArray, List.set_cons_zero, List.set_cons_succ]; rfl)
        refine takeH (v := ?_) 8 (some 51) #[true, true, true, true, true, true, true, true, true, false, false] ?_ rfl rfl (by kernel_rfl) (fun _ _ _ h => h) ⟨Or.inl ⟨by rfl, ?_⟩, fun _ => rfl⟩ ?_ hHeld ?_
        rotate_left 2
        · (rintro w' ⟨s0, s1, s2, s3, s4, s5⟩; go_simp; with_reducible rfl)
        · (simp only [Act.put, List.setIfInBounds_toArray, List.set_cons_zero, List.set_cons_succ]; rfl)
        refine oneH 9 #[true, true, true, true, true, true, true, true, true, true, false] rfl (by kernel_rfl) (by rfl) (fun K hK => ?_)
        go_simp
        refine ⟨trivial, ?_⟩
        refine (CallsIn.inRound l (callsIn_wide.2 (near_any (rd_T25 l0 i) (rd_T25 l0 k2) a1 _))).mono ?_
        rintro e w3 ⟨rfl, hb3⟩
        refine hK _ _ ⟨pw_cell_below hb3 b1, pw_cell_below hb3 b2, pw_cell_below hb3 pa, pw_cell_below hb3 pb, pw_cell_below hb3 qa, pw_cell_below hb3 qb⟩ (fun hHeld3 => ?_)
        clear hHeld hK K
        have HI3 := Aside0.mk (HI.out.drew.step hb3)
        have HK3 := Aside0.mk ((KeepsOthers.drew W).trans (keeps_below hb3))
        have HB3 : Aside0 (KpB wr.heap.size W w3) := ⟨hb3.block _ (by have := HI.out.size; have := HSZ.out; simp; omega)⟩
        clear b1 b2 pa pb qa qb hb3
        refine takeH (v := ?_) 10 (some 10) #[true, true, true, true, true, true, true, true, true, true, true] ?_ rfl rfl (by kernel_rfl) (fun _ _ _ h => h) ⟨Or.inl ⟨by rfl, ?_⟩, fun _ => rfl⟩ ?_ hHeld3 ?_
        rotate_left 2
        · (rintro w' _; go_simp; with_reducible rfl)
        · (simp only [Act.put, List.setIfInBounds_toArray, List.set_cons_zero, List.set_cons_succ]; rfl)
        refine doneH (by kernel_rfl) ?_
        clear hHeld3 HI
        gi_wp2
        refine startH (fun w' => w'.cell? ⟨w1.heap.size + 1, 0, none⟩ = some (.slice (some ⟨w1.heap.size, 0, none⟩) l0.length l0.length) ∧ w'.cell? ⟨w1.heap.size, i, none⟩ = some (.slice (some ⟨w1.heap.size + 2 + i, 0, none⟩) l0.length l0.length) ∧ w'.cell? ⟨w1.heap.size, k2, none⟩ = some (.slice (some ⟨w1.heap.size + 2 + k2, 0, none⟩) l0.length l0.length))
          #[false, false, false, false, false, false, false, false, false, false, false, false, false, false, false, false] 16 (by kernel_rfl) (by kernel_rfl) ⟨HI3.out.tab.boxCell, HI3.out.tab.rowCell hin, HI3.out.tab.rowCell hkn⟩ (fun hHeld => ?_)
        refine takeH (v := ?_) 0 (some 53) #[true, false, false, false, false, false, false, false, false, false, false, false, false, false, false, false] ?_ rfl rfl (by kernel_rfl) (fun _ _ _ h => h) ⟨Or.inl ⟨by rfl, ?_⟩, fun _ => rfl⟩ ?_ hHeld ?_
        rotate_left 2
        · (rintro w' ⟨s0, s1, s2⟩; go_simp; with_reducible rfl)
        · (simp only [Act.put, List.setIfInBounds_toArray, List.set_cons_zero, List.set_cons_succ]; rfl)
        refine takeH (v := ?_) 1 (some 54) #[true, true, false, false, false, false, false, false, false, false, false, false, false, false, false, false] ?_ rfl rfl (by kernel_rfl) (fun _ _ _ h => h) ⟨Or.inl ⟨by rfl, ?_⟩, fun _ => rfl⟩ ?_ hHeld ?_
        rotate_left 2
        · (rintro w' ⟨s0, s1, s2⟩; go_simp; with_reducible rfl)
        · (simp only [Act.put, List.setIfInBounds_toArray, List.set_cons_zero, List.set_cons_succ]; rfl)
        refine takeH (v := ?_) 2 (some 55) #[true, true, true, false, false, false, false, false, false, false, false, false, false, false, false, false] ?_ rfl rfl (by kernel_rfl) (fun _ _ _ h => h) ⟨Or.inl ⟨by rfl, ?_⟩, fun _ => rfl⟩ ?_ hHeld ?_
        rotate_left 2
        · (rintro w' ⟨s0, s1, s2⟩; go_simp; with_reducible rfl)
        · (simp only [Act.put, List.setIfInBounds_toArray, List.set_cons_zero, List.set_cons_succ]; rfl)
        refine takeH (v := ?_) 3 (some 56) #[true, true, true, true, false, false, false, false, false, false, false, false, false, false, false, false] ?_ rfl rfl (by kernel_rfl) (fun _ _ _ h => h) ⟨Or.inl ⟨by rfl, ?_⟩, fun _ => rfl⟩ ?_ hHeld ?_
        rotate_left 2
        · (rintro w' ⟨s0, s1, s2⟩; go_simp; with_reducible rfl)
        · (simp only [Act.put, List.setIfInBounds_toArray, List.set_cons_zero, List.set_cons_succ]; rfl)
        refine takeH (v := ?_) 4 (some 57) #[true, true, true, true, true, false, false, false, false, false, false, false, false, false, false, false] ?_ rfl rfl (by kernel_rfl) (fun _ _ _ h => h) ⟨Or.inl ⟨by rfl, ?_⟩, fun _ => rfl⟩ ?_ hHeld ?_
        rotate_left 2
        · (rintro w' ⟨s0, s1, s2⟩; go_simp; with_reducible rfl)
        · (simp only [Act.put, List.setIfInBounds_toArray, List.set_cons_zero, List.set_cons_succ]; rfl)
        refine takeH (v := ?_) 5 (some 58) #[true, true, true, true, true, true, false, false, false, false, false, false, false, false, false, false] ?_ rfl rfl (by kernel_rfl) (fun _ _ _ h => h) ⟨Or.inl ⟨by rfl, ?_⟩, fun _ => rfl⟩ ?_ hHeld ?_
        rotate_left 2
        · (rintro w' ⟨s0, s1, s2⟩; go_simp; with_reducible rfl)
        · (simp only [Act.put, List.setIfInBounds_toArray, List.set_cons_zero, List.set_cons_succ]; rfl)
        refine takeH (v := ?_) 6 (some 59) #[true, true, true, true, true, true, true, false, false, false, false, false, false, false, false, false] ?_ rfl rfl (by kernel_rfl) (fun _ _ _ h => h) ⟨Or.inl ⟨by rfl, ?_⟩, fun _ => rfl⟩ ?_ hHeld ?_
        rotate_left 2
        · (rintro w' ⟨s0, s1, s2⟩; go_simp; with_reducible rfl)
        · (simp only [Act.put, List.setIfInBounds_toArray, List.set_cons_zero, List.set_cons_succ]; rfl)
        refine takeH (v := ?_) 7 (some 60) #[true, true, true, true, true, true, true, true, false, false, false, false, false, false, false, false] ?_ rfl rfl (by kernel_rfl) (fun _ _ _ h => h) ⟨Or.inl ⟨by rfl, ?_⟩, fun _ => rfl⟩ ?_ hHeld ?_
        rotate_left 2
        · (rintro w' ⟨s0, s1, s2⟩; go_simp; with_reducible rfl)
        · (simp only [Act.put, List.setIfInBounds_toArray, List.set_cons_zero, List.set_cons_succ]; rfl)
        refine takeH (v := ?_) 8 (some 61) #[true, true, true, true, true, true, true, true, true, false, false, false, false, false, false, false] ?_ rfl rfl (by kernel_rfl) (fun _ _ _ h => h) ⟨Or.inl ⟨by rfl, ?_⟩, fun _ => rfl⟩ ?_ hHeld ?_
        rotate_left 2
        · (rintro w' ⟨s0, s1, s2⟩; go_simp; with_reducible rfl)
        · (simp only [Act.put, List.setIfInBounds_toArray, List.set_cons_zero, List.set_cons_succ]; rfl)
        refine takeH (v := ?_) 9 (some 62) #[true, true, true, true, true, true, true, true, true, true, false, false, false, false, false, false] ?_ rfl rfl (by kernel_rfl) (fun _ _ _ h => h) ⟨Or.inl ⟨by rfl, ?_⟩, fun _ => rfl⟩ ?_ hHeld ?_
        rotate_left 2
        · (rintro w' ⟨s0, s1, s2⟩; go_simp; with_reducible rfl)
        · (simp only [Act.put, List.setIfInBounds_toArray, List.set_cons_zero, List.set_cons_succ]; rfl)
        refine takeH (v := ?_) 10 (some 63) #[true, true, true, true, true, true, true, true, true, true, true, false, false, false, false, false] ?_ rfl rfl (by kernel_rfl) (fun _ _ _ h => h) ⟨Or.inl ⟨by rfl, ?_⟩, fun _ => rfl⟩ ?_ hHeld ?_
        rotate_left 2
        · (rintro w' ⟨s0, s1, s2⟩; go_simp; with_reducible rfl)
        · (simp only [Act.put, List.setIfInBounds_toArray, List.set_cons_zero, List.set_cons_succ]; rfl)
        refine takeH (v := ?_) 11 (some 64) #[true, true, true, true, true, true, true, true, true, true, true, true, false, false, false, false] ?_ rfl rfl (by kernel_rfl) (fun _ _ _ h => h) ⟨Or.inl ⟨by rfl, ?_⟩, fun _ => rfl⟩ ?_ hHeld ?_
        rotate_left 2
        · (rintro w' ⟨s0, s1, s2⟩; go_simp; with_reducible rfl)
        · (simp only [Act.put, List.setIfInBounds_toArray, List.set_cons_zero, List.set_cons_succ]; rfl)
        refine takeH (v := ?_) 12 (some 65) #[true, true, true, true, true, true, true, true, true, true, true, true, true, false, false, false] ?_ rfl rfl (by kernel_rfl) (fun _ _ _ h => h) ⟨Or.inl ⟨by rfl, ?_⟩, fun _ => rfl⟩ ?_ hHeld ?_
        rotate_left 2
        · (rintro w' ⟨s0, s1, s2⟩; go_simp; with_reducible rfl)
        · (simp only [Act.put, List.setIfInBounds_toArray, List.set_cons_zero, List.set_cons_succ]; rfl)
        have HI4 := Aside0.mk HI3.out.drew
        have HK4 := Aside0.mk (HK3.out.trans (KeepsOthers.drew w3))
        have HB4 : Aside0 (KpB wr.heap.size W w3.drew) := ⟨HB3.out⟩
        clear HI3 HK3 HB3
        generalize w3.drew = X at HI4 HK4 HB4 hHeld ⊢
        have e1 := HI4.out.tab.cell hin hkn
        have f1 := HI4.out.tab.frozen hin k2
        have e2 := (HI4.out.tab.set hin hkn (nearB (rd_T25 l0 i) (rd_T25 l0 k2) a1)).cell hkn hin
        have f2 := (HI4.out.tab.set hin hkn (nearB (rd_T25 l0 i) (rd_T25 l0 k2) a1)).frozen hkn i
        refine oneH 13 #[true, true, true, true, true, true, true, true, true, true, true, true, true, true, false, false] rfl (by kernel_rfl) (by rfl) (fun K hK => ?_)
        go_simp
        refine hK _ _ ⟨(cell_set_ne (by omega) _).trans hHeld.1, (cell_set_ne (by omega) _).trans hHeld.2.1, (cell_set_ne (by omega) _).trans hHeld.2.2⟩ (fun hHeld' => ?_)
        clear hHeld hK K
        refine takeH (v := ?_) 14 (some 66) #[true, true, true, true, true, true, true, true, true, true, true, true, true, true, true, false] ?_ rfl rfl (by kernel_rfl) (fun _ _ _ h => h) ⟨Or.inl ⟨by rfl, ?_⟩, fun _ => rfl⟩ ?_ hHeld' ?_
        rotate_left 2
        · (rintro w' ⟨s0, s1, s2⟩; go_simp; with_reducible rfl)
        · (simp only [Act.put, List.setIfInBounds_toArray, List.set_cons_zero, List.set_cons_succ]; rfl)
        refine oneH 15 #[true, true, true, true, true, true, true, true, true, true, true, true, true, true, true, true] rfl (by kernel_rfl) (by rfl) (fun K hK => ?_)
        go_simp
        refine hK _ _ ⟨(cell_set_ne (by omega) _).trans hHeld'.1, (cell_set_ne (by omega) _).trans hHeld'.2.1, (cell_set_ne (by omega) _).trans hHeld'.2.2⟩ (fun hHeld3 => ?_)
        clear hHeld' hHeld3 hK K
        refine doneH (by kernel_rfl) ?_
        gi_wp2
        have hz1 := HSZ.out
        exact ⟨(HK4.out.trans (KeepsOthers.setCell _ _ _)).trans (KeepsOthers.setCell _ _ _), (heap_set_other (by omega) _).trans ((heap_set_other (by omega) _).trans HB4.out), HI4.out.stores ⟨hik, hkn⟩⟩
      case done =>
        rintro D ys W hD hall hI hK
        have hz1 := HSZ.out
        have hD' : w1.heap.size + 2 + l0.length < D := by simp at hD; omega
        have hbc := hI.tab.boxCell
        have HE := Aside0.mk (tabL_all (a1 := a1) hall)
        have HTp : Aside0 (HTab (W.putObj D (.deferred none)) w1.heap.size l0.length l0.length (tof l0 a1 ys)) := ⟨hI.tab.keep fun j hj => World.putObj_heap_other (by omega)⟩
        have HBp : Aside0 (Below w.heap.size w (W.putObj D (.deferred none))) := ⟨(HX.out.below.trans (hI.below.mono HX.out.below.size)).trans (belowK_b (w := w) (Nat.le_refl _) W D _ _ (by have := HX.out.size; omega) hK rfl rfl)⟩
        have HW := Aside0.mk hK
        have HGE : Aside0 (w.heap.size ≤ w1.heap.size) := ⟨by have := HX.out.size; omega⟩
        clear hall hI hD hz1 H H2 M27 hx1 hbx HAb HI0 hK HX HSZ hD'
        go_wp2
        refine ⟨by simp, .inl ⟨_, _, rfl, run_takeDeferred HW.out, ?_⟩⟩
        refine ⟨.tuple #[.slice (some ⟨w1.heap.size, 0, none⟩) l0.length l0.length, .int .i64 0], by simp [results, Try.results18, go_sem], ⟨_, rfl, ?_⟩, HBp.out⟩
        rw [← HE.out]
        exact HTp.out.own HGE.out (by omega)
      case stop =>
        rintro D c pre W _ _ h _
        exact h.elim
end Go.Proofs.Ytcgbfkplhlngjaa.PA
