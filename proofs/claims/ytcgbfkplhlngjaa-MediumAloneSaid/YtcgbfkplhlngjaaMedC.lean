/- That a call of medium's catch hands back what a listening radio catches: the index of the only one that it hears, if its window is open; -2 if it hears several; else -1. -/
import Derived.Test.YtcgbfkplhlngjaaMedIt
namespace Go.Proofs.Ytcgbfkplhlngjaa.PA
open Go.RowKit Go.Shelf Go.Proofs.YtcgbfkplhlngjaaW.PrintWords Go.Proofs.YtcgbfkplhlngjaaW.PrintLast Go.Proofs.YtcgbfkplhlngjaaW.PrintMore
set_option linter.unusedVariables false
set_option linter.unusedSimpArgs false
attribute [local go_sem] Oper.semAt_some

theorem heard_stops (n : Nat) (hn : 1 ≤ n) (B1 B2 : Nat) (w0 : World) (A0 : Option Addr) (c0 : Nat) (xs : List S50) (A1 : Option Addr) (c1 : Nat) (ps : List S25) (r : Int) (i : Nat) (hlen : ps.length = xs.length) (hi : i < xs.length) (X1 X2 : Nat) (hB1 : B1 ≠ X1 ∧ B1 ≠ X2) (hB2 : B2 ≠ X1 ∧ B2 ≠ X2) (hmax : xs.length ≤ 1000)
    (hr0 : Kd.C k50 w0 A0 xs.length xs) (hr1 : Kd.C k25 w0 A1 ps.length ps) (w : World) (hE : HEnv w0 w A0 c0 xs A1 c1 ps r i B1 B2) :
    SeqStopsK Fence.wide n Try.prog 55 #[.pointer (some ⟨B1, 0, none⟩), .pointer (some ⟨B2, 0, none⟩)] (fun x : Nat => #[Value.int .i64 x]) (KpH w0.heap.size X1 X2) (HAll xs ps r i) (HPre xs ps r i) xs.length w := fun l J Jx W hW hJ hJx hY h0 =>
  heard1_in n hn l B1 B2 w0 A0 c0 xs A1 c1 ps r i hlen hi X1 X2 hB1 hB2 hmax hr0 hr1 J Jx (abidesNew hJ) (abidesNew hJx) hY W (hE.step hW) h0

def lastI : List Nat → Int
  | [] => -1
  | x :: _ => x
/-- The loop's invariant: the radios' box, the result's variable, what has been found. -/
structure CInv (w W : World) (air : Value × Value × Int) (pre : List Nat) : Prop where
  air : W.heap[w.heap.size]? = some (.cells #[air.1, air.2.1, .int .i64 air.2.2] 74 (0, 0))
  res : Boxed W (w.heap.size + 1) 3 (.int .i64 0)
  fnd : Boxed W (w.heap.size + 1 + 1) 3 (.int .i64 (lastI pre))
  len : pre.length ≤ 1
  below : Below w.heap.size w W
structure CEnd (w W : World) (pre : List Nat) : Prop where
  res : Boxed W (w.heap.size + 1) 3 (.int .i64 (-2))
  len : pre.length = 2
  below : Below w.heap.size w W
theorem CInv.abides {w : World} {air : Value × Value × Int} {B : Nat} (hB : w.heap.size + 2 < B) : OwnFrom B (fun pre W => CInv w W air pre) := fun s W W' row h hg hr =>
  have hne : ∀ j, j ≤ w.heap.size + 2 → some j ≠ row := fun j hj e => by have := (hr j e.symm).1; omega
  ⟨(hg.block _ (Array.getElem?_eq_some_iff.1 h.air).1 (hne _ (by omega))).trans h.air, h.res.kept hg (hne _ (by omega)), h.fnd.kept hg (hne _ (by omega)), h.len, h.below.grown hg h.below.size fun k e => by have := (hr k e).1; omega⟩
theorem CEnd.abides {w : World} {B : Nat} (hB : w.heap.size + 2 < B) (c : Code) : OwnFrom B (fun pre W => c = .ret ∧ CEnd w W pre) := fun s W W' row h hg hr =>
  have hne : ∀ j, j ≤ w.heap.size + 2 → some j ≠ row := fun j hj e => by have := (hr j e.symm).1; omega
  ⟨h.1, h.2.res.kept hg (hne _ (by omega)), h.2.len, h.2.below.grown hg h.2.below.size fun k e => by have := (hr k e).1; omega⟩

/-- Five new blocks. -/
structure Five (w W : World) (o0 o1 o2 o3 o4 : Obj) : Prop where
  b0 : W.heap[w.heap.size]? = some o0
  b1 : W.heap[w.heap.size + 1]? = some o1
  b2 : W.heap[w.heap.size + 1 + 1]? = some o2
  b3 : W.heap[w.heap.size + 1 + 1 + 1]? = some o3
  b4 : W.heap[w.heap.size + 1 + 1 + 1 + 1]? = some o4
  size : W.heap.size = w.heap.size + 1 + 1 + 1 + 1 + 1
  below : Below w.heap.size w W
theorem five_of (w : World) (o0 o1 o2 o3 o4 : Obj) : Five w (((((w.alloc o0).alloc o1).alloc o2).alloc o3).alloc o4) o0 o1 o2 o3 o4 := by
  have n0 := World.alloc_heap_new w o0
  have n1 := World.alloc_heap_new (w.alloc o0) o1
  have n2 := World.alloc_heap_new ((w.alloc o0).alloc o1) o2
  have n3 := World.alloc_heap_new (((w.alloc o0).alloc o1).alloc o2) o3
  have n4 := World.alloc_heap_new ((((w.alloc o0).alloc o1).alloc o2).alloc o3) o4
  have s0 := World.size_alloc (w := w) (o := o0)
  have s1 := World.size_alloc (w := w.alloc o0) (o := o1)
  have s2 := World.size_alloc (w := (w.alloc o0).alloc o1) (o := o2)
  have s3 := World.size_alloc (w := ((w.alloc o0).alloc o1).alloc o2) (o := o3)
  have s4 := World.size_alloc (w := (((w.alloc o0).alloc o1).alloc o2).alloc o3) (o := o4)
  rw [s0] at n1 s1
  rw [s1] at n2 s2
  rw [s2] at n3 s3
  rw [s3] at n4 s4
  have k : ∀ (W : World) (o : Obj) (j : Nat), j < W.heap.size → (W.alloc o).heap[j]? = W.heap[j]? := fun W o j h => Below.heap_alloc _ _ _ h
  refine ⟨?_, ?_, ?_, ?_, n4, s4, below_alloc (below_alloc (below_alloc (below_alloc (below_alloc (Below.refl _ _) _) _) _) _) _⟩
  · rw [k _ _ _ (by rw [s3]; omega), k _ _ _ (by rw [s2]; omega), k _ _ _ (by rw [s1]; omega), k _ _ _ (by rw [s0]; omega)]; exact n0
  · rw [k _ _ _ (by rw [s3]; omega), k _ _ _ (by rw [s2]; omega), k _ _ _ (by rw [s1]; omega)]; exact n1
  · rw [k _ _ _ (by rw [s3]; omega), k _ _ _ (by rw [s2]; omega)]; exact n2
  · rw [k _ _ _ (by rw [s3]; omega)]; exact n3
theorem Five.abides {w W : World} {o0 o1 o2 o3 o4 : Obj} (h : Five w W o0 o1 o2 o3 o4) (air : Value × Value × Int) : OwnFrom W.heap.size (fun pre W => CInv w W air pre) := CInv.abides (by rw [h.size]; omega)
theorem Five.abidesEnd {w W : World} {o0 o1 o2 o3 o4 : Obj} (h : Five w W o0 o1 o2 o3 o4) (c : Code) : OwnFrom W.heap.size (fun pre W => c = .ret ∧ CEnd w W pre) := CEnd.abides (by rw [h.size]; omega) c
theorem lastI_ne {x : Nat} {pre : List Nat} : ((lastI (x :: pre) : Int) != -1) = true := by simp [lastI]
theorem kpH_set {n0 X1 X2 b : Nat} {W : World} (hb : b = X1 ∨ b = X2) (hn : n0 ≤ b) (u : Value) : KpH n0 X1 X2 W (W.setCell ⟨b, 0, none⟩ u) :=
  ⟨(Below.refl n0 W).setCell (p := ⟨b, 0, none⟩) hn u, fun a v h1 h2 hc => by
    have : (W.setCell ⟨b, 0, none⟩ u).heap[a.block]? = W.heap[a.block]? := Below.heap_setCell _ _ _ _ (by rcases hb with rfl | rfl <;> assumption)
    unfold World.cell? at hc ⊢
    rw [this]; exact hc⟩

theorem set_fin {w W : World} {D : Nat} {u : Value} (v : Value) (hc : W.cell? ⟨w.heap.size + 1, 0, none⟩ = some u) (hK : W.heap[D]? = some (.deferred (some []))) (hD : w.heap.size + 1 < D) (hb : Below w.heap.size w W) :
    (W.setCell ⟨w.heap.size + 1, 0, none⟩ v).heap[D]? = some (.deferred (some [])) ∧ ((W.setCell ⟨w.heap.size + 1, 0, none⟩ v).putObj D (.deferred none)).cell? ⟨w.heap.size + 1, 0, none⟩ = some v ∧ Below w.heap.size w ((W.setCell ⟨w.heap.size + 1, 0, none⟩ v).putObj D (.deferred none)) := by
  have hK' := (KeepsOthers.setCell W ⟨w.heap.size + 1, 0, none⟩ v).same D _ hK rfl
  exact ⟨hK', cell_kept (World.cell?_setCell_same' W ⟨w.heap.size + 1, 0, none⟩ v (by rw [hc]; rfl)) (grownBy_putObj' _ D (.deferred none)) (fun r e => by cases e; exact ⟨_, hK', rfl⟩),
    (hb.setCell (p := ⟨w.heap.size + 1, 0, none⟩) (by simp) _).trans (belowK_b (w := w) (Nat.le_refl _) _ D _ _ (by omega) hK' rfl rfl)⟩

set_option maxRecDepth 100000 in
set_option maxHeartbeats 4000000 in
theorem catch_any (A0 : Option Addr) (c0 : Nat) (xs : List S50) (A1 : Option Addr) (c1 : Nat) (ps : List S25) (r : Int) (i : Nat) (w : World) (hr0 : Kd.C k50 w A0 xs.length xs) (hr1 : Kd.C k25 w A1 ps.length ps) (hlen : ps.length = xs.length) (hi : i < xs.length) (hmax : xs.length ≤ 1000) :
    Calls Try.prog 46 #[airV A0 xs.length c0 A1 ps.length c1 r, .int .i64 i] w fun e w' => e = .returned (.int .i64 (catchV xs ps r i)) ∧ Below w.heap.size w w' := by
  have HR0 := Aside0.mk hr0
  have HR1 := Aside0.mk hr1
  have HL := Aside0.mk hlen
  clear hr0 hr1 hlen
  refine (callsIn_wide (n := 5)).1 ?_
  refine callsIn_of_wp_marks Try.func46 rfl trivial ?_ rfl
  refine wpIn_wide.2 ?_
  simp only [Try.ntmps46, List.size_toArray, List.length_cons, List.length_nil, Nat.reduceAdd, Nat.reduceSub, Array.replicate_succ, Array.replicate_zero, List.push_toArray, List.append_toArray, List.nil_append, List.cons_append]
  go_wp2_with (go_at_call 51; refine (heardM_any _ _ _ _ _ _ _ _ _).mono ?_; rintro e w' ⟨rfl, rfl⟩)
  have h5 := five_of w (.cells #[.slice A0 xs.length c0, .slice A1 ps.length c1, .int .i64 r] 74) (.cells #[.int .i64 0] 3) (.cells #[.int .i64 (-1)] 3) (.cells #[.slice A0 xs.length c0, .slice A1 ps.length c1, .int .i64 r] 74) (.cells #[.int .i64 i] 3)
  have hE : HEnv w _ A0 c0 xs A1 c1 ps r i (w.heap.size + 1 + 1 + 1) (w.heap.size + 1 + 1 + 1 + 1) := ⟨h5.below, cellOf h5.b3 rfl, cellOf h5.b3 rfl, cellOf h5.b3 rfl, cellOf h5.b4 rfl⟩
  have HI0 := Aside0.mk (show CInv w _ (.slice A0 xs.length c0, .slice A1 ps.length c1, r) [] from ⟨h5.b0, h5.b1, h5.b2, Nat.zero_le _, h5.below⟩)
  have HAb := Aside0.mk (h5.abides (.slice A0 xs.length c0, .slice A1 ps.length c1, r))
  have HAe := fun c => Aside0.mk (h5.abidesEnd c)
  have HST := Aside0.mk (heard_stops 4 (by omega) (w.heap.size + 1 + 1 + 1) (w.heap.size + 1 + 1 + 1 + 1) w A0 c0 xs A1 c1 ps r i HL.out hi (w.heap.size + 1) (w.heap.size + 1 + 1) (by omega) (by omega) hmax HR0.out HR1.out _ hE)
  have HSZ := Aside0.mk h5.size
  clear hE h5
  refine (wpIn_wide (n := 5)).1 ?_
  refine wpIn_rangeFunc_ownF (F := Fence.wide) rfl (by omega) (gf := 55) (lb := #[.pointer (some ⟨w.heap.size + 1 + 1 + 1, 0, none⟩), .pointer (some ⟨w.heap.size + 1 + 1 + 1 + 1, 0, none⟩)]) rfl trivial (enters_of Try.func55 (by kernel_rfl) rfl)
    HST.out kpH_t (kpH_b (by have := HSZ.out; omega)) (Below.refl _ _) (fun _ => rfl)
    (fun pre W => CInv w W (.slice A0 xs.length c0, .slice A1 ps.length c1, r) pre) (fun c pre W => c = .ret ∧ CEnd w W pre) HAb.out (fun c => (HAe c).out) HI0.out
    (fun x => { tmps := #[airV A0 xs.length c0 A1 ps.length c1 r, .int .i64 i, .pointer (some ⟨w.heap.size, 0, none⟩), undef, .pointer (some ⟨w.heap.size + 1, 0, none⟩), .pointer (some ⟨w.heap.size + 1 + 1, 0, none⟩), .int .i64 x, airV A0 xs.length c0 A1 ps.length c1 r, .int .i64 i, .func (.func 55) #[] #[.pointer (some ⟨w.heap.size + 1 + 1 + 1, 0, none⟩), .pointer (some ⟨w.heap.size + 1 + 1 + 1 + 1, 0, none⟩)], .int .i64 x, undef, undef, undef, undef, undef, undef, undef, undef, undef, undef, undef, undef, undef, undef, undef, undef, undef, undef, undef, undef, undef, undef], defers := [] }) ?assign ?body ?done ?stop
  case assign =>
    intro l x W K hK
    gi_wp2
    exact hK
  case body =>
    rintro l pre x W hI hlen
    clear HST HI0 HAb HAe
    have HI := Aside0.mk hI
    have fc := hI.fnd.cell
    have ff := hI.fnd.frozen
    have rc := hI.res.cell
    have rf := hI.res.frozen
    have HLn := Aside0.mk hI.len
    clear hI hlen
    cases pre with
    | nil =>
      simp only [lastI] at fc
      gi_wp2
      refine ⟨KeepsOthers.setCell _ _ _, kpH_set (.inr rfl) (by omega) _, ⟨?_, ?_, ?_, by simp, HI.out.below.setCell (p := ⟨w.heap.size + 1 + 1, 0, none⟩) (by simp; omega) _⟩⟩
      · exact (Below.heap_setCell _ _ _ _ (by simp; omega)).trans HI.out.air
      · exact HI.out.res.other (by omega) _
      · exact HI.out.fnd.set _
    | cons y pre =>
      have H1 : ((lastI (y :: pre) : Int) != -1) = true := lastI_ne
      have H2 : ((lastI (y :: pre) : Int) == -1) = false := by simpa using H1
      generalize lastI (y :: pre) = f at fc H1 H2
      gi_wp2
      refine ⟨KeepsOthers.setCell _ _ _, rfl, ⟨HI.out.res.set _, ?_, HI.out.below.setCell (p := ⟨w.heap.size + 1, 0, none⟩) (by simp) _⟩⟩
      have := HLn.out
      simp at this ⊢
      simp [this]
  case done =>
    rintro D ys W hD hall hI hK
    clear HST HI0 HAb HAe
    have HA := Aside0.mk (show ys = heardL xs ps r i from hall)
    have HI := Aside0.mk hI
    have fc := hI.fnd.cell
    have rc := hI.res.cell
    have rf := hI.res.frozen
    have HLn := Aside0.mk hI.len
    have air0 : W.cell? ⟨w.heap.size, 0, none⟩ = some (.slice A0 xs.length c0) := cellOf hI.air rfl
    have hN0 : w.heap.size + 1 < D := by have := HSZ.out; omega
    clear hI hall hD
    cases ys with
    | nil =>
      have HV : Aside0 (catchV xs ps r i = -1) := ⟨by unfold catchV; rw [← HA.out]⟩
      simp only [lastI] at fc
      gi_wp2
      go_upto_region 7 with (fail)
      refine wp_region_noPanic ?_
      refine (wpIn_wide (n := 5)).1 ?_
      refine startF (fun w' => w'.cell? ⟨w.heap.size + 1 + 1, 0, none⟩ = some (.int .i64 (-1)) ∧ True) [] #[false, false, false, false, false, false, false, false, false, false, false, false, false, false, false, false, false, false] 18 (by kernel_rfl) (by kernel_rfl) ⟨fc, trivial⟩ (fun hHeld => ?_)
      refine takeF (v := ?_) 0 (some 14) #[true, false, false, false, false, false, false, false, false, false, false, false, false, false, false, false, false, false] ?_ rfl rfl (by kernel_rfl) (fun _ _ _ h => h) ⟨Or.inl ⟨by rfl, ?_⟩, fun _ _ _ => trivial⟩ ?_ hHeld ?_
      rotate_left 2
      · (rintro w' ⟨s0, _⟩; go_simp; with_reducible rfl)
      · (simp only [Act.put, List.setIfInBounds_toArray, List.set_cons_zero, List.set_cons_succ]; rfl)
      refine takeF (v := ?_) 1 (some 15) #[true, true, false, false, false, false, false, false, false, false, false, false, false, false, false, false, false, false] ?_ rfl rfl (by kernel_rfl) (fun _ _ _ h => h) ⟨Or.inl ⟨by rfl, ?_⟩, fun _ _ _ => trivial⟩ ?_ hHeld ?_
      rotate_left 2
      · (rintro w' ⟨s0, _⟩; go_simp; with_reducible rfl)
      · (simp only [Act.put, List.setIfInBounds_toArray, List.set_cons_zero, List.set_cons_succ]; rfl)
      refine takeF (v := ?_) 2 (some 16) #[true, true, true, false, false, false, false, false, false, false, false, false, false, false, false, false, false, false] ?_ rfl rfl (by kernel_rfl) (fun _ _ _ h => h) ⟨Or.inl ⟨by rfl, ?_⟩, fun _ _ _ => trivial⟩ ?_ hHeld ?_
      rotate_left 2
      · (rintro w' ⟨s0, _⟩; go_simp; with_reducible rfl)
      · (simp only [Act.put, List.setIfInBounds_toArray, List.set_cons_zero, List.set_cons_succ]; rfl)
      refine pureF (v := undef) 3 (some 17) #[true, true, true, true, false, false, false, false, false, false, false, false, false, false, false, false, false, false] ?_ rfl rfl (by kernel_rfl) (fun _ _ _ h => h) ⟨Or.inr ⟨by rfl, rfl⟩, fun _ _ _ => trivial⟩ ?_ ?_
      rotate_left 1
      · (simp only [Act.put, List.setIfInBounds_toArray, List.set_cons_zero, List.set_cons_succ]; rfl)
      refine pureF (v := undef) 4 (some 18) #[true, true, true, true, true, false, false, false, false, false, false, false, false, false, false, false, false, false] ?_ rfl rfl (by kernel_rfl) (fun _ _ _ h => h) ⟨Or.inr ⟨by rfl, rfl⟩, fun _ _ _ => trivial⟩ ?_ ?_
      rotate_left 1
      · (simp only [Act.put, List.setIfInBounds_toArray, List.set_cons_zero, List.set_cons_succ]; rfl)
      refine pureF (v := undef) 5 (some 19) #[true, true, true, true, true, true, false, false, false, false, false, false, false, false, false, false, false, false] ?_ rfl rfl (by kernel_rfl) (fun _ _ _ h => h) ⟨Or.inr ⟨by rfl, rfl⟩, fun _ _ _ => trivial⟩ ?_ ?_
      rotate_left 1
      · (simp only [Act.put, List.setIfInBounds_toArray, List.set_cons_zero, List.set_cons_succ]; rfl)
      refine pureF (v := undef) 6 (some 20) #[true, true, true, true, true, true, true, false, false, false, false, false, false, false, false, false, false, false] ?_ rfl rfl (by kernel_rfl) (fun _ _ _ h => h) ⟨Or.inr ⟨by rfl, rfl⟩, fun _ _ _ => trivial⟩ ?_ ?_
      rotate_left 1
      · (simp only [Act.put, List.setIfInBounds_toArray, List.set_cons_zero, List.set_cons_succ]; rfl)
      refine pureF (v := undef) 7 (some 21) #[true, true, true, true, true, true, true, true, false, false, false, false, false, false, false, false, false, false] ?_ rfl rfl (by kernel_rfl) (fun _ _ _ h => h) ⟨Or.inr ⟨by rfl, rfl⟩, fun _ _ _ => trivial⟩ ?_ ?_
      rotate_left 1
      · (simp only [Act.put, List.setIfInBounds_toArray, List.set_cons_zero, List.set_cons_succ]; rfl)
      refine pureF (v := undef) 8 (some 22) #[true, true, true, true, true, true, true, true, true, false, false, false, false, false, false, false, false, false] ?_ rfl rfl (by kernel_rfl) (fun _ _ _ h => h) ⟨Or.inr ⟨by rfl, rfl⟩, fun _ _ _ => trivial⟩ ?_ ?_
      rotate_left 1
      · (simp only [Act.put, List.setIfInBounds_toArray, List.set_cons_zero, List.set_cons_succ]; rfl)
      refine pureF (v := undef) 9 (some 23) #[true, true, true, true, true, true, true, true, true, true, false, false, false, false, false, false, false, false] ?_ rfl rfl (by kernel_rfl) (fun _ _ _ h => h) ⟨Or.inr ⟨by rfl, rfl⟩, fun _ _ _ => trivial⟩ ?_ ?_
      rotate_left 1
      · (simp only [Act.put, List.setIfInBounds_toArray, List.set_cons_zero, List.set_cons_succ]; rfl)
      refine pureF (v := undef) 10 (some 24) #[true, true, true, true, true, true, true, true, true, true, true, false, false, false, false, false, false, false] ?_ rfl rfl (by kernel_rfl) (fun _ _ _ h => h) ⟨Or.inr ⟨by rfl, rfl⟩, fun _ _ _ => trivial⟩ ?_ ?_
      rotate_left 1
      · (simp only [Act.put, List.setIfInBounds_toArray, List.set_cons_zero, List.set_cons_succ]; rfl)
      refine pureF (v := undef) 11 (some 25) #[true, true, true, true, true, true, true, true, true, true, true, true, false, false, false, false, false, false] ?_ rfl rfl (by kernel_rfl) (fun _ _ _ h => h) ⟨Or.inr ⟨by rfl, rfl⟩, fun _ _ _ => trivial⟩ ?_ ?_
      rotate_left 1
      · (simp only [Act.put, List.setIfInBounds_toArray, List.set_cons_zero, List.set_cons_succ]; rfl)
      refine pureF (v := undef) 12 (some 26) #[true, true, true, true, true, true, true, true, true, true, true, true, true, false, false, false, false, false] ?_ rfl rfl (by kernel_rfl) (fun _ _ _ h => h) ⟨Or.inr ⟨by rfl, rfl⟩, fun _ _ _ => trivial⟩ ?_ ?_
      rotate_left 1
      · (simp only [Act.put, List.setIfInBounds_toArray, List.set_cons_zero, List.set_cons_succ]; rfl)
      refine pureF (v := undef) 13 (some 27) #[true, true, true, true, true, true, true, true, true, true, true, true, true, true, false, false, false, false] ?_ rfl rfl (by kernel_rfl) (fun _ _ _ h => h) ⟨Or.inr ⟨by rfl, rfl⟩, fun _ _ _ => trivial⟩ ?_ ?_
      rotate_left 1
      · (simp only [Act.put, List.setIfInBounds_toArray, List.set_cons_zero, List.set_cons_succ]; rfl)
      refine pureF (v := undef) 14 (some 28) #[true, true, true, true, true, true, true, true, true, true, true, true, true, true, true, false, false, false] ?_ rfl rfl (by kernel_rfl) (fun _ _ _ h => h) ⟨Or.inr ⟨by rfl, rfl⟩, fun _ _ _ => trivial⟩ ?_ ?_
      rotate_left 1
      · (simp only [Act.put, List.setIfInBounds_toArray, List.set_cons_zero, List.set_cons_succ]; rfl)
      refine pureF (v := undef) 15 (some 29) #[true, true, true, true, true, true, true, true, true, true, true, true, true, true, true, true, false, false] ?_ rfl rfl (by kernel_rfl) (fun _ _ _ h => h) ⟨Or.inr ⟨by rfl, rfl⟩, fun _ _ _ => trivial⟩ ?_ ?_
      rotate_left 1
      · (simp only [Act.put, List.setIfInBounds_toArray, List.set_cons_zero, List.set_cons_succ]; rfl)
      refine pureF (v := undef) 16 (some 30) #[true, true, true, true, true, true, true, true, true, true, true, true, true, true, true, true, true, false] ?_ rfl rfl (by kernel_rfl) (fun _ _ _ h => h) ⟨Or.inr ⟨by rfl, rfl⟩, fun _ _ _ => trivial⟩ ?_ ?_
      rotate_left 1
      · (simp only [Act.put, List.setIfInBounds_toArray, List.set_cons_zero, List.set_cons_succ]; rfl)
      refine pureF (v := ?_) 17 (some 31) #[true, true, true, true, true, true, true, true, true, true, true, true, true, true, true, true, true, true] ?_ rfl rfl (by kernel_rfl) (fun _ _ _ h => h) ⟨Or.inl ⟨by rfl, ?_⟩, fun _ _ _ => trivial⟩ ?_ ?_
      rotate_left 2
      · (intro w' _; go_simp; with_reducible rfl)
      · (simp only [Act.put, List.setIfInBounds_toArray, List.set_cons_zero, List.set_cons_succ]; rfl)
      clear hHeld
      refine doneF (by kernel_rfl) ?_
      refine NoPanic.normal ?_
      go_wp2
      obtain ⟨f1, f2, f3⟩ := set_fin (.int .i64 (-1)) rc hK hN0 HI.out.below
      refine ⟨by simp, .inl ⟨_, _, rfl, run_takeDeferred f1, ?_⟩⟩
      replace f2 : ((W.setCell ⟨w.heap.size + 1, 0, none⟩ (.int .i64 (-1))).drew.putObj D (.deferred none)).cell? ⟨w.heap.size + 1, 0, none⟩ = some (.int .i64 (-1)) := f2
      exact ⟨.int .i64 (-1), by simp [results, Try.results46, go_sem, f2], by rw [HV.out], f3.drew⟩
    | cons y ys =>
      obtain rfl : ys = [] := by have := HLn.out; simpa using this
      simp only [lastI] at fc
      have hy : y < xs.length := by
        have := HA.out ▸ List.mem_singleton_self y
        simp only [heardL, List.mem_filter, List.mem_range] at this
        exact this.1
      have HV : Aside0 (catchV xs ps r i = if opensB (rd_T50 xs y).f2 (rd_T50 xs i).f3 = true then (y : Int) else -1) := ⟨by rw [rdT50, rdT50]; unfold catchV; rw [← HA.out]⟩
      obtain ⟨ad, e, _⟩ := HR0.out.2.2 (by omega)
      subst e
      have hop := fun w => opens_any (rd_T50 xs y).f2 (rd_T50 xs i).f3 w
      obtain ⟨_, e, x0, x1, x2, x3, x4⟩ := at_T50 (Kd.C_below HR0.out HI.out.below) (y : Int) (by omega) (by omega)
      cases e
      obtain ⟨_, e, z0, z1, z2, z3, z4⟩ := at_T50 (Kd.C_below HR0.out HI.out.below) (i : Int) (by omega) (by omega)
      cases e
      simp only [Int.toNat_natCast] at x0 x1 x2 x3 x4 z0 z1 z2 z3 z4
      clear x0 x1 x3 x4 z0 z1 z2
      have hy0 : (0 : Int) ≤ (y : Int) := by omega
      have hyz : (y : Int) < (xs.length : Int) := by omega
      have hi0 : (0 : Int) ≤ (i : Int) := by omega
      have hiz : (i : Int) < (xs.length : Int) := by omega
      have H1 : ((y : Int) != -1) = true := by simp
      generalize rd_T50 xs y = p at x2 HV hop
      generalize rd_T50 xs i = q at z3 z4 HV hop
      generalize hb : opensB p.f2 q.f3 = b at hop HV
      clear hb
      cases b with
      | true =>
        gi_wp2
        go_upto_region 7 with (fail)
        refine wp_region_noPanic ?_
        go_region_held3 (fun w' => w'.cell? ⟨w.heap.size + 1 + 1, 0, none⟩ = some (.int .i64 y) ∧ w'.cell? ⟨w.heap.size, 0, none⟩ = some (.slice (some ad) xs.length c0) ∧ w'.cell? ⟨(ad.add (y * 5)).block, (ad.add (y * 5)).off + 2, none⟩ = some (.int .i64 p.f2) ∧ w'.cell? ⟨(ad.add (i * 5)).block, (ad.add (i * 5)).off + 3, none⟩ = some (.int .i64 q.f3.f0) ∧ w'.cell? ⟨(ad.add (i * 5)).block, (ad.add (i * 5)).off + 4, none⟩ = some (.int .i64 q.f3.f1)) (first | go_keep | (refine ⟨?_, ?_, ?_, ?_, ?_⟩ <;> (refine pw_cell_below (by assumption) ?_; assumption))) (first | (go_at_call 52; refine (hop _).mono ?_; rintro e w' ⟨rfl, hb⟩))
        refine NoPanic.normal ?_
        have hb3 : Below W.heap.size W w' := (Below.refl _ W).drew.trans hb
        have fc3 := pw_cell_below hb3 fc
        have rc3 := pw_cell_below hb3 rc
        have rf3 := (hb3.frozen (World.block_lt_of_cell? W _ rc)).trans rf
        have hK3 := (hb3.block D (Array.getElem?_eq_some_iff.1 hK).1).trans hK
        have HB3 := Aside0.mk (HI.out.below.trans (hb3.mono HI.out.below.size))
        clear hb hb3 fc hK rc rf x2 z3 z4
        go_wp2
        obtain ⟨f1, f2, f3⟩ := set_fin (.int .i64 (y : Int)) rc3 hK3 hN0 HB3.out
        refine ⟨by simp, .inl ⟨_, _, rfl, run_takeDeferred f1, ?_⟩⟩
        exact ⟨.int .i64 (y : Int), by simp [results, Try.results46, go_sem, f2], by rw [HV.out]; rfl, f3⟩
      | false =>
        gi_wp2
        go_upto_region 7 with (fail)
        refine wp_region_noPanic ?_
        go_region_held3 (fun w' => w'.cell? ⟨w.heap.size + 1 + 1, 0, none⟩ = some (.int .i64 y) ∧ w'.cell? ⟨w.heap.size, 0, none⟩ = some (.slice (some ad) xs.length c0) ∧ w'.cell? ⟨(ad.add (y * 5)).block, (ad.add (y * 5)).off + 2, none⟩ = some (.int .i64 p.f2) ∧ w'.cell? ⟨(ad.add (i * 5)).block, (ad.add (i * 5)).off + 3, none⟩ = some (.int .i64 q.f3.f0) ∧ w'.cell? ⟨(ad.add (i * 5)).block, (ad.add (i * 5)).off + 4, none⟩ = some (.int .i64 q.f3.f1)) (first | go_keep | (refine ⟨?_, ?_, ?_, ?_, ?_⟩ <;> (refine pw_cell_below (by assumption) ?_; assumption))) (first | (go_at_call 52; refine (hop _).mono ?_; rintro e w' ⟨rfl, hb⟩))
        refine NoPanic.normal ?_
        have hb3 : Below W.heap.size W w' := (Below.refl _ W).drew.trans hb
        have fc3 := pw_cell_below hb3 fc
        have rc3 := pw_cell_below hb3 rc
        have rf3 := (hb3.frozen (World.block_lt_of_cell? W _ rc)).trans rf
        have hK3 := (hb3.block D (Array.getElem?_eq_some_iff.1 hK).1).trans hK
        have HB3 := Aside0.mk (HI.out.below.trans (hb3.mono HI.out.below.size))
        clear hb hb3 fc hK rc rf x2 z3 z4
        go_wp2
        obtain ⟨f1, f2, f3⟩ := set_fin (.int .i64 (-1)) rc3 hK3 hN0 HB3.out
        refine ⟨by simp, .inl ⟨_, _, rfl, run_takeDeferred f1, ?_⟩⟩
        exact ⟨.int .i64 (-1), by simp [results, Try.results46, go_sem, f2], by rw [HV.out]; rfl, f3⟩
  case stop =>
    rintro D c pre W hD hpre hx hK
    clear HST HI0 HAb HAe
    obtain ⟨rfl, hx⟩ := hx
    have HV : Aside0 (catchV xs ps r i = -2) := ⟨by
      obtain ⟨t, ht⟩ := (show pre <+: heardL xs ps r i from hpre)
      unfold catchV
      rw [← ht]
      match pre, hx.len with
      | [_, _], _ => rfl⟩
    gi_wp2
    refine ⟨by simp, .inl ⟨_, _, rfl, run_takeDeferred hK, ?_⟩⟩
    have hc := cell_kept hx.res.cell (grownBy_putObj' _ D (.deferred none)) (fun r e => by cases e; exact ⟨_, hK, rfl⟩)
    refine ⟨.int .i64 (-2), by simp [results, Try.results46, go_sem, hc], by rw [HV.out], hx.below.trans (belowK_b (w := w) (Nat.le_refl _) W D _ _ (by have := HSZ.out; omega) hK rfl rfl)⟩
end Go.Proofs.Ytcgbfkplhlngjaa.PA
