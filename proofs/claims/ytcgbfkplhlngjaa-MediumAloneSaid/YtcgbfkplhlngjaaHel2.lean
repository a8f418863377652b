/- A region that leaves its order of evaluation open, inside a fence, guarded calls among its operations: an operation that gives its value in every world that meets a condition S (a load of a cell that nobody in the region writes) may be taken ahead of the others. -/
import Derived.OrdersIn
import Derived.OrdersHeld
import Derived.Laws.World
import Derived.Test.YtcgbfkplhlngjaaWLast
namespace Go.Proofs.Ytcgbfkplhlngjaa.PA
open Go Go.Proofs.YtcgbfkplhlngjaaW.PrintLast

variable {F : Fence} {n : Nat} {P : Program} {ops : Array Oper} {Q : Exit → Act → World → Prop} {md : Region.Mode} {S : World → Prop} {ds : List Nat}

/-- No operation of the region is a defer statement. -/
def calmO (ops : Array Oper) : Bool := ops.toList.all fun o => match o.op with | .defer _ => false | _ => true
theorem calmO_at (h : calmO ops = true) {i : Nat} {o : Oper} (hi : ops[i]? = some o) : ∀ c, o.op ≠ .defer c := by
  intro c hc
  have hm : o ∈ ops.toList := List.mem_of_getElem? (i := i) (by simpa using hi)
  have := List.all_eq_true.1 h o hm
  simp [hc] at this

/-- In this state the operation gives v in every world that meets S, leaves the world alone, and is about to call nothing outside the fence. -/
structure GivesF (F : Fence) (P : Program) (ops : Array Oper) (S : World → Prop) (o : Oper) (v : Value) (a : Act) : Prop where
  val : YieldsIf P ops S o v a
  quiet : ∀ w f, o.about P w a.eval = some f → F.fn f

theorem GivesF.step {i : Nat} {o : Oper} {v : Value} {a : Act} (hn : calmO ops = true) (hi : ops[i]? = some o) (hy : GivesF F P ops S o v a) {K : Act → World → Prop} {w : World} (hS : S w)
    (h : K (a.put o.dst v) w) : wpOpIn F n P ops Q i K a w := by
  have hq : ∀ f, o.about P w a.eval = some f → F.fn f := hy.quiet w
  unfold wpOpIn
  rw [hi]
  rcases hy.val with ⟨hw, hv⟩ | ⟨hw, rfl⟩
  · simp only [hw, if_true, Oper.wpIn, Oper.semAt_eq _ _ o (calmO_at hn hi), hv w hS, Oper.uponIn]
    exact ⟨hq, h⟩
  · simp only [hw, Bool.false_eq_true, if_false]
    exact ⟨hq, h⟩

/-- Another operation, apart from it, is carried out: it may as well find the value in its place. -/
theorem givesF_put {j : Nat} {oi oj : Oper} {v : Value} (hn : calmO ops = true) (hj : ops[j]? = some oj) (hap : oi.apart ops oj = true) (hsi : ∀ cs b, oi.op ≠ .select cs b) (hsj : ∀ cs b, oj.op ≠ .select cs b)
    (hQ : ∀ c a w, Q (.panic c) (a.put oi.dst v) w → Q (.panic c) a w) {K : Act → World → Prop} {a : Act} {w : World} (hy : GivesF F P ops S oi v a) (h : wpOpIn F n P ops Q j K (a.put oi.dst v) w) :
    wpOpIn F n P ops Q j (fun a' w' => GivesF F P ops S oi v a' ∧ K (a'.put oi.dst v) w') a w := by
  obtain ⟨h1, h2, h3⟩ := Oper.apart_spec hap
  have keep : ∀ (b : Act), GivesF F P ops S oi v b → ∀ u, GivesF F P ops S oi v (b.put oj.dst u) := fun b hb u =>
    ⟨hb.val.of_same (execOp_put oi hsi b oj.dst u h3) (wanted_put oi b oj.dst u h3), fun w => by rw [about_put oi w b oj.dst u h3]; exact hb.quiet w⟩
  have keepD : ∀ d, GivesF F P ops S oi v { a with defers := d :: a.defers } := fun d => ⟨hy.val.of_same rfl rfl, hy.quiet⟩
  have back : ∀ u : Value, K ((a.put oi.dst v).put oj.dst u) = K ((a.put oj.dst u).put oi.dst v) := fun u => by rw [← Act.put_comm a v u h2]
  unfold wpOpIn at h ⊢
  rw [hj] at h ⊢
  simp only [wanted_put oj a oi.dst v h1, about_put oj w a oi.dst v h1] at h ⊢
  split
  next hw =>
    rw [if_pos hw] at h
    unfold Oper.wpIn at h ⊢
    rw [about_put oj w a oi.dst v h1, Oper.semAt_eq _ _ oj (calmO_at hn hj), execOp_put oj hsj a oi.dst v h1] at h
    rw [Oper.semAt_eq _ _ oj (calmO_at hn hj)]
    refine ⟨h.1, ?_⟩
    replace h := h.2
    generalize (execOp a.eval oj).run P w = r at h ⊢
    have ret : ∀ (e : Ending) (w'' : World), (match e, w'' with
          | .returned u, w'' => K ((a.put oi.dst v).put oj.dst u) w''
          | .panicked c, w'' => Q (.panic c) (a.put oi.dst v) w''
          | .outgrown, _ => LetsOut Q) → (match e, w'' with
          | .returned u, w'' => GivesF F P ops S oi v (a.put oj.dst u) ∧ K ((a.put oj.dst u).put oi.dst v) w''
          | .panicked c, w'' => Q (.panic c) a w''
          | .outgrown, _ => LetsOut Q) := fun e w'' he => by
      cases e with
      | returned u => exact ⟨keep a hy u, by rw [← back u]; exact he⟩
      | panicked c => exact hQ _ _ _ he
      | outgrown => exact he
    match r, h with
    | .ok (.value u) w', h => exact ⟨keep a hy u, by rw [← back u]; exact h⟩
    | .ok .skip w', h => exact ⟨keep a hy undef, by rw [← back undef]; exact h⟩
    | .ok (.defer d) w', h => exact ⟨keep _ (keepD d) undef, by rw [← Act.put_comm _ v undef h2, ← Act.put_defers]; exact h⟩
    | .ok (.enter f args) w', h => exact ⟨h.1, h.2.mono ret⟩
    | .ok (.row row args) w', h => exact ⟨h.1, h.2.mono fun u w'' he => ⟨keep a hy u, by rw [← back u]; exact he⟩⟩
    | .ok (.round l f tmps assign body) w', h => exact ⟨h.1, h.2.mono ret⟩
    | .halt (.panic u) w', h => exact hQ _ _ _ h
  next hw =>
    rw [if_neg hw] at h
    exact ⟨h.1, keep a hy undef, by rw [← back undef]; exact h.2⟩

/-- Whatever order is picked from here on, and S holds behind every operation that is carried out, those of ds apart. -/
def AnyF (F : Fence) (n : Nat) (P : Program) (md : Region.Mode) (ops : Array Oper) (Q : Exit → Act → World → Prop) (S : World → Prop) (ds : List Nat) : Nat → Array Bool → Act → World → Prop
  | 0, listed, a, w => Region.ready md ops listed = [] ∧ Q .normal a w
  | k + 1, listed, a, w => (Region.ready md ops listed = [] → Q .normal a w) ∧
      ∀ i ∈ Region.ready md ops listed, wpOpIn F n P ops Q i (fun a' w' => (i ∉ ds → S w → S w') ∧ AnyF F n P md ops Q S ds k (listed.setIfInBounds i true) a' w') a w

theorem any_of_F : ∀ (k : Nat) (listed : Array Bool) (a : Act) (w : World), AnyF F n P md ops Q S ds k listed a w → wpAnyIn F n P md ops Q k listed a w
  | 0, _, _, _, h => h
  | k + 1, _, _, _, h => ⟨h.1, fun i hi => wpOpIn_mono (fun a' w' h' => any_of_F k _ a' w' h'.2) (h.2 i hi)⟩

/-- T: what the operation itself leans on: S, where each of ds waits for it; nothing, where it gives its value in any world. -/
theorem anyF_first {T : World → Prop} {i : Nat} {oi : Oper} {v : Value} (hn : calmO ops = true) (hi : ops[i]? = some oi) (hsel : ∀ (j : Nat) (o : Oper) cs b, ops[j]? = some o → o.op ≠ .select cs b)
    (hQ : ∀ c a w, Q (.panic c) (a.put oi.dst v) w → Q (.panic c) a w) (m : Nat) (hT : (∀ w, T w) ∨ (T = S)) : ∀ (k : Nat) (listed : Array Bool) (a : Act) (w : World),
      (∀ j oj, ops[j]? = some oj → j ≠ i → listed.getD j true = false → (∀ e ∈ oj.after, Region.binds md e = true → e.on ≠ i) → oi.apart ops oj = true) →
      ListedClosed md ops listed → ((∀ w, T w) ∨ ∀ d ∈ ds, listed.getD d true = false → Region.reachB md ops i m d = true) →
      i ∈ Region.ready md ops listed → GivesF F P ops T oi v a → T w → AnyF F n P md ops Q S ds k (listed.setIfInBounds i true) (a.put oi.dst v) w → AnyF F n P md ops Q S ds (k + 1) listed a w := by
  intro k
  induction k with
  | zero =>
    intro listed a w _ _ _ hr hy hS H
    refine ⟨fun h => (by rw [h] at hr; cases hr), fun j hj => ?_⟩
    rcases Decidable.em (j = i) with rfl | hji
    · exact hy.step hn hi hS ⟨fun _ h => h, H⟩
    · exact absurd (ready_mono hj hji) (by rw [H.1]; simp)
  | succ k ih =>
    intro listed a w hfree hc hd hr hy hS H
    refine ⟨fun h => (by rw [h] at hr; cases hr), fun j hj => ?_⟩
    rcases Decidable.em (j = i) with rfl | hji
    · exact hy.step hn hi hS ⟨fun _ h => h, H⟩
    obtain ⟨hjun, oj, hoj, hall⟩ := mem_ready.1 hj
    have hiun := (mem_ready.1 hr).1
    have hnot : ∀ e ∈ oj.after, Region.binds md e = true → e.on ≠ i := fun e he hb heq => by
      have h1 := hall e he hb
      rw [heq] at h1
      rcases Nat.lt_or_ge i listed.size with h' | h'
      · simp [h'] at hiun h1; rw [hiun] at h1; cases h1
      · simp [Array.getElem?_eq_none h'] at h1
    have hSj : ∀ w', (j ∉ ds → S w → S w') → T w' := fun w' h => by
      rcases hT with hT | rfl
      · exact hT w'
      · rcases hd with hd | hd
        · exact hd w'
        · exact h (fun hm => Region.reach_not_ready hc (hd j hm hjun) hiun hj) hS
    refine wpOpIn_mono (fun a' w' h3 => ⟨h3.2.1, ih (listed.setIfInBounds j true) a' w' (fun m om hom hmi hun hno => ?_) (hc.set hj) (hd.imp id fun hd d hm hun => ?_) (ready_mono hr (Ne.symm hji)) h3.1 (hSj w' h3.2.1) ?_⟩)
      (givesF_put hn hoj (hfree j oj hoj hji hjun hnot) (fun cs b => hsel i oi cs b hi) (fun cs b => hsel j oj cs b hoj) hQ hy (H.2 j (ready_mono hj hji)))
    · refine hfree m om hom hmi ?_ hno
      rcases Decidable.em (j = m) with rfl | hjm
      · exact hjun
      · rwa [getD_set_ne true hjm] at hun
    · refine hd d hm ?_
      rcases Decidable.em (j = d) with rfl | hjd
      · exact hjun
      · rwa [getD_set_ne true hjd] at hun
    · rw [Array.setIfInBounds_comm _ _ hji]
      exact h3.2.2

/-- Operation i is taken first; each of ds waits for it. -/
theorem takeF (i : Nat) (N : Option Tmp) {oi : Oper} {v : Value} {k : Nat} {listed : Array Bool} {a : Act} {w : World} (listed' : Array Bool) (a' : Act) (hi : ops[i]? = some oi) (hN : oi.dst = N)
    (hc : (calmO ops && Region.noSelect ops && Region.free md ops listed i && (Region.ready md ops listed).contains i && (listed.setIfInBounds i true == listed') && Region.closedB md ops listed && Region.lastB md ops listed ds i) = true)
    (hQ : ∀ c a w, Q (.panic c) (a.put oi.dst v) w → Q (.panic c) a w) (hy : GivesF F P ops S oi v a) (ha : a.put N v = a') (hS : S w)
    (h : AnyF F n P md ops Q S ds k listed' a' w) : AnyF F n P md ops Q S ds (k + 1) listed a w := by
  simp only [Bool.and_eq_true] at hc
  obtain ⟨⟨⟨⟨⟨⟨h1, h2⟩, h3⟩, h4⟩, h5⟩, h6⟩, h7⟩ := hc
  subst ha
  subst hN
  rw [← eq_of_beq h5] at h
  exact anyF_first h1 hi (Region.noSelect_spec h2) hQ ops.size (.inr rfl) k listed a w (Region.free_spec hi h3) (Region.closedB_spec h6)
    (.inr fun d hm hun => by have := List.all_eq_true.1 h7 d hm; rw [hun] at this; simpa using this) (by simpa using h4) hy hS h
/-- Operation i is taken first; it gives its value in any world. -/
theorem pureF (i : Nat) (N : Option Tmp) {oi : Oper} {v : Value} {k : Nat} {listed : Array Bool} {a : Act} {w : World} (listed' : Array Bool) (a' : Act) (hi : ops[i]? = some oi) (hN : oi.dst = N)
    (hc : (calmO ops && Region.noSelect ops && Region.free md ops listed i && (Region.ready md ops listed).contains i && (listed.setIfInBounds i true == listed') && Region.closedB md ops listed) = true)
    (hQ : ∀ c a w, Q (.panic c) (a.put oi.dst v) w → Q (.panic c) a w) (hy : GivesF F P ops (fun _ => True) oi v a) (ha : a.put N v = a')
    (h : AnyF F n P md ops Q S ds k listed' a' w) : AnyF F n P md ops Q S ds (k + 1) listed a w := by
  simp only [Bool.and_eq_true] at hc
  obtain ⟨⟨⟨⟨⟨h1, h2⟩, h3⟩, h4⟩, h5⟩, h6⟩ := hc
  subst ha
  subst hN
  rw [← eq_of_beq h5] at h
  exact anyF_first (T := fun _ => True) h1 hi (Region.noSelect_spec h2) hQ ops.size (.inl fun _ => trivial) k listed a w (Region.free_spec hi h3) (Region.closedB_spec h6) (.inl fun _ => trivial) (by simpa using h4) hy trivial h
/-- One operation alone may come up, and is carried out; S is shown anew. -/
theorem oneF (i : Nat) {o : Oper} {k : Nat} {listed : Array Bool} {a : Act} {w : World} (listed' : Array Bool) (ho : ops[i]? = some o) (hc : (Region.ready md ops listed == [i] && (listed.setIfInBounds i true == listed')) = true)
    (hw : Region.wanted o (yielded ops a.tmps) = true)
    (h : ∀ K : Act → World → Prop, (∀ a' w', S w' → (S w' → AnyF F n P md ops Q S ds k listed' a' w') → K a' w') → Oper.wpIn F n P o a w K Q) : AnyF F n P md ops Q S ds (k + 1) listed a w := by
  rw [Bool.and_eq_true] at hc
  have hr := eq_of_beq hc.1
  refine ⟨fun h0 => (by rw [hr] at h0; cases h0), fun j hj => ?_⟩
  rw [hr, List.mem_singleton] at hj
  subst hj
  unfold wpOpIn
  rw [ho]
  simp only [hw, if_true]
  exact h _ fun a' w' hS hA => ⟨fun _ _ => hS, by rw [eq_of_beq hc.2]; exact hA hS⟩
/-- One operation alone may come up, and is carried out; it is one of ds: nothing is asked of S. -/
theorem lastF (i : Nat) {o : Oper} {k : Nat} {listed : Array Bool} {a : Act} {w : World} (listed' : Array Bool) (ho : ops[i]? = some o) (hc : (Region.ready md ops listed == [i] && (listed.setIfInBounds i true == listed') && ds.contains i) = true)
    (hw : Region.wanted o (yielded ops a.tmps) = true)
    (h : ∀ K : Act → World → Prop, (∀ a' w', AnyF F n P md ops Q S ds k listed' a' w' → K a' w') → Oper.wpIn F n P o a w K Q) : AnyF F n P md ops Q S ds (k + 1) listed a w := by
  simp only [Bool.and_eq_true] at hc
  have hr := eq_of_beq hc.1.1
  refine ⟨fun h0 => (by rw [hr] at h0; cases h0), fun j hj => ?_⟩
  rw [hr, List.mem_singleton] at hj
  subst hj
  unfold wpOpIn
  rw [ho]
  simp only [hw, if_true]
  exact h _ fun a' w' hA => ⟨fun hm => absurd (by simpa using hc.2) hm, by rw [eq_of_beq hc.1.2]; exact hA⟩
/-- All have come up. -/
theorem doneF {k : Nat} {listed : Array Bool} {a : Act} {w : World} (hr : (Region.ready md ops listed == []) = true) (h : Q .normal a w) : AnyF F n P md ops Q S ds k listed a w := by
  have hr := eq_of_beq hr
  cases k with
  | zero => exact ⟨hr, h⟩
  | succ k => exact ⟨fun _ => h, by rw [hr]; simp⟩
/-- Where such a region begins: its order has been drawn. -/
theorem startF (S : World → Prop) (ds : List Nat) {id : Nat} {a : Act} {w : World} (listed : Array Bool) (k : Nat) (hm : P.follows .mixedOrders = true) (hl : (Array.replicate ops.size false == listed && ops.size == k) = true) (hS : S w.drew)
    (h : S w.drew → AnyF F n P .any ops Q S ds k listed a w.drew) : (Code.region id ops true).wpIn F n P Q a w := by
  rw [Bool.and_eq_true] at hl
  refine wpIn_region_any hm ?_
  rw [eq_of_beq hl.1, eq_of_beq hl.2]
  exact any_of_F _ _ _ _ (h hS)
end Go.Proofs.Ytcgbfkplhlngjaa.PA
