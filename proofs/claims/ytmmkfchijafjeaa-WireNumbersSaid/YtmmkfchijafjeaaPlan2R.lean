/- XPlan's law inside a fence. XPlan2's law inside a fence. Plan2In's law in a round of a loop over a function. -/
import Derived.Test.YtmmkfchijafjeaaPlan2
import Derived.OrdersIn
import Derived.TacticsIn
namespace Go.Proofs.Ytmmkfchijafjeaa
section
open Go

section
variable {F : Fence} {fn : Nat} {P : Program} {ops : Array Oper} {Q : Exit → Act → World → Prop} {md : Region.Mode} {S : World → Prop} {n : Nat}

/-- In every world that meets S it yields, and it calls nothing. -/
def YieldsIfF (P : Program) (ops : Array Oper) (S : World → Prop) (o : Oper) (v : Value) (a : Act) : Prop := YieldsIf P ops S o v a ∧ ∀ w, o.about P w a.eval = none

theorem YieldsIfF.wpOpIn {i : Nat} {o : Oper} {v : Value} {a : Act} (hro : F.round = none) (hi : ops[i]? = some o) (hy : YieldsIfF P ops S o v a)
    {K : Act → World → Prop} {w : World} (hS : S w) (h : K (a.put o.dst v) w) : wpOpIn F fn P ops Q i K a w := by
  unfold Go.wpOpIn
  simp only [hi]
  have hab : ∀ f, o.about P w a.eval = some f → F.fn f := fun f hf => by rw [hy.2 w] at hf; cases hf
  rcases hy.1 with ⟨hw, hv⟩ | ⟨hw, rfl⟩
  · simp only [hw, if_true, Oper.wpIn, hro, Oper.semAt_none, hv w hS, Oper.uponIn]; exact ⟨hab, h⟩
  · simp only [hw, Bool.false_eq_true, if_false]; exact ⟨hab, h⟩

theorem YieldsIfF.of_same {o : Oper} {v : Value} {a a' : Act} (hy : YieldsIfF P ops S o v a) (he : execOp a'.eval o = execOp a.eval o)
    (hw : Region.wanted o (yielded ops a'.tmps) = Region.wanted o (yielded ops a.tmps)) (hb : ∀ w, o.about P w a'.eval = o.about P w a.eval) : YieldsIfF P ops S o v a' :=
  ⟨hy.1.of_same he hw, fun w => by rw [hb w]; exact hy.2 w⟩

theorem wpOpIn_putIf {j : Nat} {oi oj : Oper} {v : Value} (hro : F.round = none) (hj : ops[j]? = some oj) (hap : oi.apart ops oj = true)
    (hsi : ∀ cs b, oi.op ≠ .select cs b) (hsj : ∀ cs b, oj.op ≠ .select cs b)
    (hQ : ∀ c a w, Q (.panic c) (a.put oi.dst v) w → Q (.panic c) a w) {K : Act → World → Prop} {a : Act} {w : World}
    (hy : YieldsIfF P ops S oi v a) (h : wpOpIn F fn P ops Q j K (a.put oi.dst v) w) :
    wpOpIn F fn P ops Q j (fun a' w' => YieldsIfF P ops S oi v a' ∧ K (a'.put oi.dst v) w') a w := by
  obtain ⟨h1, h2, h3⟩ := Oper.apart_spec hap
  have keep : ∀ (a : Act), YieldsIfF P ops S oi v a → ∀ u, YieldsIfF P ops S oi v (a.put oj.dst u) := fun a hy u =>
    hy.of_same (execOp_put oi hsi a oj.dst u h3) (wanted_put oi a oj.dst u h3) (fun w => about_put oi w a oj.dst u h3)
  have keepD : ∀ d, YieldsIfF P ops S oi v { a with defers := d :: a.defers } := fun d => hy.of_same rfl rfl (fun _ => rfl)
  unfold wpOpIn at *
  simp only [hj] at *
  rw [wanted_put oj a oi.dst v h1, about_put oj w a oi.dst v h1] at h
  split
  · rename_i hw
    simp only [hw, if_true] at h
    unfold Oper.wpIn at *
    rw [about_put oj w a oi.dst v h1] at h
    refine ⟨h.1, ?_⟩
    have h := h.2
    rw [hro, Oper.semAt_none, execOp_put oj hsj a oi.dst v h1] at h
    rw [hro, Oper.semAt_none]
    generalize (execOp a.eval oj).run P w = r at *
    cases r with
    | ok x w' =>
      cases x <;> simp only [Oper.uponIn] at h ⊢
      case value u => exact ⟨keep a hy u, by rw [← Act.put_comm a v u h2]; exact h⟩
      case skip => exact ⟨keep a hy _, by rw [← Act.put_comm a v undef h2]; exact h⟩
      case defer d =>
        refine ⟨keep _ (keepD d) _, ?_⟩
        rw [← Act.put_comm _ v undef h2, ← Act.put_defers]
        exact h
      case enter f args =>
        refine ⟨h.1, CallsIn.mono h.2 fun e w'' he => ?_⟩
        cases e with
        | returned u => exact ⟨keep a hy u, by rw [← Act.put_comm a v u h2]; exact he⟩
        | panicked c => exact hQ _ _ _ he
        | outgrown => exact he
      case row row args => exact ⟨h.1, RowsIn.mono h.2 fun u w'' he => ⟨keep a hy u, by rw [← Act.put_comm a v u h2]; exact he⟩⟩
      case round l f tmps assign body =>
        refine ⟨h.1, RoundIn.mono h.2 fun e w'' he => ?_⟩
        cases e with
        | returned u => exact ⟨keep a hy u, by rw [← Act.put_comm a v u h2]; exact he⟩
        | panicked c => exact hQ _ _ _ he
        | outgrown => exact he
    | halt x w' =>
      cases x <;> simp only [Oper.uponIn] at h ⊢
      case panic u => exact hQ _ _ _ h
  · rename_i hw
    simp only [hw] at h
    exact ⟨h.1, keep a hy _, by rw [← Act.put_comm a v undef h2]; exact h.2⟩

/-- Whatever order is picked from here on; S holds behind each operation but the last. -/
def wpAnyTIn (F : Fence) (fn : Nat) (P : Program) (md : Region.Mode) (ops : Array Oper) (Q : Exit → Act → World → Prop) (S : World → Prop) (n : Nat) : Nat → Array Bool → Act → World → Prop
  | 0, listed, a, w => Region.ready md ops listed = [] ∧ Q .normal a w
  | fuel + 1, listed, a, w => (Region.ready md ops listed = [] → Q .normal a w) ∧ ∀ i ∈ Region.ready md ops listed, wpOpIn F fn P ops Q i (fun a' w' => (i < n → S w') ∧ wpAnyTIn F fn P md ops Q S n fuel (listed.setIfInBounds i true) a' w') a w

theorem wpAnyIn_of_T : ∀ (fuel : Nat) (listed : Array Bool) (a : Act) (w : World), wpAnyTIn F fn P md ops Q S n fuel listed a w → wpAnyIn F fn P md ops Q fuel listed a w
  | 0, _, _, _, h => h
  | fuel + 1, _, _, _, h => ⟨h.1, fun i hi => wpOpIn_mono (fun a' w' h' => wpAnyIn_of_T fuel _ a' w' h'.2) (h.2 i hi)⟩

theorem wpAnyTIn_first (hro : F.round = none) (hs : Region.sinkB md ops n = true) (hc : Region.chainB md ops n = true) (hn : n < ops.size) {i : Nat} {oi : Oper} {v : Value} (hin : i < n) (hi : ops[i]? = some oi) (hsel : ∀ (j : Nat) (o : Oper) cs b, ops[j]? = some o → o.op ≠ .select cs b)
    (hQ : ∀ c a w, Q (.panic c) (a.put oi.dst v) w → Q (.panic c) a w) :
    ∀ (fuel : Nat) (listed : Array Bool) (a : Act) (w : World), HeadInv md ops n listed →
      (∀ j oj, ops[j]? = some oj → j ≠ i → listed.getD j true = false → (∀ e ∈ oj.after, Region.binds md e = true → e.on ≠ i) → oi.apart ops oj = true) →
      i ∈ Region.ready md ops listed → YieldsIfF P ops S oi v a → S w →
      wpAnyTIn F fn P md ops Q S n fuel (listed.setIfInBounds i true) (a.put oi.dst v) w → wpAnyTIn F fn P md ops Q S n (fuel + 1) listed a w := by
  intro fuel
  induction fuel with
  | zero =>
    intro listed a w inv _ hr hy hS H
    refine ⟨fun h => (by rw [h] at hr; cases hr), fun j hj => ?_⟩
    by_cases hji : j = i
    · subst hji; exact hy.wpOpIn hro hi hS ⟨fun _ => hS, H⟩
    · have := ready_mono hj hji
      rw [H.1] at this
      cases this
  | succ fuel ih =>
    intro listed a w inv hfree hr hy hS H
    refine ⟨fun h => (by rw [h] at hr; cases hr), fun j hj => ?_⟩
    by_cases hji : j = i
    · subst hji; exact hy.wpOpIn hro hi hS ⟨fun _ => hS, H⟩
    · have hun := (mem_ready.1 hr).1
      have hjn : j < n := by
        rcases Nat.lt_or_ge j n with h | h
        · exact h
        · exact absurd hj (tail_waits hs hc hn inv _ i rfl hin hun j h)
      have h1 := H.2 j (ready_mono hj hji)
      obtain ⟨hjun, oj, hoj, hall⟩ := mem_ready.1 hj
      have hnot : ∀ e ∈ oj.after, Region.binds md e = true → e.on ≠ i := fun e he hb heq => by
        have h1 := hall e he hb
        rw [heq, getD_both hun] at h1
        cases h1
      have h2 := wpOpIn_putIf hro hoj (hfree j oj hoj hji hjun hnot) (fun cs b => hsel i oi cs b hi) (fun cs b => hsel j oj cs b hoj) hQ hy h1
      have hfree' : ∀ k ok, ops[k]? = some ok → k ≠ i → (listed.setIfInBounds j true).getD k true = false →
          (∀ e ∈ ok.after, Region.binds md e = true → e.on ≠ i) → oi.apart ops ok = true := fun k ok hk hki hun hno => by
        refine hfree k ok hk hki ?_ hno
        by_cases hjk : j = k
        · subst hjk; exact hjun
        · rw [getD_set_ne true hjk] at hun; exact hun
      refine wpOpIn_mono (fun a' w' h3 => ⟨fun _ => h3.2.1 hjn, ih (listed.setIfInBounds j true) a' w' (inv.set hj hjn) hfree' (ready_mono hr (Ne.symm hji)) h3.1 (h3.2.1 hjn) ?_⟩) h2
      rw [Array.setIfInBounds_comm _ _ hji]
      exact h3.2.2

end

section
variable {F : Fence} {fn : Nat} {P : Program} {l : List Oper} {Q : Exit → Act → World → Prop} {md : Region.Mode} {S : World → Prop} {n : Nat}

/-- Reads, one behind the other, each in whatever world that meets S. -/
def wpReadIn (P : Program) (l : List Oper) (S : World → Prop) (K : Act → Prop) : List Nat → Act → Prop
  | [], a => K a
  | i :: rest, a => ∃ o v, l[i]? = some o ∧ YieldsIfF P l.toArray S o v a ∧ wpReadIn P l S K rest (a.put o.dst v)
theorem wpReadIn_nil {K : Act → Prop} {a : Act} (h : K a) : wpReadIn P l S K [] a := h
theorem wpReadIn_step {K : Act → Prop} {a : Act} {i : Nat} {rest : List Nat} {o : Oper} {v : Value} (ho : l[i]? = some o) (hab : ∀ w, o.about P w a.eval = none) (hw : Region.wanted o (yielded l.toArray a.tmps) = true) (hv : ∀ w, S w → (execOp a.eval o).run P w = .ok (.value v) w)
    (h : wpReadIn P l S K rest (a.put o.dst v)) : wpReadIn P l S K (i :: rest) a := ⟨o, v, ho, ⟨.inl ⟨hw, hv⟩, hab⟩, h⟩
theorem wpReadIn_skip {K : Act → Prop} {a : Act} {i : Nat} {rest : List Nat} {o : Oper} (ho : l[i]? = some o) (hab : ∀ w, o.about P w a.eval = none) (hw : Region.wanted o (yielded l.toArray a.tmps) = false)
    (h : wpReadIn P l S K rest (a.put o.dst undef)) : wpReadIn P l S K (i :: rest) a := ⟨o, undef, ho, ⟨.inr ⟨hw, rfl⟩, hab⟩, h⟩

/-- A plan: reads, then one operation that may turn the world; and so on. -/
def wpPlanIn (F : Fence) (fn : Nat) (P : Program) (l : List Oper) (Q : Exit → Act → World → Prop) (S : World → Prop) : List (List Nat × Nat) → Act → World → Prop
  | [], a, w => Q .normal a w
  | (qs, i) :: rest, a, w => S w ∧ wpReadIn P l S (fun a' => wpOpIn F fn P l.toArray Q i (wpPlanIn F fn P l Q S rest) a' w) qs a
theorem wpPlanIn_seg {qs : List Nat} {i : Nat} {rest : List (List Nat × Nat)} {a : Act} {w : World} (hS : S w) (h : wpReadIn P l S (fun a' => wpOpIn F fn P l.toArray Q i (wpPlanIn F fn P l Q S rest) a' w) qs a) : wpPlanIn F fn P l Q S ((qs, i) :: rest) a w := ⟨hS, h⟩
theorem wpPlanIn_nil {a : Act} {w : World} (h : Q .normal a w) : wpPlanIn F fn P l Q S [] a w := h

theorem wpAnyTIn_reads (hro : F.round = none) (hs : Region.sinkB md l.toArray n = true) (hc : Region.chainB md l.toArray n = true) (hn : n < l.toArray.size) (hsel : Region.noSelect l.toArray = true) (hQ : ∀ c a a' w, Q (.panic c) a w → Q (.panic c) a' w) (K : Act → Prop) (fuel : Nat) (w : World) (hS : S w) (L : Array Bool)
    (hK : ∀ a, HeadInv md l.toArray n L → K a → wpAnyTIn F fn P md l.toArray Q S n fuel L a w) :
    ∀ (qs : List Nat) (listed : Array Bool) (a : Act), HeadInv md l.toArray n listed → setAll qs listed = L → readsB md l.toArray n qs listed = true → wpReadIn P l S K qs a → wpAnyTIn F fn P md l.toArray Q S n (qs.length + fuel) listed a w
  | [], listed, a, inv, he, _, h => by
    have he' : listed = L := he
    subst he'
    rw [show [].length + fuel = fuel from Nat.zero_add _]
    exact hK a inv h
  | i :: qs, listed, a, inv, he, hB, h => by
    simp only [readsB, Bool.and_eq_true, decide_eq_true_eq] at hB
    obtain ⟨⟨⟨hin, hr⟩, hf⟩, hB'⟩ := hB
    obtain ⟨o, v, ho, hy, hrest⟩ := h
    have hoi : l.toArray[i]? = some o := by simpa using ho
    have hr' : i ∈ Region.ready md l.toArray listed := by simpa using hr
    have ih := wpAnyTIn_reads hro hs hc hn hsel hQ K fuel w hS L hK qs (listed.setIfInBounds i true) (a.put o.dst v) (inv.set hr' hin) he hB' hrest
    have := wpAnyTIn_first (F := F) (fn := fn) (P := P) (S := S) hro hs hc hn hin hoi (Region.noSelect_spec hsel) (fun c a w h => hQ c _ _ w h) (qs.length + fuel) listed a w inv (Region.free_spec hoi hf) hr' hy hS ih
    rw [show (i :: qs).length + fuel = qs.length + fuel + 1 by simp only [List.length_cons]; omega]
    exact this

theorem wpAnyTIn_plan (hro : F.round = none) (hs : Region.sinkB md l.toArray n = true) (hc : Region.chainB md l.toArray n = true) (hn : n < l.toArray.size) (hsel : Region.noSelect l.toArray = true) (hQ : ∀ c a a' w, Q (.panic c) a w → Q (.panic c) a' w) :
    ∀ (plan : List (List Nat × Nat)) (listed : Array Bool) (a : Act) (w : World), (plan ≠ [] → HeadInv md l.toArray n listed) → planB md l.toArray n plan listed = true → wpPlanIn F fn P l Q S plan a w → wpAnyTIn F fn P md l.toArray Q S n (planLen plan) listed a w
  | [], listed, a, w, _, hB, h => ⟨by simpa [planB] using hB, h⟩
  | (qs, i) :: rest, listed, a, w, inv, hB, h => by
    simp only [planB, Bool.and_eq_true, decide_eq_true_eq] at hB
    obtain ⟨⟨⟨hB1, hB2⟩, hB3⟩, hB4⟩ := hB
    obtain ⟨hS, hread⟩ := h
    rw [show planLen ((qs, i) :: rest) = qs.length + (planLen rest + 1) by simp only [planLen]; omega]
    refine wpAnyTIn_reads hro hs hc hn hsel hQ _ (planLen rest + 1) w hS (setAll qs listed) ?_ qs listed a (inv (by simp)) rfl hB1 hread
    intro a' inv' hop
    refine ⟨fun h0 => (by rw [hB2] at h0; cases h0), fun j hj => ?_⟩
    rw [hB2] at hj
    obtain rfl : j = i := by simpa using hj
    refine wpOpIn_mono (fun a'' w'' hp => ⟨fun hjn => ?_, ?_⟩) hop
    · cases rest with
      | nil =>
        exfalso
        have : j = n := by simpa using hB3
        omega
      | cons r rest' => exact hp.1
    · exact wpAnyTIn_plan hro hs hc hn hsel hQ rest _ a'' w'' (fun hne => by
        have hj' : j ∈ Region.ready md l.toArray (setAll qs listed) := by rw [hB2]; simp
        cases rest with
        | nil => exact absurd rfl hne
        | cons r rest' => exact inv'.set hj' (by simpa using hB3)) hB4 hp

/-- **A region that draws its order, by a plan, inside a fence.** -/
theorem wpIn_region_plan {id : Nat} {a : Act} {w : World} (S : World → Prop) (n : Nat) (plan : List (List Nat × Nat)) (hro : F.round = none) (hm : P.follows .mixedOrders = true) (hB : planAll l n plan = true)
    (h : wpPlanIn F fn P l (NoPanic Q) S plan a w.drew) : (Code.region id l.toArray true).wpIn F fn P Q a w := by
  simp only [planAll, Bool.and_eq_true, decide_eq_true_eq] at hB
  obtain ⟨⟨⟨⟨⟨hsel, hn⟩, hs⟩, hc⟩, hp⟩, hlen⟩ := hB
  refine Code.wpIn_mono NoPanic.imp (wpIn_region_any hm (wpAnyIn_of_T (S := S) (n := n) _ _ _ _ ?_))
  have inv0 : HeadInv .any l.toArray n (Array.replicate l.toArray.size false) :=
    ⟨by simp, fun j oj _ hl => (by rw [getD_replicate_false] at hl; cases hl), fun t _ ht => getD_in (by simpa using ht) (getD_replicate_false _ _)⟩
  have := wpAnyTIn_plan (F := F) (fn := fn) (P := P) (Q := NoPanic Q) (S := S) (md := .any) hro hs hc hn hsel (fun c a a' w h => h) plan (Array.replicate l.toArray.size false) a w.drew (fun _ => inv0) hp h
  rw [hlen] at this
  exact this

/-- One operation that may turn the world. -/
theorem wpOpIn_list {i : Nat} {o : Oper} {K : Act → World → Prop} {a : Act} {w : World} (ho : l[i]? = some o)
    (h : ∀ K' : Act → World → Prop, (∀ a w, K a w → K' a w) → if Region.wanted o (yielded l.toArray a.tmps) = true then Oper.wpIn F fn P o a w K' Q else (∀ f, o.about P w a.eval = some f → F.fn f) ∧ K' (a.put o.dst undef) w) : wpOpIn F fn P l.toArray Q i K a w :=
  wpOpIn_step (by simpa using ho) h
end
end

section
open Go

section
variable {F : Fence} {fn : Nat} {P : Program} {ops : Array Oper} {Q : Exit → Act → World → Prop} {md : Region.Mode} {S : World → Prop} {R : List Nat}

/-- Whatever order is picked from here on. -/
def wpAnyDIn (F : Fence) (fn : Nat) (P : Program) (md : Region.Mode) (ops : Array Oper) (Q : Exit → Act → World → Prop) (S : World → Prop) (R : List Nat) : Nat → Array Bool → Act → World → Prop
  | 0, listed, a, w => Region.ready md ops listed = [] ∧ Q .normal a w
  | fuel + 1, listed, a, w => (Region.ready md ops listed = [] → Q .normal a w) ∧ ∀ i ∈ Region.ready md ops listed, wpOpIn F fn P ops Q i (fun a' w' => ((R.contains i = true → w' = w) ∧ (R.contains i = false → demand md ops R i = true → S w')) ∧ wpAnyDIn F fn P md ops Q S R fuel (listed.setIfInBounds i true) a' w') a w

theorem wpAnyIn_of_D : ∀ (fuel : Nat) (listed : Array Bool) (a : Act) (w : World), wpAnyDIn F fn P md ops Q S R fuel listed a w → wpAnyIn F fn P md ops Q fuel listed a w
  | 0, _, _, _, h => h
  | fuel + 1, _, _, _, h => ⟨h.1, fun i hi => wpOpIn_mono (fun a' w' h' => wpAnyIn_of_D fuel _ a' w' h'.2) (h.2 i hi)⟩

theorem wpAnyDIn_first (hro : F.round = none) {i : Nat} {oi : Oper} {v : Value} (hiR : i ∈ R) (hi : ops[i]? = some oi) (hsel : ∀ (j : Nat) (o : Oper) cs b, ops[j]? = some o → o.op ≠ .select cs b)
    (hQ : ∀ c a w, Q (.panic c) (a.put oi.dst v) w → Q (.panic c) a w) :
    ∀ (fuel : Nat) (listed : Array Bool) (a : Act) (w : World), Closed md ops listed →
      (∀ j oj, ops[j]? = some oj → j ≠ i → listed.getD j true = false → (∀ e ∈ oj.after, Region.binds md e = true → e.on ≠ i) → oi.apart ops oj = true) →
      i ∈ Region.ready md ops listed → YieldsIfF P ops (fun w => needS oi = true → S w) oi v a → (needS oi = true → S w) →
      wpAnyDIn F fn P md ops Q S R fuel (listed.setIfInBounds i true) (a.put oi.dst v) w → wpAnyDIn F fn P md ops Q S R (fuel + 1) listed a w := by
  have hiR' : R.contains i = true := by simpa using hiR
  intro fuel
  induction fuel with
  | zero =>
    intro listed a w inv _ hr hy hS H
    refine ⟨fun h => (by rw [h] at hr; cases hr), fun j hj => ?_⟩
    by_cases hji : j = i
    · subst hji; exact hy.wpOpIn hro hi hS ⟨⟨fun _ => rfl, fun h => by rw [hiR'] at h; cases h⟩, H⟩
    · have := ready_mono hj hji
      rw [H.1] at this
      cases this
  | succ fuel ih =>
    intro listed a w inv hfree hr hy hS H
    refine ⟨fun h => (by rw [h] at hr; cases hr), fun j hj => ?_⟩
    by_cases hji : j = i
    · subst hji; exact hy.wpOpIn hro hi hS ⟨⟨fun _ => rfl, fun h => by rw [hiR'] at h; cases h⟩, H⟩
    · have hun := (mem_ready.1 hr).1
      have h1 := H.2 j (ready_mono hj hji)
      obtain ⟨hjun, oj, hoj, hall⟩ := mem_ready.1 hj
      have hnot : ∀ e ∈ oj.after, Region.binds md e = true → e.on ≠ i := fun e he hb heq => by
        have h1 := hall e he hb
        rw [heq, getD_both hun] at h1
        cases h1
      have hd : needS oi = true → demand md ops R j = true := fun hn => by
        unfold demand
        rw [List.any_eq_true]
        refine ⟨i, hiR, ?_⟩
        rw [waitsT_no inv hun ops.size j (fun o ho e he hb => by
          have : o = oj := Option.some.inj (ho.symm.trans hoj)
          subst this
          exact hall e he hb), hi]
        simp [Ne.symm hji, hn]
      have h2 := wpOpIn_putIf hro hoj (hfree j oj hoj hji hjun hnot) (fun cs b => hsel i oi cs b hi) (fun cs b => hsel j oj cs b hoj) hQ hy h1
      have hfree' : ∀ k ok, ops[k]? = some ok → k ≠ i → (listed.setIfInBounds j true).getD k true = false →
          (∀ e ∈ ok.after, Region.binds md e = true → e.on ≠ i) → oi.apart ops ok = true := fun k ok hk hki hun hno => by
        refine hfree k ok hk hki ?_ hno
        by_cases hjk : j = k
        · subst hjk; exact hjun
        · rw [getD_set_ne true hjk] at hun; exact hun
      refine wpOpIn_mono (fun a' w' h3 => ⟨h3.2.1, ih (listed.setIfInBounds j true) a' w' (inv.set hj) hfree' (ready_mono hr (Ne.symm hji)) h3.1 (fun hn => ?_) ?_⟩) h2
      · cases hjR : R.contains j
        · exact h3.2.1.2 hjR (hd hn)
        · rw [h3.2.1.1 hjR]
          exact hS hn
      · rw [Array.setIfInBounds_comm _ _ hji]
        exact h3.2.2

end

section
variable {F : Fence} {fn : Nat} {P : Program} {l : List Oper} {Q : Exit → Act → World → Prop} {md : Region.Mode} {S : World → Prop} {R : List Nat}

/-- Reads, one behind the other; those that look at memory in whatever world that meets S. -/
def wpReadDIn (P : Program) (l : List Oper) (S : World → Prop) (K : Act → Prop) : List Nat → Act → Prop
  | [], a => K a
  | i :: rest, a => ∃ o v, l[i]? = some o ∧ YieldsIfF P l.toArray (fun w => needS o = true → S w) o v a ∧ wpReadDIn P l S K rest (a.put o.dst v)
theorem wpReadDIn_nil {K : Act → Prop} {a : Act} (h : K a) : wpReadDIn P l S K [] a := h
theorem wpReadDIn_step {K : Act → Prop} {a : Act} {i : Nat} {rest : List Nat} {o : Oper} {v : Value} (ho : l[i]? = some o) (hab : ∀ w, o.about P w a.eval = none) (hw : Region.wanted o (yielded l.toArray a.tmps) = true) (hv : ∀ w, (needS o = true → S w) → (execOp a.eval o).run P w = .ok (.value v) w)
    (h : wpReadDIn P l S K rest (a.put o.dst v)) : wpReadDIn P l S K (i :: rest) a := ⟨o, v, ho, ⟨.inl ⟨hw, hv⟩, hab⟩, h⟩
theorem wpReadDIn_skip {K : Act → Prop} {a : Act} {i : Nat} {rest : List Nat} {o : Oper} (ho : l[i]? = some o) (hab : ∀ w, o.about P w a.eval = none) (hw : Region.wanted o (yielded l.toArray a.tmps) = false)
    (h : wpReadDIn P l S K rest (a.put o.dst undef)) : wpReadDIn P l S K (i :: rest) a := ⟨o, undef, ho, ⟨.inr ⟨hw, rfl⟩, hab⟩, h⟩

/-- A plan: reads, then one operation that may turn the world (does S have to hold behind it?); and so on. -/
def wpPlanDIn (F : Fence) (fn : Nat) (P : Program) (l : List Oper) (Q : Exit → Act → World → Prop) (S : World → Prop) : List (List Nat × Nat × Bool) → Act → World → Prop
  | [], a, w => Q .normal a w
  | (qs, i, d) :: rest, a, w => ((qs.any fun k => match l[k]? with | some o => needS o | none => false) = true → S w) ∧ wpReadDIn P l S (fun a' => wpOpIn F fn P l.toArray Q i (fun a'' w'' => (d = true → S w'') ∧ wpPlanDIn F fn P l Q S rest a'' w'') a' w) qs a
theorem wpPlanDIn_seg {qs : List Nat} {i : Nat} {d : Bool} {rest : List (List Nat × Nat × Bool)} {a : Act} {w : World} (hS : S w) (h : wpReadDIn P l S (fun a' => wpOpIn F fn P l.toArray Q i (fun a'' w'' => (d = true → S w'') ∧ wpPlanDIn F fn P l Q S rest a'' w'') a' w) qs a) : wpPlanDIn F fn P l Q S ((qs, i, d) :: rest) a w := ⟨fun _ => hS, h⟩
theorem wpPlanDIn_pure {qs : List Nat} {i : Nat} {d : Bool} {rest : List (List Nat × Nat × Bool)} {a : Act} {w : World} (hq : (qs.any fun k => match l[k]? with | some o => needS o | none => false) = false) (h : wpReadDIn P l S (fun a' => wpOpIn F fn P l.toArray Q i (fun a'' w'' => (d = true → S w'') ∧ wpPlanDIn F fn P l Q S rest a'' w'') a' w) qs a) : wpPlanDIn F fn P l Q S ((qs, i, d) :: rest) a w := ⟨fun hf => (by rw [hq] at hf; cases hf), h⟩
theorem wpPlanDIn_one {i : Nat} {d : Bool} {rest : List (List Nat × Nat × Bool)} {a : Act} {w : World} (h : wpOpIn F fn P l.toArray Q i (fun a'' w'' => (d = true → S w'') ∧ wpPlanDIn F fn P l Q S rest a'' w'') a w) : wpPlanDIn F fn P l Q S (([], i, d) :: rest) a w := ⟨fun hf => (by simp at hf), h⟩
theorem wpPlanDIn_nil {a : Act} {w : World} (h : Q .normal a w) : wpPlanDIn F fn P l Q S [] a w := h
theorem wpAnyDIn_reads (hro : F.round = none) (hsel : Region.noSelect l.toArray = true) (hQ : ∀ c a a' w, Q (.panic c) a w → Q (.panic c) a' w) (K : Act → Prop) (fuel : Nat) (w : World) (L : Array Bool)
    (hK : ∀ a, Closed md l.toArray L → K a → wpAnyDIn F fn P md l.toArray Q S R fuel L a w) :
    ∀ (qs : List Nat) (listed : Array Bool) (a : Act), (∀ k ∈ qs, k ∈ R) → ((qs.any fun k => match l[k]? with | some o => needS o | none => false) = true → S w) → Closed md l.toArray listed → setAll qs listed = L → readsD md l.toArray qs listed = true → wpReadDIn P l S K qs a → wpAnyDIn F fn P md l.toArray Q S R (qs.length + fuel) listed a w
  | [], listed, a, _, _, inv, he, _, h => by
    have he' : listed = L := he
    subst he'
    rw [show [].length + fuel = fuel from Nat.zero_add _]
    exact hK a inv h
  | i :: qs, listed, a, hR, hS, inv, he, hB, h => by
    simp only [readsD, Bool.and_eq_true] at hB
    obtain ⟨⟨hr, hf⟩, hB'⟩ := hB
    obtain ⟨o, v, ho, hy, hrest⟩ := h
    have hoi : l.toArray[i]? = some o := by simpa using ho
    have hr' : i ∈ Region.ready md l.toArray listed := by simpa using hr
    have hSw : needS o = true → S w := fun hn => hS (by simp [ho, hn])
    have ih := wpAnyDIn_reads hro hsel hQ K fuel w L hK qs (listed.setIfInBounds i true) (a.put o.dst v) (fun k hk => hR k (List.mem_cons_of_mem _ hk)) (fun hq => hS (by rw [List.any_cons, hq, Bool.or_true])) (inv.set hr') he hB' hrest
    have := wpAnyDIn_first (F := F) (fn := fn) (P := P) (S := S) (R := R) hro (hR i (by simp)) hoi (Region.noSelect_spec hsel) (fun c a w h => hQ c _ _ w h) (qs.length + fuel) listed a w inv (Region.free_spec hoi hf) hr' hy hSw ih
    rw [show (i :: qs).length + fuel = qs.length + fuel + 1 by simp only [List.length_cons]; omega]
    exact this

theorem wpAnyDIn_plan (hro : F.round = none) (hsel : Region.noSelect l.toArray = true) (hQ : ∀ c a a' w, Q (.panic c) a w → Q (.panic c) a' w) :
    ∀ (plan : List (List Nat × Nat × Bool)) (listed : Array Bool) (a : Act) (w : World), Closed md l.toArray listed → planD md l.toArray R plan listed = true → wpPlanDIn F fn P l Q S plan a w → wpAnyDIn F fn P md l.toArray Q S R (planDLen plan) listed a w
  | [], listed, a, w, _, hB, h => ⟨by simpa [planD] using hB, h⟩
  | (qs, i, d) :: rest, listed, a, w, inv, hB, h => by
    simp only [planD, Bool.and_eq_true, decide_eq_true_eq] at hB
    obtain ⟨⟨⟨⟨⟨hB1, hB2⟩, hB3⟩, hBn⟩, hBR⟩, hB4⟩ := hB
    obtain ⟨hS, hread⟩ := h
    rw [show planDLen ((qs, i, d) :: rest) = qs.length + (planDLen rest + 1) by simp only [planDLen]; omega]
    refine wpAnyDIn_reads hro hsel hQ _ (planDLen rest + 1) w (setAll qs listed) ?_ qs listed a (fun k hk => by simpa using List.all_eq_true.1 hBR k hk) hS inv rfl hB1 hread
    intro a' inv' hop
    refine ⟨fun h0 => (by rw [hB2] at h0; cases h0), fun j hj => ?_⟩
    have hj' := hj
    rw [hB2] at hj
    obtain rfl : j = i := by simpa using hj
    refine wpOpIn_mono (fun a'' w'' hp => ⟨⟨fun hc => (by rw [hc] at hBn; cases hBn), fun _ hdj => hp.1 (by simpa [hdj] using hB3)⟩, ?_⟩) hop
    exact wpAnyDIn_plan hro hsel hQ rest _ a'' w'' (inv'.set hj') hB4 hp.2

/-- **A region that draws its order, by a plan, inside a fence.** -/
theorem wpIn_region_planD {id : Nat} {a : Act} {w : World} (S : World → Prop) (plan : List (List Nat × Nat × Bool)) (hro : F.round = none) (hm : P.follows .mixedOrders = true) (hB : planDAll l plan = true)
    (h : wpPlanDIn F fn P l (NoPanic Q) S plan a w.drew) : (Code.region id l.toArray true).wpIn F fn P Q a w := by
  simp only [planDAll, Bool.and_eq_true, decide_eq_true_eq] at hB
  obtain ⟨⟨hsel, hp⟩, hlen⟩ := hB
  refine Code.wpIn_mono NoPanic.imp (wpIn_region_any hm (wpAnyIn_of_D (S := S) (R := planReads plan) _ _ _ _ ?_))
  have inv0 : Closed .any l.toArray (Array.replicate l.toArray.size false) := fun j oj _ hl => (by rw [getD_replicate_false] at hl; cases hl)
  have := wpAnyDIn_plan (F := F) (fn := fn) (P := P) (Q := NoPanic Q) (S := S) (R := planReads plan) (md := .any) hro hsel (fun c a a' w h => h) plan (Array.replicate l.toArray.size false) a w.drew inv0 hp h
  rw [hlen] at this
  exact this
end
end

section
open Go

section
variable {F : Fence} {fn : Nat} {P : Program} {ops : Array Oper} {Q : Exit → Act → World → Prop} {md : Region.Mode}

def noDefer (ops : Array Oper) : Bool := ops.all fun o => match o.op with | .defer _ => false | _ => true
theorem noDefer_at {i : Nat} {o : Oper} (h : noDefer ops = true) (ho : ops[i]? = some o) : ∀ c, o.op ≠ .defer c := by
  intro c hc
  have := Array.all_eq_true'.1 h o (Array.mem_of_getElem? ho)
  rw [hc] at this
  cases this

theorem wpOpIn_round {i l : Nat} {K K' : Act → World → Prop} {a : Act} {w : World} (hro : F.round = none) (hnd : noDefer ops = true) (hK : ∀ a w, K a w → K' a w) (h : wpOpIn F fn P ops Q i K a w) : wpOpIn (F.inRound l) fn P ops Q i K' a w := by
  have h := wpOpIn_mono hK h
  unfold wpOpIn at *
  cases ho : ops[i]? with
  | none => rw [ho] at h; exact h
  | some o =>
    rw [ho] at h
    simp only at h ⊢
    split
    · rename_i hw
      rw [if_pos hw] at h
      unfold Oper.wpIn at *
      rw [hro, Oper.semAt_none] at h
      rw [Fence.inRound_round, Oper.semAt_some l _ _ (noDefer_at hnd ho)]
      exact h
    · rename_i hw
      rw [if_neg hw] at h
      exact h
theorem wpAnyIn_round {l : Nat} (hro : F.round = none) (hnd : noDefer ops = true) : ∀ (fuel : Nat) (listed : Array Bool) (a : Act) (w : World), wpAnyIn F fn P md ops Q fuel listed a w → wpAnyIn (F.inRound l) fn P md ops Q fuel listed a w
  | 0, _, _, _, h => h
  | fuel + 1, _, _, _, h => ⟨h.1, fun i hi => wpOpIn_round hro hnd (fun a' w' h' => wpAnyIn_round hro hnd fuel _ a' w' h') (h.2 i hi)⟩
end

/-- **A region that draws its order, by a plan, in a round.** -/
theorem wpIn_region_planR {F : Fence} {fn l0 : Nat} {P : Program} {l : List Oper} {Q : Exit → Act → World → Prop} {id : Nat} {a : Act} {w : World} (S : World → Prop) (plan : List (List Nat × Nat × Bool)) (hro : F.round = none) (hm : P.follows .mixedOrders = true) (hB : (noDefer l.toArray && planDAll l plan) = true)
    (h : wpPlanDIn F fn P l (NoPanic Q) S plan a w.drew) : (Code.region id l.toArray true).wpIn (F.inRound l0) fn P Q a w := by
  simp only [planDAll, Bool.and_eq_true, decide_eq_true_eq] at hB
  obtain ⟨hnd, ⟨hsel, hp⟩, hlen⟩ := hB
  refine Code.wpIn_mono NoPanic.imp (wpIn_region_any hm (wpAnyIn_round hro hnd _ _ _ _ (wpAnyIn_of_D (S := S) (R := planReads plan) _ _ _ _ ?_)))
  have inv0 : Closed .any l.toArray (Array.replicate l.toArray.size false) := fun j oj _ hl => (by rw [getD_replicate_false] at hl; cases hl)
  have := wpAnyDIn_plan (F := F) (fn := fn) (P := P) (Q := NoPanic Q) (S := S) (R := planReads plan) (md := .any) hro hsel (fun c a a' w h => h) plan (Array.replicate l.toArray.size false) a w.drew inv0 hp h
  rw [hlen] at this
  exact this
end

end Go.Proofs.Ytmmkfchijafjeaa
