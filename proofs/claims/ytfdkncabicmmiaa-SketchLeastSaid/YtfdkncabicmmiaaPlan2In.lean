/- XPlan2's law inside a fence. -/
import Derived.Test.YtfdkncabicmmiaaPlan2
import Derived.Test.YtfdkncabicmmiaaPlanIn
namespace Go.Proofs.Ytfdkncabicmmiaa
open Go

section
variable {F : Fence} {fn : Nat} {P : Program} {ops : Array Oper} {Q : Exit → Act → World → Prop} {md : Region.Mode} {S : World → Prop} {R : List Nat}

/-- Whatever order is picked from here on. -/
def wpAnyDIn (F : Fence) (fn : Nat) (P : Program) (md : Region.Mode) (ops : Array Oper) (Q : Exit → Act → World → Prop) (S : World → Prop) (R : List Nat) : Nat → Array Bool → Act → World → Prop
  | 0, listed, a, w => Region.ready md ops listed = [] ∧ Q .normal a w
  | fuel + 1, listed, a, w => (Region.ready md ops listed = [] → Q .normal a w) ∧ ∀ i ∈ Region.ready md ops listed, wpOpIn F fn P ops Q i (fun a' w' => ((R.contains i = true → w' = w) ∧ (R.contains i = false → demand md ops R i = true → S w')) ∧ wpAnyDIn F fn P md ops Q S R fuel (listed.setIfInBounds i true) a' w') a w

theorem wpAnyIn_of_D : ∀ (fuel : Nat) (listed : Array Bool) (a : Act) (w : World), wpAnyDIn F fn P md ops Q S R fuel listed a w → wpAnyIn F fn P md ops Q fuel listed a w
  | 0, _, _, _, h => h
  | fuel + 1, _, _, _, h => ⟨h.1, fun i hi => wpOpIn_mono (fun a' w' h' => wpAnyIn_of_D fuel _ a' w' h'.2) (h.2 i hi)⟩

theorem wpAnyDIn_first (hro : F.round = none) {i : Nat} {oi : Oper} {v : Value} (hiR : i ∈ R) (hi : ops[i]? = some oi) (hsel : ∀ (j : Nat) (o : Oper) cs b, ops[j]? = some o → o.op ≠ .select cs b)
    (hQ : ∀ c a w, Q (.panic c) (a.put oi.dst v) w → Q (.panic c) a w) :
    ∀ (fuel : Nat) (listed : Array Bool) (a : Act) (w : World), Closed md ops listed →
      (∀ j oj, ops[j]? = some oj → j ≠ i → listed.getD j true = false → (∀ e ∈ oj.after, Region.binds md e = true → e.on ≠ i) → oi.apart ops oj = true) →
      i ∈ Region.ready md ops listed → YieldsIfF P ops (fun w => needS oi = true → S w) oi v a → (needS oi = true → S w) →
      wpAnyDIn F fn P md ops Q S R fuel (listed.setIfInBounds i true) (a.put oi.dst v) w → wpAnyDIn F fn P md ops Q S R (fuel + 1) listed a w := by
  have hiR' : R.contains i = true := by simpa using hiR
  intro fuel
  induction fuel with
  | zero =>
    intro listed a w inv _ hr hy hS H
    refine ⟨fun h => (by rw [h] at hr; cases hr), fun j hj => ?_⟩
    by_cases hji : j = i
    · subst hji; exact hy.wpOpIn hro hi hS ⟨⟨fun _ => rfl, fun h => by rw [hiR'] at h; cases h⟩, H⟩
    · have := ready_mono hj hji
      rw [H.1] at this
      cases this
  | succ fuel ih =>
    intro listed a w inv hfree hr hy hS H
    refine ⟨fun h => (by rw [h] at hr; cases hr), fun j hj => ?_⟩
    by_cases hji : j = i
    · subst hji; exact hy.wpOpIn hro hi hS ⟨⟨fun _ => rfl, fun h => by rw [hiR'] at h; cases h⟩, H⟩
    · have hun := (mem_ready.1 hr).1
      have h1 := H.2 j (ready_mono hj hji)
      obtain ⟨hjun, oj, hoj, hall⟩ := mem_ready.1 hj
      have hnot : ∀ e ∈ oj.after, Region.binds md e = true → e.on ≠ i := fun e he hb heq => by
        have h1 := hall e he hb
        rw [heq, getD_both hun] at h1
        cases h1
      have hd : needS oi = true → demand md ops R j = true := fun hn => by
        unfold demand
        rw [List.any_eq_true]
        refine ⟨i, hiR, ?_⟩
        rw [waitsT_no inv hun ops.size j (fun o ho e he hb => by
          have : o = oj := Option.some.inj (ho.symm.trans hoj)
          subst this
          exact hall e he hb), hi]
        simp [Ne.symm hji, hn]
      have h2 := wpOpIn_putIf hro hoj (hfree j oj hoj hji hjun hnot) (fun cs b => hsel i oi cs b hi) (fun cs b => hsel j oj cs b hoj) hQ hy h1
      have hfree' : ∀ k ok, ops[k]? = some ok → k ≠ i → (listed.setIfInBounds j true).getD k true = false →
          (∀ e ∈ ok.after, Region.binds md e = true → e.on ≠ i) → oi.apart ops ok = true := fun k ok hk hki hun hno => by
        refine hfree k ok hk hki ?_ hno
        by_cases hjk : j = k
        · subst hjk; exact hjun
        · rw [getD_set_ne true hjk] at hun; exact hun
      refine wpOpIn_mono (fun a' w' h3 => ⟨h3.2.1, ih (listed.setIfInBounds j true) a' w' (inv.set hj) hfree' (ready_mono hr (Ne.symm hji)) h3.1 (fun hn => ?_) ?_⟩) h2
      · cases hjR : R.contains j
        · exact h3.2.1.2 hjR (hd hn)
        · rw [h3.2.1.1 hjR]
          exact hS hn
      · rw [Array.setIfInBounds_comm _ _ hji]
        exact h3.2.2

end

section
variable {F : Fence} {fn : Nat} {P : Program} {l : List Oper} {Q : Exit → Act → World → Prop} {md : Region.Mode} {S : World → Prop} {R : List Nat}

/-- Reads, one behind the other; those that look at memory in whatever world that meets S. -/
def wpReadDIn (P : Program) (l : List Oper) (S : World → Prop) (K : Act → Prop) : List Nat → Act → Prop
  | [], a => K a
  | i :: rest, a => ∃ o v, l[i]? = some o ∧ YieldsIfF P l.toArray (fun w => needS o = true → S w) o v a ∧ wpReadDIn P l S K rest (a.put o.dst v)
theorem wpReadDIn_nil {K : Act → Prop} {a : Act} (h : K a) : wpReadDIn P l S K [] a := h
theorem wpReadDIn_step {K : Act → Prop} {a : Act} {i : Nat} {rest : List Nat} {o : Oper} {v : Value} (ho : l[i]? = some o) (hab : ∀ w, o.about P w a.eval = none) (hw : Region.wanted o (yielded l.toArray a.tmps) = true) (hv : ∀ w, (needS o = true → S w) → (execOp a.eval o).run P w = .ok (.value v) w)
    (h : wpReadDIn P l S K rest (a.put o.dst v)) : wpReadDIn P l S K (i :: rest) a := ⟨o, v, ho, ⟨.inl ⟨hw, hv⟩, hab⟩, h⟩
theorem wpReadDIn_skip {K : Act → Prop} {a : Act} {i : Nat} {rest : List Nat} {o : Oper} (ho : l[i]? = some o) (hab : ∀ w, o.about P w a.eval = none) (hw : Region.wanted o (yielded l.toArray a.tmps) = false)
    (h : wpReadDIn P l S K rest (a.put o.dst undef)) : wpReadDIn P l S K (i :: rest) a := ⟨o, undef, ho, ⟨.inr ⟨hw, rfl⟩, hab⟩, h⟩

/-- A plan: reads, then one operation that may turn the world (does S have to hold behind it?); and so on. -/
def wpPlanDIn (F : Fence) (fn : Nat) (P : Program) (l : List Oper) (Q : Exit → Act → World → Prop) (S : World → Prop) : List (List Nat × Nat × Bool) → Act → World → Prop
  | [], a, w => Q .normal a w
  | (qs, i, d) :: rest, a, w => ((qs.any fun k => match l[k]? with | some o => needS o | none => false) = true → S w) ∧ wpReadDIn P l S (fun a' => wpOpIn F fn P l.toArray Q i (fun a'' w'' => (d = true → S w'') ∧ wpPlanDIn F fn P l Q S rest a'' w'') a' w) qs a
theorem wpPlanDIn_seg {qs : List Nat} {i : Nat} {d : Bool} {rest : List (List Nat × Nat × Bool)} {a : Act} {w : World} (hS : S w) (h : wpReadDIn P l S (fun a' => wpOpIn F fn P l.toArray Q i (fun a'' w'' => (d = true → S w'') ∧ wpPlanDIn F fn P l Q S rest a'' w'') a' w) qs a) : wpPlanDIn F fn P l Q S ((qs, i, d) :: rest) a w := ⟨fun _ => hS, h⟩
theorem wpPlanDIn_pure {qs : List Nat} {i : Nat} {d : Bool} {rest : List (List Nat × Nat × Bool)} {a : Act} {w : World} (hq : (qs.any fun k => match l[k]? with | some o => needS o | none => false) = false) (h : wpReadDIn P l S (fun a' => wpOpIn F fn P l.toArray Q i (fun a'' w'' => (d = true → S w'') ∧ wpPlanDIn F fn P l Q S rest a'' w'') a' w) qs a) : wpPlanDIn F fn P l Q S ((qs, i, d) :: rest) a w := ⟨fun hf => (by rw [hq] at hf; cases hf), h⟩
theorem wpPlanDIn_one {i : Nat} {d : Bool} {rest : List (List Nat × Nat × Bool)} {a : Act} {w : World} (h : wpOpIn F fn P l.toArray Q i (fun a'' w'' => (d = true → S w'') ∧ wpPlanDIn F fn P l Q S rest a'' w'') a w) : wpPlanDIn F fn P l Q S (([], i, d) :: rest) a w := ⟨fun hf => (by simp at hf), h⟩
theorem wpPlanDIn_nil {a : Act} {w : World} (h : Q .normal a w) : wpPlanDIn F fn P l Q S [] a w := h
theorem wpAnyDIn_reads (hro : F.round = none) (hsel : Region.noSelect l.toArray = true) (hQ : ∀ c a a' w, Q (.panic c) a w → Q (.panic c) a' w) (K : Act → Prop) (fuel : Nat) (w : World) (L : Array Bool)
    (hK : ∀ a, Closed md l.toArray L → K a → wpAnyDIn F fn P md l.toArray Q S R fuel L a w) :
    ∀ (qs : List Nat) (listed : Array Bool) (a : Act), (∀ k ∈ qs, k ∈ R) → ((qs.any fun k => match l[k]? with | some o => needS o | none => false) = true → S w) → Closed md l.toArray listed → setAll qs listed = L → readsD md l.toArray qs listed = true → wpReadDIn P l S K qs a → wpAnyDIn F fn P md l.toArray Q S R (qs.length + fuel) listed a w
  | [], listed, a, _, _, inv, he, _, h => by
    have he' : listed = L := he
    subst he'
    rw [show [].length + fuel = fuel from Nat.zero_add _]
    exact hK a inv h
  | i :: qs, listed, a, hR, hS, inv, he, hB, h => by
    simp only [readsD, Bool.and_eq_true] at hB
    obtain ⟨⟨hr, hf⟩, hB'⟩ := hB
    obtain ⟨o, v, ho, hy, hrest⟩ := h
    have hoi : l.toArray[i]? = some o := by simpa using ho
    have hr' : i ∈ Region.ready md l.toArray listed := by simpa using hr
    have hSw : needS o = true → S w := fun hn => hS (by simp [ho, hn])
    have ih := wpAnyDIn_reads hro hsel hQ K fuel w L hK qs (listed.setIfInBounds i true) (a.put o.dst v) (fun k hk => hR k (List.mem_cons_of_mem _ hk)) (fun hq => hS (by rw [List.any_cons, hq, Bool.or_true])) (inv.set hr') he hB' hrest
    have := wpAnyDIn_first (F := F) (fn := fn) (P := P) (S := S) (R := R) hro (hR i (by simp)) hoi (Region.noSelect_spec hsel) (fun c a w h => hQ c _ _ w h) (qs.length + fuel) listed a w inv (Region.free_spec hoi hf) hr' hy hSw ih
    rw [show (i :: qs).length + fuel = qs.length + fuel + 1 by simp only [List.length_cons]; omega]
    exact this

theorem wpAnyDIn_plan (hro : F.round = none) (hsel : Region.noSelect l.toArray = true) (hQ : ∀ c a a' w, Q (.panic c) a w → Q (.panic c) a' w) :
    ∀ (plan : List (List Nat × Nat × Bool)) (listed : Array Bool) (a : Act) (w : World), Closed md l.toArray listed → planD md l.toArray R plan listed = true → wpPlanDIn F fn P l Q S plan a w → wpAnyDIn F fn P md l.toArray Q S R (planDLen plan) listed a w
  | [], listed, a, w, _, hB, h => ⟨by simpa [planD] using hB, h⟩
  | (qs, i, d) :: rest, listed, a, w, inv, hB, h => by
    simp only [planD, Bool.and_eq_true, decide_eq_true_eq] at hB
    obtain ⟨⟨⟨⟨⟨hB1, hB2⟩, hB3⟩, hBn⟩, hBR⟩, hB4⟩ := hB
    obtain ⟨hS, hread⟩ := h
    rw [show planDLen ((qs, i, d) :: rest) = qs.length + (planDLen rest + 1) by simp only [planDLen]; omega]
    refine wpAnyDIn_reads hro hsel hQ _ (planDLen rest + 1) w (setAll qs listed) ?_ qs listed a (fun k hk => by simpa using List.all_eq_true.1 hBR k hk) hS inv rfl hB1 hread
    intro a' inv' hop
    refine ⟨fun h0 => (by rw [hB2] at h0; cases h0), fun j hj => ?_⟩
    have hj' := hj
    rw [hB2] at hj
    obtain rfl : j = i := by simpa using hj
    refine wpOpIn_mono (fun a'' w'' hp => ⟨⟨fun hc => (by rw [hc] at hBn; cases hBn), fun _ hdj => hp.1 (by simpa [hdj] using hB3)⟩, ?_⟩) hop
    exact wpAnyDIn_plan hro hsel hQ rest _ a'' w'' (inv'.set hj') hB4 hp.2

/-- **A region that draws its order, by a plan, inside a fence.** -/
theorem wpIn_region_planD {id : Nat} {a : Act} {w : World} (S : World → Prop) (plan : List (List Nat × Nat × Bool)) (hro : F.round = none) (hm : P.follows .mixedOrders = true) (hB : planDAll l plan = true)
    (h : wpPlanDIn F fn P l (NoPanic Q) S plan a w.drew) : (Code.region id l.toArray true).wpIn F fn P Q a w := by
  simp only [planDAll, Bool.and_eq_true, decide_eq_true_eq] at hB
  obtain ⟨⟨hsel, hp⟩, hlen⟩ := hB
  refine Code.wpIn_mono NoPanic.imp (wpIn_region_any hm (wpAnyIn_of_D (S := S) (R := planReads plan) _ _ _ _ ?_))
  have inv0 : Closed .any l.toArray (Array.replicate l.toArray.size false) := fun j oj _ hl => (by rw [getD_replicate_false] at hl; cases hl)
  have := wpAnyDIn_plan (F := F) (fn := fn) (P := P) (Q := NoPanic Q) (S := S) (R := planReads plan) (md := .any) hro hsel (fun c a a' w h => h) plan (Array.replicate l.toArray.size false) a w.drew inv0 hp h
  rw [hlen] at this
  exact this
end

end Go.Proofs.Ytfdkncabicmmiaa
