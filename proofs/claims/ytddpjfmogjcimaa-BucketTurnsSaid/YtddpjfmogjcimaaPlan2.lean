/- A region that draws its order, walked by a plan: reads wherever they may come, each as soon as it is ready; calls, appends, stores one behind the other; the last operation waits for all. A region that draws its order, by a plan (as Plan), where S is asked behind an operation only if a read of the plan may come behind it. -/
import Derived.OrdersHeld
import Derived.StillTail
import Derived.Deep.RegionHeld3
namespace Go.Proofs.Ytddpjfmogjcimaa
section
open Go

section
variable {P : Program} {ops : Array Oper} {Q : Exit → Act → World → Prop} {md : Region.Mode} {S : World → Prop} {n : Nat}

/-- Whatever order is picked from here on; S holds behind each operation but the last. -/
def wpAnyT (P : Program) (md : Region.Mode) (ops : Array Oper) (Q : Exit → Act → World → Prop) (S : World → Prop) (n : Nat) : Nat → Array Bool → Act → World → Prop
  | 0, listed, a, w => Region.ready md ops listed = [] ∧ Q .normal a w
  | fuel + 1, listed, a, w => (Region.ready md ops listed = [] → Q .normal a w) ∧ ∀ i ∈ Region.ready md ops listed, wpOp P ops Q i (fun a' w' => (i < n → S w') ∧ wpAnyT P md ops Q S n fuel (listed.setIfInBounds i true) a' w') a w

theorem wpAny_of_T : ∀ (fuel : Nat) (listed : Array Bool) (a : Act) (w : World), wpAnyT P md ops Q S n fuel listed a w → wpAny P md ops Q fuel listed a w
  | 0, _, _, _, h => h
  | fuel + 1, _, _, _, h => ⟨h.1, fun i hi => wpOp_mono (fun a' w' h' => wpAny_of_T fuel _ a' w' h'.2) (h.2 i hi)⟩

theorem wpAnyT_first (hs : Region.sinkB md ops n = true) (hc : Region.chainB md ops n = true) (hn : n < ops.size) {i : Nat} {oi : Oper} {v : Value} (hin : i < n) (hi : ops[i]? = some oi) (hsel : ∀ (j : Nat) (o : Oper) cs b, ops[j]? = some o → o.op ≠ .select cs b)
    (hQ : ∀ c a w, Q (.panic c) (a.put oi.dst v) w → Q (.panic c) a w) :
    ∀ (fuel : Nat) (listed : Array Bool) (a : Act) (w : World), HeadInv md ops n listed →
      (∀ j oj, ops[j]? = some oj → j ≠ i → listed.getD j true = false → (∀ e ∈ oj.after, Region.binds md e = true → e.on ≠ i) → oi.apart ops oj = true) →
      i ∈ Region.ready md ops listed → YieldsIf P ops S oi v a → S w →
      wpAnyT P md ops Q S n fuel (listed.setIfInBounds i true) (a.put oi.dst v) w → wpAnyT P md ops Q S n (fuel + 1) listed a w := by
  intro fuel
  induction fuel with
  | zero =>
    intro listed a w inv _ hr hy hS H
    refine ⟨fun h => (by rw [h] at hr; cases hr), fun j hj => ?_⟩
    by_cases hji : j = i
    · subst hji; exact hy.wpOp hi hS ⟨fun _ => hS, H⟩
    · have := ready_mono hj hji
      rw [H.1] at this
      cases this
  | succ fuel ih =>
    intro listed a w inv hfree hr hy hS H
    refine ⟨fun h => (by rw [h] at hr; cases hr), fun j hj => ?_⟩
    by_cases hji : j = i
    · subst hji; exact hy.wpOp hi hS ⟨fun _ => hS, H⟩
    · have hun := (mem_ready.1 hr).1
      have hjn : j < n := by
        rcases Nat.lt_or_ge j n with h | h
        · exact h
        · exact absurd hj (tail_waits hs hc hn inv _ i rfl hin hun j h)
      have h1 := H.2 j (ready_mono hj hji)
      obtain ⟨hjun, oj, hoj, hall⟩ := mem_ready.1 hj
      have hnot : ∀ e ∈ oj.after, Region.binds md e = true → e.on ≠ i := fun e he hb heq => by
        have h1 := hall e he hb
        rw [heq, getD_both hun] at h1
        cases h1
      have h2 := wpOp_putIf hoj (hfree j oj hoj hji hjun hnot) (fun cs b => hsel i oi cs b hi) (fun cs b => hsel j oj cs b hoj) hQ hy h1
      have hfree' : ∀ k ok, ops[k]? = some ok → k ≠ i → (listed.setIfInBounds j true).getD k true = false →
          (∀ e ∈ ok.after, Region.binds md e = true → e.on ≠ i) → oi.apart ops ok = true := fun k ok hk hki hun hno => by
        refine hfree k ok hk hki ?_ hno
        by_cases hjk : j = k
        · subst hjk; exact hjun
        · rw [getD_set_ne true hjk] at hun; exact hun
      refine wpOp_mono (fun a' w' h3 => ⟨fun _ => h3.2.1 hjn, ih (listed.setIfInBounds j true) a' w' (inv.set hj hjn) hfree' (ready_mono hr (Ne.symm hji)) h3.1 (h3.2.1 hjn) ?_⟩) h2
      rw [Array.setIfInBounds_comm _ _ hji]
      exact h3.2.2

end

section
variable {P : Program} {l : List Oper} {Q : Exit → Act → World → Prop} {md : Region.Mode} {S : World → Prop} {n : Nat}

/-- Reads, one behind the other, each in whatever world that meets S. -/
def wpRead (P : Program) (l : List Oper) (S : World → Prop) (K : Act → Prop) : List Nat → Act → Prop
  | [], a => K a
  | i :: rest, a => ∃ o v, l[i]? = some o ∧ YieldsIf P l.toArray S o v a ∧ wpRead P l S K rest (a.put o.dst v)
theorem wpRead_nil {K : Act → Prop} {a : Act} (h : K a) : wpRead P l S K [] a := h
theorem wpRead_step {K : Act → Prop} {a : Act} {i : Nat} {rest : List Nat} {o : Oper} {v : Value} (ho : l[i]? = some o) (hw : Region.wanted o (yielded l.toArray a.tmps) = true) (hv : ∀ w, S w → (execOp a.eval o).run P w = .ok (.value v) w)
    (h : wpRead P l S K rest (a.put o.dst v)) : wpRead P l S K (i :: rest) a := ⟨o, v, ho, .inl ⟨hw, hv⟩, h⟩
theorem wpRead_skip {K : Act → Prop} {a : Act} {i : Nat} {rest : List Nat} {o : Oper} (ho : l[i]? = some o) (hw : Region.wanted o (yielded l.toArray a.tmps) = false)
    (h : wpRead P l S K rest (a.put o.dst undef)) : wpRead P l S K (i :: rest) a := ⟨o, undef, ho, .inr ⟨hw, rfl⟩, h⟩

/-- A plan: reads, then one operation that may turn the world; and so on. -/
def wpPlan (P : Program) (l : List Oper) (Q : Exit → Act → World → Prop) (S : World → Prop) : List (List Nat × Nat) → Act → World → Prop
  | [], a, w => Q .normal a w
  | (qs, i) :: rest, a, w => S w ∧ wpRead P l S (fun a' => wpOp P l.toArray Q i (wpPlan P l Q S rest) a' w) qs a
theorem wpPlan_seg {qs : List Nat} {i : Nat} {rest : List (List Nat × Nat)} {a : Act} {w : World} (hS : S w) (h : wpRead P l S (fun a' => wpOp P l.toArray Q i (wpPlan P l Q S rest) a' w) qs a) : wpPlan P l Q S ((qs, i) :: rest) a w := ⟨hS, h⟩
theorem wpPlan_nil {a : Act} {w : World} (h : Q .normal a w) : wpPlan P l Q S [] a w := h

def readsB (md : Region.Mode) (ops : Array Oper) (n : Nat) : List Nat → Array Bool → Bool
  | [], _ => true
  | i :: rest, listed => decide (i < n) && (Region.ready md ops listed).contains i && Region.free md ops listed i && readsB md ops n rest (listed.setIfInBounds i true)
def setAll : List Nat → Array Bool → Array Bool
  | [], listed => listed
  | i :: rest, listed => setAll rest (listed.setIfInBounds i true)
def planB (md : Region.Mode) (ops : Array Oper) (n : Nat) : List (List Nat × Nat) → Array Bool → Bool
  | [], listed => (Region.ready md ops listed).isEmpty
  | (qs, i) :: rest, listed => readsB md ops n qs listed && decide (Region.ready md ops (setAll qs listed) = [i]) && (if rest.isEmpty then decide (i = n) else decide (i < n)) && planB md ops n rest ((setAll qs listed).setIfInBounds i true)
def planLen : List (List Nat × Nat) → Nat
  | [] => 0
  | (qs, _) :: rest => qs.length + 1 + planLen rest

theorem wpAnyT_reads (hs : Region.sinkB md l.toArray n = true) (hc : Region.chainB md l.toArray n = true) (hn : n < l.toArray.size) (hsel : Region.noSelect l.toArray = true) (hQ : ∀ c a a' w, Q (.panic c) a w → Q (.panic c) a' w) (K : Act → Prop) (fuel : Nat) (w : World) (hS : S w) (L : Array Bool)
    (hK : ∀ a, HeadInv md l.toArray n L → K a → wpAnyT P md l.toArray Q S n fuel L a w) :
    ∀ (qs : List Nat) (listed : Array Bool) (a : Act), HeadInv md l.toArray n listed → setAll qs listed = L → readsB md l.toArray n qs listed = true → wpRead P l S K qs a → wpAnyT P md l.toArray Q S n (qs.length + fuel) listed a w
  | [], listed, a, inv, he, _, h => by
    have he' : listed = L := he
    subst he'
    rw [show [].length + fuel = fuel from Nat.zero_add _]
    exact hK a inv h
  | i :: qs, listed, a, inv, he, hB, h => by
    simp only [readsB, Bool.and_eq_true, decide_eq_true_eq] at hB
    obtain ⟨⟨⟨hin, hr⟩, hf⟩, hB'⟩ := hB
    obtain ⟨o, v, ho, hy, hrest⟩ := h
    have hoi : l.toArray[i]? = some o := by simpa using ho
    have hr' : i ∈ Region.ready md l.toArray listed := by simpa using hr
    have ih := wpAnyT_reads hs hc hn hsel hQ K fuel w hS L hK qs (listed.setIfInBounds i true) (a.put o.dst v) (inv.set hr' hin) he hB' hrest
    have := wpAnyT_first (P := P) (S := S) hs hc hn hin hoi (Region.noSelect_spec hsel) (fun c a w h => hQ c _ _ w h) (qs.length + fuel) listed a w inv (Region.free_spec hoi hf) hr' hy hS ih
    rw [show (i :: qs).length + fuel = qs.length + fuel + 1 by simp only [List.length_cons]; omega]
    exact this

theorem HeadInv_all (hn : n < l.toArray.size) : ∀ (qs : List Nat) (listed : Array Bool), HeadInv md l.toArray n listed → readsB md l.toArray n qs listed = true → HeadInv md l.toArray n (setAll qs listed)
  | [], _, inv, _ => inv
  | i :: qs, listed, inv, hB => by
    simp only [readsB, Bool.and_eq_true, decide_eq_true_eq] at hB
    obtain ⟨⟨⟨hin, hr⟩, _⟩, hB'⟩ := hB
    exact HeadInv_all hn qs _ (inv.set (by simpa using hr) hin) hB'

theorem wpAnyT_plan (hs : Region.sinkB md l.toArray n = true) (hc : Region.chainB md l.toArray n = true) (hn : n < l.toArray.size) (hsel : Region.noSelect l.toArray = true) (hQ : ∀ c a a' w, Q (.panic c) a w → Q (.panic c) a' w) :
    ∀ (plan : List (List Nat × Nat)) (listed : Array Bool) (a : Act) (w : World), (plan ≠ [] → HeadInv md l.toArray n listed) → planB md l.toArray n plan listed = true → wpPlan P l Q S plan a w → wpAnyT P md l.toArray Q S n (planLen plan) listed a w
  | [], listed, a, w, _, hB, h => ⟨by simpa [planB] using hB, h⟩
  | (qs, i) :: rest, listed, a, w, inv, hB, h => by
    simp only [planB, Bool.and_eq_true, decide_eq_true_eq] at hB
    obtain ⟨⟨⟨hB1, hB2⟩, hB3⟩, hB4⟩ := hB
    obtain ⟨hS, hread⟩ := h
    rw [show planLen ((qs, i) :: rest) = qs.length + (planLen rest + 1) by simp only [planLen]; omega]
    refine wpAnyT_reads hs hc hn hsel hQ _ (planLen rest + 1) w hS (setAll qs listed) ?_ qs listed a (inv (by simp)) rfl hB1 hread
    intro a' inv' hop
    refine ⟨fun h0 => (by rw [hB2] at h0; cases h0), fun j hj => ?_⟩
    rw [hB2] at hj
    obtain rfl : j = i := by simpa using hj
    refine wpOp_mono (fun a'' w'' hp => ⟨fun hjn => ?_, ?_⟩) hop
    · cases rest with
      | nil =>
        exfalso
        have : j = n := by simpa using hB3
        omega
      | cons r rest' => exact hp.1
    · exact wpAnyT_plan hs hc hn hsel hQ rest _ a'' w'' (fun hne => by
        have hj' : j ∈ Region.ready md l.toArray (setAll qs listed) := by rw [hB2]; simp
        cases rest with
        | nil => exact absurd rfl hne
        | cons r rest' => exact inv'.set hj' (by simpa using hB3)) hB4 hp

def planAll (l : List Oper) (n : Nat) (plan : List (List Nat × Nat)) : Bool :=
  Region.noSelect l.toArray && decide (n < l.toArray.size) && Region.sinkB .any l.toArray n && Region.chainB .any l.toArray n && planB .any l.toArray n plan (Array.replicate l.toArray.size false) && decide (planLen plan = l.toArray.size)

/-- **A region that draws its order, by a plan.** -/
theorem wp_region_plan {id : Nat} {a : Act} {w : World} (S : World → Prop) (n : Nat) (plan : List (List Nat × Nat)) (hm : P.follows .mixedOrders = true) (hB : planAll l n plan = true)
    (h : wpPlan P l (NoPanic Q) S plan a w.drew) : (Code.region id l.toArray true).wp P Q a w := by
  simp only [planAll, Bool.and_eq_true, decide_eq_true_eq] at hB
  obtain ⟨⟨⟨⟨⟨hsel, hn⟩, hs⟩, hc⟩, hp⟩, hlen⟩ := hB
  refine wp_region_noPanic (wp_region_any hm (wpAny_of_T (S := S) (n := n) _ _ _ _ ?_))
  have inv0 : HeadInv .any l.toArray n (Array.replicate l.toArray.size false) :=
    ⟨by simp, fun j oj _ hl => (by rw [getD_replicate_false] at hl; cases hl), fun t _ ht => getD_in (by simpa using ht) (getD_replicate_false _ _)⟩
  have := wpAnyT_plan (P := P) (Q := NoPanic Q) (S := S) (md := .any) hs hc hn hsel (fun c a a' w h => h) plan (Array.replicate l.toArray.size false) a w.drew (fun _ => inv0) hp h
  rw [hlen] at this
  exact this

/-- One operation that may turn the world. -/
theorem wpOp_list {i : Nat} {o : Oper} {K : Act → World → Prop} {a : Act} {w : World} (ho : l[i]? = some o)
    (h : ∀ K' : Act → World → Prop, (∀ a w, K a w → K' a w) → if Region.wanted o (yielded l.toArray a.tmps) = true then Oper.wp P o a w K' Q else K' (a.put o.dst undef) w) : wpOp P l.toArray Q i K a w :=
  wpOp_step (by simpa using ho) h
end
end

section
open Go

section
variable {P : Program} {ops : Array Oper} {Q : Exit → Act → World → Prop} {md : Region.Mode} {S : World → Prop} {R : List Nat}

/-- Does j wait for i, directly or through others? -/
def waitsT (md : Region.Mode) (ops : Array Oper) : Nat → Nat → Nat → Bool
  | 0, _, _ => false
  | fuel + 1, j, i =>
    match ops[j]? with
    | none => false
    | some oj => oj.after.any fun e => Region.binds md e && (e.on == i || waitsT md ops fuel e.on i)

def Closed (md : Region.Mode) (ops : Array Oper) (listed : Array Bool) : Prop :=
  ∀ j oj, ops[j]? = some oj → listed.getD j false = true → ∀ e ∈ oj.after, Region.binds md e = true → listed.getD e.on false = true

theorem Closed.set {listed : Array Bool} {i : Nat} (inv : Closed md ops listed) (hi : i ∈ Region.ready md ops listed) : Closed md ops (listed.setIfInBounds i true) := by
  obtain ⟨_, oi, hoi, hall⟩ := mem_ready.1 hi
  intro j oj hj hl e he hb
  by_cases hij : i = j
  · subst hij
    have : oj = oi := Option.some.inj (hj.symm.trans hoi)
    subst this
    exact getD_set_true (hall e he hb)
  · rw [getD_set_ne false hij] at hl
    exact getD_set_true (inv j oj hj hl e he hb)

theorem waitsT_no {listed : Array Bool} {i : Nat} (inv : Closed md ops listed) (hi : listed.getD i true = false) :
    ∀ (fuel j : Nat), (∀ oj, ops[j]? = some oj → ∀ e ∈ oj.after, Region.binds md e = true → listed.getD e.on false = true) → waitsT md ops fuel j i = false
  | 0, _, _ => rfl
  | fuel + 1, j, h => by
    unfold waitsT
    split
    · rfl
    · rename_i oj hoj
      rw [Array.any_eq_false']
      intro e he
      simp only [Bool.and_eq_true, Bool.or_eq_true, beq_iff_eq, not_and, not_or, Bool.not_eq_true]
      intro hb
      have h1 := h oj hoj e he hb
      refine ⟨fun h2 => ?_, waitsT_no inv hi fuel e.on (fun o ho e' he' hb' => inv e.on o ho h1 e' he' hb')⟩
      rw [h2, getD_both hi] at h1
      cases h1

/-- Does it look at memory? -/
def needS (o : Oper) : Bool := match o.op with | .extract .. => false | .move .. => false | .assign .. => false | .pick .. => false | _ => true
/-- Must S hold behind operation j? -/
def demand (md : Region.Mode) (ops : Array Oper) (R : List Nat) (j : Nat) : Bool := R.any fun i => (match ops[i]? with | some o => needS o | none => false) && (i != j && !waitsT md ops ops.size j i)

/-- Whatever order is picked from here on. -/
def wpAnyD (P : Program) (md : Region.Mode) (ops : Array Oper) (Q : Exit → Act → World → Prop) (S : World → Prop) (R : List Nat) : Nat → Array Bool → Act → World → Prop
  | 0, listed, a, w => Region.ready md ops listed = [] ∧ Q .normal a w
  | fuel + 1, listed, a, w => (Region.ready md ops listed = [] → Q .normal a w) ∧ ∀ i ∈ Region.ready md ops listed, wpOp P ops Q i (fun a' w' => ((R.contains i = true → w' = w) ∧ (R.contains i = false → demand md ops R i = true → S w')) ∧ wpAnyD P md ops Q S R fuel (listed.setIfInBounds i true) a' w') a w

theorem wpAny_of_D : ∀ (fuel : Nat) (listed : Array Bool) (a : Act) (w : World), wpAnyD P md ops Q S R fuel listed a w → wpAny P md ops Q fuel listed a w
  | 0, _, _, _, h => h
  | fuel + 1, _, _, _, h => ⟨h.1, fun i hi => wpOp_mono (fun a' w' h' => wpAny_of_D fuel _ a' w' h'.2) (h.2 i hi)⟩

theorem wpAnyD_first {i : Nat} {oi : Oper} {v : Value} (hiR : i ∈ R) (hi : ops[i]? = some oi) (hsel : ∀ (j : Nat) (o : Oper) cs b, ops[j]? = some o → o.op ≠ .select cs b)
    (hQ : ∀ c a w, Q (.panic c) (a.put oi.dst v) w → Q (.panic c) a w) :
    ∀ (fuel : Nat) (listed : Array Bool) (a : Act) (w : World), Closed md ops listed →
      (∀ j oj, ops[j]? = some oj → j ≠ i → listed.getD j true = false → (∀ e ∈ oj.after, Region.binds md e = true → e.on ≠ i) → oi.apart ops oj = true) →
      i ∈ Region.ready md ops listed → YieldsIf P ops (fun w => needS oi = true → S w) oi v a → (needS oi = true → S w) →
      wpAnyD P md ops Q S R fuel (listed.setIfInBounds i true) (a.put oi.dst v) w → wpAnyD P md ops Q S R (fuel + 1) listed a w := by
  have hiR' : R.contains i = true := by simpa using hiR
  intro fuel
  induction fuel with
  | zero =>
    intro listed a w inv _ hr hy hS H
    refine ⟨fun h => (by rw [h] at hr; cases hr), fun j hj => ?_⟩
    by_cases hji : j = i
    · subst hji; exact hy.wpOp hi hS ⟨⟨fun _ => rfl, fun h => by rw [hiR'] at h; cases h⟩, H⟩
    · have := ready_mono hj hji
      rw [H.1] at this
      cases this
  | succ fuel ih =>
    intro listed a w inv hfree hr hy hS H
    refine ⟨fun h => (by rw [h] at hr; cases hr), fun j hj => ?_⟩
    by_cases hji : j = i
    · subst hji; exact hy.wpOp hi hS ⟨⟨fun _ => rfl, fun h => by rw [hiR'] at h; cases h⟩, H⟩
    · have hun := (mem_ready.1 hr).1
      have h1 := H.2 j (ready_mono hj hji)
      obtain ⟨hjun, oj, hoj, hall⟩ := mem_ready.1 hj
      have hnot : ∀ e ∈ oj.after, Region.binds md e = true → e.on ≠ i := fun e he hb heq => by
        have h1 := hall e he hb
        rw [heq, getD_both hun] at h1
        cases h1
      have hd : needS oi = true → demand md ops R j = true := fun hn => by
        unfold demand
        rw [List.any_eq_true]
        refine ⟨i, hiR, ?_⟩
        rw [waitsT_no inv hun ops.size j (fun o ho e he hb => by
          have : o = oj := Option.some.inj (ho.symm.trans hoj)
          subst this
          exact hall e he hb), hi]
        simp [Ne.symm hji, hn]
      have h2 := wpOp_putIf hoj (hfree j oj hoj hji hjun hnot) (fun cs b => hsel i oi cs b hi) (fun cs b => hsel j oj cs b hoj) hQ hy h1
      have hfree' : ∀ k ok, ops[k]? = some ok → k ≠ i → (listed.setIfInBounds j true).getD k true = false →
          (∀ e ∈ ok.after, Region.binds md e = true → e.on ≠ i) → oi.apart ops ok = true := fun k ok hk hki hun hno => by
        refine hfree k ok hk hki ?_ hno
        by_cases hjk : j = k
        · subst hjk; exact hjun
        · rw [getD_set_ne true hjk] at hun; exact hun
      refine wpOp_mono (fun a' w' h3 => ⟨h3.2.1, ih (listed.setIfInBounds j true) a' w' (inv.set hj) hfree' (ready_mono hr (Ne.symm hji)) h3.1 (fun hn => ?_) ?_⟩) h2
      · cases hjR : R.contains j
        · exact h3.2.1.2 hjR (hd hn)
        · rw [h3.2.1.1 hjR]
          exact hS hn
      · rw [Array.setIfInBounds_comm _ _ hji]
        exact h3.2.2

end

section
variable {P : Program} {l : List Oper} {Q : Exit → Act → World → Prop} {md : Region.Mode} {S : World → Prop} {R : List Nat}

/-- Reads, one behind the other; those that look at memory in whatever world that meets S. -/
def wpReadD (P : Program) (l : List Oper) (S : World → Prop) (K : Act → Prop) : List Nat → Act → Prop
  | [], a => K a
  | i :: rest, a => ∃ o v, l[i]? = some o ∧ YieldsIf P l.toArray (fun w => needS o = true → S w) o v a ∧ wpReadD P l S K rest (a.put o.dst v)
theorem wpReadD_nil {K : Act → Prop} {a : Act} (h : K a) : wpReadD P l S K [] a := h
theorem wpReadD_step {K : Act → Prop} {a : Act} {i : Nat} {rest : List Nat} {o : Oper} {v : Value} (ho : l[i]? = some o) (hw : Region.wanted o (yielded l.toArray a.tmps) = true) (hv : ∀ w, (needS o = true → S w) → (execOp a.eval o).run P w = .ok (.value v) w)
    (h : wpReadD P l S K rest (a.put o.dst v)) : wpReadD P l S K (i :: rest) a := ⟨o, v, ho, .inl ⟨hw, hv⟩, h⟩
theorem wpReadD_skip {K : Act → Prop} {a : Act} {i : Nat} {rest : List Nat} {o : Oper} (ho : l[i]? = some o) (hw : Region.wanted o (yielded l.toArray a.tmps) = false)
    (h : wpReadD P l S K rest (a.put o.dst undef)) : wpReadD P l S K (i :: rest) a := ⟨o, undef, ho, .inr ⟨hw, rfl⟩, h⟩

/-- A plan: reads, then one operation that may turn the world (does S have to hold behind it?); and so on. -/
def wpPlanD (P : Program) (l : List Oper) (Q : Exit → Act → World → Prop) (S : World → Prop) : List (List Nat × Nat × Bool) → Act → World → Prop
  | [], a, w => Q .normal a w
  | (qs, i, d) :: rest, a, w => ((qs.any fun k => match l[k]? with | some o => needS o | none => false) = true → S w) ∧ wpReadD P l S (fun a' => wpOp P l.toArray Q i (fun a'' w'' => (d = true → S w'') ∧ wpPlanD P l Q S rest a'' w'') a' w) qs a
theorem wpPlanD_seg {qs : List Nat} {i : Nat} {d : Bool} {rest : List (List Nat × Nat × Bool)} {a : Act} {w : World} (hS : S w) (h : wpReadD P l S (fun a' => wpOp P l.toArray Q i (fun a'' w'' => (d = true → S w'') ∧ wpPlanD P l Q S rest a'' w'') a' w) qs a) : wpPlanD P l Q S ((qs, i, d) :: rest) a w := ⟨fun _ => hS, h⟩
theorem wpPlanD_pure {qs : List Nat} {i : Nat} {d : Bool} {rest : List (List Nat × Nat × Bool)} {a : Act} {w : World} (hq : (qs.any fun k => match l[k]? with | some o => needS o | none => false) = false) (h : wpReadD P l S (fun a' => wpOp P l.toArray Q i (fun a'' w'' => (d = true → S w'') ∧ wpPlanD P l Q S rest a'' w'') a' w) qs a) : wpPlanD P l Q S ((qs, i, d) :: rest) a w := ⟨fun hf => (by rw [hq] at hf; cases hf), h⟩
theorem wpPlanD_one {i : Nat} {d : Bool} {rest : List (List Nat × Nat × Bool)} {a : Act} {w : World} (h : wpOp P l.toArray Q i (fun a'' w'' => (d = true → S w'') ∧ wpPlanD P l Q S rest a'' w'') a w) : wpPlanD P l Q S (([], i, d) :: rest) a w := ⟨fun hf => (by simp at hf), h⟩
theorem wpPlanD_nil {a : Act} {w : World} (h : Q .normal a w) : wpPlanD P l Q S [] a w := h
theorem planD_free {p : Prop} {S : World → Prop} {w : World} (h : p) : (false = true → S w) ∧ p := ⟨fun hf => (by cases hf), h⟩
theorem planD_held {p : Prop} {d : Bool} {S : World → Prop} {w : World} (hS : S w) (h : p) : (d = true → S w) ∧ p := ⟨fun _ => hS, h⟩

def readsD (md : Region.Mode) (ops : Array Oper) : List Nat → Array Bool → Bool
  | [], _ => true
  | i :: rest, listed => (Region.ready md ops listed).contains i && Region.free md ops listed i && readsD md ops rest (listed.setIfInBounds i true)
def planD (md : Region.Mode) (ops : Array Oper) (R : List Nat) : List (List Nat × Nat × Bool) → Array Bool → Bool
  | [], listed => (Region.ready md ops listed).isEmpty
  | (qs, i, d) :: rest, listed => readsD md ops qs listed && decide (Region.ready md ops (setAll qs listed) = [i]) && (d || !demand md ops R i) && !R.contains i && qs.all (fun k => R.contains k) && planD md ops R rest ((setAll qs listed).setIfInBounds i true)
def planDLen : List (List Nat × Nat × Bool) → Nat
  | [] => 0
  | (qs, _, _) :: rest => qs.length + 1 + planDLen rest

theorem wpAnyD_reads (hsel : Region.noSelect l.toArray = true) (hQ : ∀ c a a' w, Q (.panic c) a w → Q (.panic c) a' w) (K : Act → Prop) (fuel : Nat) (w : World) (L : Array Bool)
    (hK : ∀ a, Closed md l.toArray L → K a → wpAnyD P md l.toArray Q S R fuel L a w) :
    ∀ (qs : List Nat) (listed : Array Bool) (a : Act), (∀ k ∈ qs, k ∈ R) → ((qs.any fun k => match l[k]? with | some o => needS o | none => false) = true → S w) → Closed md l.toArray listed → setAll qs listed = L → readsD md l.toArray qs listed = true → wpReadD P l S K qs a → wpAnyD P md l.toArray Q S R (qs.length + fuel) listed a w
  | [], listed, a, _, _, inv, he, _, h => by
    have he' : listed = L := he
    subst he'
    rw [show [].length + fuel = fuel from Nat.zero_add _]
    exact hK a inv h
  | i :: qs, listed, a, hR, hS, inv, he, hB, h => by
    simp only [readsD, Bool.and_eq_true] at hB
    obtain ⟨⟨hr, hf⟩, hB'⟩ := hB
    obtain ⟨o, v, ho, hy, hrest⟩ := h
    have hoi : l.toArray[i]? = some o := by simpa using ho
    have hr' : i ∈ Region.ready md l.toArray listed := by simpa using hr
    have hSw : needS o = true → S w := fun hn => hS (by simp [ho, hn])
    have ih := wpAnyD_reads hsel hQ K fuel w L hK qs (listed.setIfInBounds i true) (a.put o.dst v) (fun k hk => hR k (List.mem_cons_of_mem _ hk)) (fun hq => hS (by rw [List.any_cons, hq, Bool.or_true])) (inv.set hr') he hB' hrest
    have := wpAnyD_first (P := P) (S := S) (R := R) (hR i (by simp)) hoi (Region.noSelect_spec hsel) (fun c a w h => hQ c _ _ w h) (qs.length + fuel) listed a w inv (Region.free_spec hoi hf) hr' hy hSw ih
    rw [show (i :: qs).length + fuel = qs.length + fuel + 1 by simp only [List.length_cons]; omega]
    exact this

theorem wpAnyD_plan (hsel : Region.noSelect l.toArray = true) (hQ : ∀ c a a' w, Q (.panic c) a w → Q (.panic c) a' w) :
    ∀ (plan : List (List Nat × Nat × Bool)) (listed : Array Bool) (a : Act) (w : World), Closed md l.toArray listed → planD md l.toArray R plan listed = true → wpPlanD P l Q S plan a w → wpAnyD P md l.toArray Q S R (planDLen plan) listed a w
  | [], listed, a, w, _, hB, h => ⟨by simpa [planD] using hB, h⟩
  | (qs, i, d) :: rest, listed, a, w, inv, hB, h => by
    simp only [planD, Bool.and_eq_true, decide_eq_true_eq] at hB
    obtain ⟨⟨⟨⟨⟨hB1, hB2⟩, hB3⟩, hBn⟩, hBR⟩, hB4⟩ := hB
    obtain ⟨hS, hread⟩ := h
    rw [show planDLen ((qs, i, d) :: rest) = qs.length + (planDLen rest + 1) by simp only [planDLen]; omega]
    refine wpAnyD_reads hsel hQ _ (planDLen rest + 1) w (setAll qs listed) ?_ qs listed a (fun k hk => by simpa using List.all_eq_true.1 hBR k hk) hS inv rfl hB1 hread
    intro a' inv' hop
    refine ⟨fun h0 => (by rw [hB2] at h0; cases h0), fun j hj => ?_⟩
    have hj' := hj
    rw [hB2] at hj
    obtain rfl : j = i := by simpa using hj
    refine wpOp_mono (fun a'' w'' hp => ⟨⟨fun hc => (by rw [hc] at hBn; cases hBn), fun _ hdj => hp.1 (by simpa [hdj] using hB3)⟩, ?_⟩) hop
    exact wpAnyD_plan hsel hQ rest _ a'' w'' (inv'.set hj') hB4 hp.2

def planReads : List (List Nat × Nat × Bool) → List Nat
  | [] => []
  | (qs, _, _) :: rest => qs ++ planReads rest
def planDAll (l : List Oper) (plan : List (List Nat × Nat × Bool)) : Bool :=
  Region.noSelect l.toArray && planD .any l.toArray (planReads plan) plan (Array.replicate l.toArray.size false) && decide (planDLen plan = l.toArray.size)

/-- **A region that draws its order, by a plan.** -/
theorem wp_region_planD {id : Nat} {a : Act} {w : World} (S : World → Prop) (plan : List (List Nat × Nat × Bool)) (hm : P.follows .mixedOrders = true) (hB : planDAll l plan = true)
    (h : wpPlanD P l (NoPanic Q) S plan a w.drew) : (Code.region id l.toArray true).wp P Q a w := by
  simp only [planDAll, Bool.and_eq_true, decide_eq_true_eq] at hB
  obtain ⟨⟨hsel, hp⟩, hlen⟩ := hB
  refine wp_region_noPanic (wp_region_any hm (wpAny_of_D (S := S) (R := planReads plan) _ _ _ _ ?_))
  have inv0 : Closed .any l.toArray (Array.replicate l.toArray.size false) := fun j oj _ hl => (by rw [getD_replicate_false] at hl; cases hl)
  have := wpAnyD_plan (P := P) (Q := NoPanic Q) (S := S) (R := planReads plan) (md := .any) hsel (fun c a a' w h => h) plan (Array.replicate l.toArray.size false) a w.drew inv0 hp h
  rw [hlen] at this
  exact this
end
end

end Go.Proofs.Ytddpjfmogjcimaa
