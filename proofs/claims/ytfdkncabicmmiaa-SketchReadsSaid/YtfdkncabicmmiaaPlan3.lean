/- A region that draws its order, by a plan (as Plan2); reads that the next effect waits for are taken in the very world they come in, the others wherever S holds. -/
import Derived.Test.YtfdkncabicmmiaaPlan2
namespace Go.Proofs.Ytfdkncabicmmiaa
open Go

section
variable {P : Program} {ops : Array Oper} {Q : Exit → Act → World → Prop} {md : Region.Mode} {R : List Nat} {S : World → Prop}

def Within (l f : Array Bool) : Prop := ∀ k, l.getD k false = true → f.getD k false = true
theorem ready_within {listed fin : Array Bool} {j : Nat} (h : Within listed fin) (hsz : fin.size = ops.size) (hj : j ∈ Region.ready md ops listed) (hn : fin.getD j false = false) : j ∈ Region.ready md ops fin := by
  obtain ⟨hun, o, ho, hall⟩ := mem_ready.1 hj
  exact mem_ready.2 ⟨getD_in (by rw [hsz]; exact (Array.getElem?_eq_some_iff.1 ho).1) hn, o, ho, fun e he hb => h _ (hall e he hb)⟩
theorem YieldsIf.weak {p q : World → Prop} {o : Oper} {v : Value} {a : Act} (h : YieldsIf P ops p o v a) (hq : ∀ W, q W → p W) : YieldsIf P ops q o v a := by
  rcases h with ⟨h1, h2⟩ | h
  · exact .inl ⟨h1, fun W hW => h2 W (hq W hW)⟩
  · exact .inr h

theorem wpAnyD_firstW {i : Nat} {oi : Oper} {v : Value} {e : Nat} {l0 fin : Array Bool} (hiR : i ∈ R) (hi : ops[i]? = some oi) (hsel : ∀ (j : Nat) (o : Oper) cs b, ops[j]? = some o → o.op ≠ .select cs b)
    (hQ : ∀ c a w, Q (.panic c) (a.put oi.dst v) w → Q (.panic c) a w)
    (hfin : Region.ready md ops fin = [e]) (hsz : fin.size = ops.size) (hein : needS oi = true → waitsT md ops ops.size e i = true)
    (hnew : ∀ j, fin.getD j false = true → l0.getD j false = false → R.contains j = true) :
    ∀ (fuel : Nat) (listed : Array Bool) (a : Act) (w : World), Closed md ops listed → (needS oi = true → Within l0 listed ∧ Within listed fin) →
      (∀ j oj, ops[j]? = some oj → j ≠ i → listed.getD j true = false → (∀ e ∈ oj.after, Region.binds md e = true → e.on ≠ i) → oi.apart ops oj = true) →
      i ∈ Region.ready md ops listed → YieldsIf P ops (fun W => needS oi = true → W = w) oi v a →
      wpAnyD P md ops Q S R fuel (listed.setIfInBounds i true) (a.put oi.dst v) w → wpAnyD P md ops Q S R (fuel + 1) listed a w := by
  have hiR' : R.contains i = true := by simpa using hiR
  intro fuel
  induction fuel with
  | zero =>
    intro listed a w inv hW _ hr hy H
    refine ⟨fun h => (by rw [h] at hr; cases hr), fun j hj => ?_⟩
    by_cases hji : j = i
    · subst hji; exact hy.wpOp hi (fun _ => rfl) ⟨⟨fun _ => rfl, fun h => by rw [hiR'] at h; cases h⟩, H⟩
    · have := ready_mono hj hji
      rw [H.1] at this
      cases this
  | succ fuel ih =>
    intro listed a w inv hW hfree hr hy H
    refine ⟨fun h => (by rw [h] at hr; cases hr), fun j hj => ?_⟩
    by_cases hji : j = i
    · subst hji; exact hy.wpOp hi (fun _ => rfl) ⟨⟨fun _ => rfl, fun h => by rw [hiR'] at h; cases h⟩, H⟩
    · have hun := (mem_ready.1 hr).1
      have h1 := H.2 j (ready_mono hj hji)
      obtain ⟨hjun, oj, hoj, hall⟩ := mem_ready.1 hj
      have hnot : ∀ e ∈ oj.after, Region.binds md e = true → e.on ≠ i := fun e he hb heq => by
        have h1 := hall e he hb
        rw [heq, getD_both hun] at h1
        cases h1
      have hjR : needS oi = true → R.contains j = true ∧ fin.getD j false = true := fun hn => by
        obtain ⟨hw0, hwf⟩ := hW hn
        cases hf : fin.getD j false
        · have h2 := ready_within hwf hsz hj hf
          rw [hfin] at h2
          have hje : j = e := by simpa using h2
          subst hje
          have h3 := waitsT_no inv hun ops.size j (fun o ho e he hb => by
            have : o = oj := Option.some.inj (ho.symm.trans hoj)
            subst this
            exact hall e he hb)
          rw [hein hn] at h3
          cases h3
        · refine ⟨hnew j hf ?_, rfl⟩
          cases h0 : l0.getD j false
          · rfl
          · have := hw0 j h0
            rw [getD_both hjun] at this
            cases this
      have h2 := wpOp_putIf hoj (hfree j oj hoj hji hjun hnot) (fun cs b => hsel i oi cs b hi) (fun cs b => hsel j oj cs b hoj) hQ hy h1
      have hfree' : ∀ k ok, ops[k]? = some ok → k ≠ i → (listed.setIfInBounds j true).getD k true = false →
          (∀ e ∈ ok.after, Region.binds md e = true → e.on ≠ i) → oi.apart ops ok = true := fun k ok hk hki hun hno => by
        refine hfree k ok hk hki ?_ hno
        by_cases hjk : j = k
        · subst hjk; exact hjun
        · rw [getD_set_ne true hjk] at hun; exact hun
      have hW' : needS oi = true → Within l0 (listed.setIfInBounds j true) ∧ Within (listed.setIfInBounds j true) fin := fun hn => by
        obtain ⟨hw0, hwf⟩ := hW hn
        refine ⟨fun k hk => getD_set_true (hw0 k hk), fun k hk => ?_⟩
        by_cases hjk : j = k
        · subst hjk; exact (hjR hn).2
        · rw [getD_set_ne false hjk] at hk; exact hwf k hk
      refine wpOp_mono (fun a' w' h3 => ⟨h3.2.1, ih (listed.setIfInBounds j true) a' w' (inv.set hj) hW' hfree' (ready_mono hr (Ne.symm hji)) (YieldsIf.weak h3.1 (fun W hq hn => ?_)) ?_⟩) h2
      · rw [hq hn]
        exact h3.2.1.1 (hjR hn).1
      · rw [Array.setIfInBounds_comm _ _ hji]
        exact h3.2.2

theorem within_setAll : ∀ (qs : List Nat) (l : Array Bool), Within l (setAll qs l)
  | [], _ => fun _ h => h
  | i :: qs, l => fun k h => within_setAll qs _ k (getD_set_true h)
theorem size_setAll : ∀ (qs : List Nat) (l : Array Bool), (setAll qs l).size = l.size
  | [], _ => rfl
  | i :: qs, l => by rw [setAll, size_setAll qs, Array.size_setIfInBounds]
theorem new_setAll : ∀ (qs : List Nat) (l : Array Bool) (j : Nat), (setAll qs l).getD j false = true → l.getD j false = false → j ∈ qs
  | [], l, j, h, h0 => by
    rw [setAll, h0] at h
    cases h
  | i :: qs, l, j, h, h0 => by
    by_cases hij : i = j
    · subst hij; exact List.mem_cons_self
    · exact List.mem_cons_of_mem _ (new_setAll qs _ j h (by rw [getD_set_ne false hij]; exact h0))
end

section
variable {P : Program} {l : List Oper} {Q : Exit → Act → World → Prop} {md : Region.Mode} {S : World → Prop} {R : List Nat}

/-- A plan: reads wherever S holds, reads in the world at hand, then one operation that may turn it (does S have to hold behind it?); and so on. -/
def wpPlanM (P : Program) (l : List Oper) (Q : Exit → Act → World → Prop) (S : World → Prop) : List (List Nat × List Nat × Nat × Bool) → Act → World → Prop
  | [], a, w => Q .normal a w
  | (qs, xs, i, d) :: rest, a, w => ((qs.any fun k => match l[k]? with | some o => needS o | none => false) = true → S w) ∧ wpReadD P l S (fun a' => wpReadD P l (fun W => W = w) (fun a'' => wpOp P l.toArray Q i (fun a3 w3 => (d = true → S w3) ∧ wpPlanM P l Q S rest a3 w3) a'' w) xs a') qs a
theorem wpPlanM_seg {qs xs : List Nat} {i : Nat} {d : Bool} {rest : List (List Nat × List Nat × Nat × Bool)} {a : Act} {w : World} (hS : S w) (h : wpReadD P l S (fun a' => wpReadD P l (fun W => W = w) (fun a'' => wpOp P l.toArray Q i (fun a3 w3 => (d = true → S w3) ∧ wpPlanM P l Q S rest a3 w3) a'' w) xs a') qs a) : wpPlanM P l Q S ((qs, xs, i, d) :: rest) a w := ⟨fun _ => hS, h⟩
theorem wpPlanM_here {xs : List Nat} {i : Nat} {d : Bool} {rest : List (List Nat × List Nat × Nat × Bool)} {a : Act} {w : World} (h : wpReadD P l (fun W => W = w) (fun a'' => wpOp P l.toArray Q i (fun a3 w3 => (d = true → S w3) ∧ wpPlanM P l Q S rest a3 w3) a'' w) xs a) : wpPlanM P l Q S (([], xs, i, d) :: rest) a w := ⟨fun hf => (by simp at hf), h⟩
theorem wpPlanM_nil {a : Act} {w : World} (h : Q .normal a w) : wpPlanM P l Q S [] a w := h

def planM (md : Region.Mode) (ops : Array Oper) (R : List Nat) : List (List Nat × List Nat × Nat × Bool) → Array Bool → Bool
  | [], listed => (Region.ready md ops listed).isEmpty
  | (qs, xs, i, d) :: rest, listed => readsD md ops qs listed && readsD md ops xs (setAll qs listed) && decide (Region.ready md ops (setAll xs (setAll qs listed)) = [i]) && (d || !demand md ops R i) && !R.contains i && qs.all (fun k => R.contains k) && xs.all (fun k => R.contains k && ((match ops[k]? with | some o => !needS o | none => false) || waitsT md ops ops.size i k)) && planM md ops R rest ((setAll xs (setAll qs listed)).setIfInBounds i true)
def planMLen : List (List Nat × List Nat × Nat × Bool) → Nat
  | [] => 0
  | (qs, xs, _, _) :: rest => qs.length + (xs.length + (planMLen rest + 1))
/-- The reads that are taken wherever S holds; all reads. -/
def planMReads : List (List Nat × List Nat × Nat × Bool) → List Nat
  | [] => []
  | (qs, xs, _, _) :: rest => qs ++ xs ++ planMReads rest
def planMAll (l : List Oper) (plan : List (List Nat × List Nat × Nat × Bool)) : Bool :=
  Region.noSelect l.toArray && planM .any l.toArray (planMReads plan) plan (Array.replicate l.toArray.size false) && decide (planMLen plan = l.toArray.size)

theorem wpAnyD_readsW (hsel : Region.noSelect l.toArray = true) (hQ : ∀ c a a' w, Q (.panic c) a w → Q (.panic c) a' w) (K : Act → Prop) (fuel : Nat) (w : World) (L l0 : Array Bool) (e : Nat)
    (hfin : Region.ready md l.toArray L = [e]) (hsz : L.size = l.toArray.size) (hnew : ∀ j, L.getD j false = true → l0.getD j false = false → R.contains j = true)
    (hK : ∀ a, Closed md l.toArray L → K a → wpAnyD P md l.toArray Q S R fuel L a w) :
    ∀ (qs : List Nat) (listed : Array Bool) (a : Act), (∀ k ∈ qs, k ∈ R ∧ ∀ o, l[k]? = some o → needS o = true → waitsT md l.toArray l.toArray.size e k = true) → Closed md l.toArray listed → Within l0 listed → setAll qs listed = L → readsD md l.toArray qs listed = true → wpReadD P l (fun W => W = w) K qs a → wpAnyD P md l.toArray Q S R (qs.length + fuel) listed a w
  | [], listed, a, _, inv, _, he, _, h => by
    have he' : listed = L := he
    subst he'
    rw [show [].length + fuel = fuel from Nat.zero_add _]
    exact hK a inv h
  | i :: qs, listed, a, hR, inv, hw0, he, hB, h => by
    simp only [readsD, Bool.and_eq_true] at hB
    obtain ⟨⟨hr, hf⟩, hB'⟩ := hB
    obtain ⟨o, v, ho, hy, hrest⟩ := h
    have hoi : l.toArray[i]? = some o := by simpa using ho
    have hr' : i ∈ Region.ready md l.toArray listed := by simpa using hr
    have ih := wpAnyD_readsW hsel hQ K fuel w L l0 e hfin hsz hnew hK qs (listed.setIfInBounds i true) (a.put o.dst v) (fun k hk => hR k (List.mem_cons_of_mem _ hk)) (inv.set hr') (fun k hk => getD_set_true (hw0 k hk)) he hB' hrest
    have hwf : Within listed L := by rw [← he]; exact within_setAll (i :: qs) listed
    have := wpAnyD_firstW (P := P) (R := R) (S := S) (hR i (by simp)).1 hoi (Region.noSelect_spec hsel) (fun c a w h => hQ c _ _ w h) hfin hsz ((hR i (by simp)).2 o ho) hnew (qs.length + fuel) listed a w inv (fun _ => ⟨hw0, hwf⟩) (Region.free_spec hoi hf) hr' hy ih
    rw [show (i :: qs).length + fuel = qs.length + fuel + 1 by simp only [List.length_cons]; omega]
    exact this

theorem wpAnyD_planM (hsel : Region.noSelect l.toArray = true) (hQ : ∀ c a a' w, Q (.panic c) a w → Q (.panic c) a' w) :
    ∀ (plan : List (List Nat × List Nat × Nat × Bool)) (listed : Array Bool) (a : Act) (w : World), listed.size = l.toArray.size → Closed md l.toArray listed → planM md l.toArray R plan listed = true → wpPlanM P l Q S plan a w → wpAnyD P md l.toArray Q S R (planMLen plan) listed a w
  | [], listed, a, w, _, _, hB, h => ⟨by simpa [planM] using hB, h⟩
  | (qs, xs, i, d) :: rest, listed, a, w, hsz, inv, hB, h => by
    simp only [planM, Bool.and_eq_true, decide_eq_true_eq] at hB
    obtain ⟨⟨⟨⟨⟨⟨⟨hB1, hB1x⟩, hB2⟩, hB3⟩, hBn⟩, hBR⟩, hBX⟩, hB4⟩ := hB
    obtain ⟨hS, hread⟩ := h
    rw [show planMLen ((qs, xs, i, d) :: rest) = qs.length + (xs.length + (planMLen rest + 1)) from rfl]
    have hRx : ∀ k ∈ xs, k ∈ R ∧ ∀ o, l[k]? = some o → needS o = true → waitsT md l.toArray l.toArray.size i k = true := fun k hk => by
      have := List.all_eq_true.1 hBX k hk
      simp only [Bool.and_eq_true, Bool.or_eq_true] at this
      refine ⟨by simpa using this.1, fun o ho hn => ?_⟩
      have h2 := this.2
      have hoi : l.toArray[k]? = some o := by simpa using ho
      rw [hoi] at h2
      simpa [hn] using h2
    refine wpAnyD_reads hsel hQ _ (xs.length + (planMLen rest + 1)) w (setAll qs listed) ?_ qs listed a (fun k hk => by simpa using List.all_eq_true.1 hBR k hk) hS inv rfl hB1 hread
    intro a' inv' hx
    refine wpAnyD_readsW hsel hQ _ (planMLen rest + 1) w (setAll xs (setAll qs listed)) (setAll qs listed) i hB2 (by rw [size_setAll, size_setAll]; exact hsz) (fun j h1 h0 => by simpa using (hRx j (new_setAll xs _ j h1 h0)).1) ?_ xs (setAll qs listed) a' hRx inv' (fun _ h => h) rfl hB1x hx
    intro a' inv' hop
    refine ⟨fun h0 => (by rw [hB2] at h0; cases h0), fun j hj => ?_⟩
    have hj' := hj
    rw [hB2] at hj
    obtain rfl : j = i := by simpa using hj
    refine wpOp_mono (fun a'' w'' hp => ⟨⟨fun hc => (by rw [hc] at hBn; cases hBn), fun _ hdj => hp.1 (by simpa [hdj] using hB3)⟩, ?_⟩) hop
    exact wpAnyD_planM hsel hQ rest _ a'' w'' (by rw [Array.size_setIfInBounds, size_setAll, size_setAll]; exact hsz) (inv'.set hj') hB4 hp.2

/-- **A region that draws its order, by a plan of reads wherever S holds and reads in the world at hand.** -/
theorem wp_region_planM {id : Nat} {a : Act} {w : World} (S : World → Prop) (plan : List (List Nat × List Nat × Nat × Bool)) (hm : P.follows .mixedOrders = true) (hB : planMAll l plan = true)
    (h : wpPlanM P l (NoPanic Q) S plan a w.drew) : (Code.region id l.toArray true).wp P Q a w := by
  simp only [planMAll, Bool.and_eq_true, decide_eq_true_eq] at hB
  obtain ⟨⟨hsel, hp⟩, hlen⟩ := hB
  refine wp_region_noPanic (wp_region_any hm (wpAny_of_D (S := S) (R := planMReads plan) _ _ _ _ ?_))
  have inv0 : Closed .any l.toArray (Array.replicate l.toArray.size false) := fun j oj _ hl => (by rw [getD_replicate_false] at hl; cases hl)
  have := wpAnyD_planM (P := P) (Q := NoPanic Q) (S := S) (R := planMReads plan) (md := .any) hsel (fun c a a' w h => h) plan (Array.replicate l.toArray.size false) a w.drew (by simp) inv0 hp h
  rw [hlen] at this
  exact this
end

end Go.Proofs.Ytfdkncabicmmiaa
