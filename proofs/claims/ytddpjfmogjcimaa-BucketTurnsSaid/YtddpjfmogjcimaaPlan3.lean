/- A region that draws its order, by a plan (as Plan2); reads that the next effect waits for are taken in the very world they come in, the others wherever S holds. -/
import Derived.Test.YtddpjfmogjcimaaPlan2
namespace Go.Proofs.Ytddpjfmogjcimaa
open Go

section
variable {P : Program} {ops : Array Oper} {Q : Exit → Act → World → Prop} {md : Region.Mode} {R : List Nat}

def Within (l f : Array Bool) : Prop := ∀ k, l.getD k false = true → f.getD k false = true
theorem ready_within {listed fin : Array Bool} {j : Nat} (h : Within listed fin) (hsz : fin.size = ops.size) (hj : j ∈ Region.ready md ops listed) (hn : fin.getD j false = false) : j ∈ Region.ready md ops fin := by
  obtain ⟨hun, o, ho, hall⟩ := mem_ready.1 hj
  exact mem_ready.2 ⟨getD_in (by rw [hsz]; exact (Array.getElem?_eq_some_iff.1 ho).1) hn, o, ho, fun e he hb => h _ (hall e he hb)⟩
theorem YieldsIf.weak {p q : World → Prop} {o : Oper} {v : Value} {a : Act} (h : YieldsIf P ops p o v a) (hq : ∀ W, q W → p W) : YieldsIf P ops q o v a := by
  rcases h with ⟨h1, h2⟩ | h
  · exact .inl ⟨h1, fun W hW => h2 W (hq W hW)⟩
  · exact .inr h

/-- Whatever order is picked from here on; what reads may rely on (S) may be made stronger behind an operation that is no read. -/
def wpAnyE (P : Program) (md : Region.Mode) (ops : Array Oper) (Q : Exit → Act → World → Prop) (R : List Nat) : Nat → (World → Prop) → Array Bool → Act → World → Prop
  | 0, _, listed, a, w => Region.ready md ops listed = [] ∧ Q .normal a w
  | fuel + 1, S, listed, a, w => (Region.ready md ops listed = [] → Q .normal a w) ∧ ∀ i ∈ Region.ready md ops listed, wpOp P ops Q i (fun a' w' => ∃ S' : World → Prop, (∀ W, S' W → S W) ∧ ((R.contains i = true → w' = w ∧ S' = S) ∧ (R.contains i = false → demand md ops R i = true → S' w')) ∧ wpAnyE P md ops Q R fuel S' (listed.setIfInBounds i true) a' w') a w

theorem wpAny_of_E : ∀ (fuel : Nat) (S : World → Prop) (listed : Array Bool) (a : Act) (w : World), wpAnyE P md ops Q R fuel S listed a w → wpAny P md ops Q fuel listed a w
  | 0, _, _, _, _, h => h
  | fuel + 1, _, _, _, _, h => ⟨h.1, fun i hi => wpOp_mono (fun a' w' h' => by obtain ⟨S', _, _, h3⟩ := h'; exact wpAny_of_E fuel S' _ a' w' h3) (h.2 i hi)⟩

/-- A read goes first: exact (it is taken in the world at hand: the next effect waits for it) or wherever S holds. -/
theorem wpAnyE_first (exact : Bool) {i : Nat} {oi : Oper} {v : Value} {e : Nat} {l0 fin : Array Bool} (hiR : i ∈ R) (hi : ops[i]? = some oi) (hsel : ∀ (j : Nat) (o : Oper) cs b, ops[j]? = some o → o.op ≠ .select cs b)
    (hQ : ∀ c a w, Q (.panic c) (a.put oi.dst v) w → Q (.panic c) a w)
    (hfin : exact = true → Region.ready md ops fin = [e]) (hsz : exact = true → fin.size = ops.size) (hein : exact = true → needS oi = true → waitsT md ops ops.size e i = true)
    (hnew : exact = true → ∀ j, fin.getD j false = true → l0.getD j false = false → R.contains j = true) :
    ∀ (fuel : Nat) (S : World → Prop) (listed : Array Bool) (a : Act) (w : World), Closed md ops listed → (exact = true → needS oi = true → Within l0 listed ∧ Within listed fin) →
      (∀ j oj, ops[j]? = some oj → j ≠ i → listed.getD j true = false → (∀ e ∈ oj.after, Region.binds md e = true → e.on ≠ i) → oi.apart ops oj = true) →
      i ∈ Region.ready md ops listed → YieldsIf P ops (fun W => needS oi = true → if exact = true then W = w else S W) oi v a → (exact = false → needS oi = true → S w) →
      wpAnyE P md ops Q R fuel S (listed.setIfInBounds i true) (a.put oi.dst v) w → wpAnyE P md ops Q R (fuel + 1) S listed a w := by
  have hiR' : R.contains i = true := by simpa using hiR
  have here : ∀ (S : World → Prop) (w : World), (exact = false → needS oi = true → S w) → needS oi = true → if exact = true then w = w else S w := fun S w hS hn => by
    cases exact
    · exact hS rfl hn
    · exact rfl
  intro fuel
  induction fuel with
  | zero =>
    intro S listed a w inv hW _ hr hy hS H
    refine ⟨fun h => (by rw [h] at hr; cases hr), fun j hj => ?_⟩
    by_cases hji : j = i
    · subst hji; exact hy.wpOp hi (here S w hS) ⟨S, fun _ h => h, ⟨fun _ => ⟨rfl, rfl⟩, fun h => by rw [hiR'] at h; cases h⟩, H⟩
    · have := ready_mono hj hji
      rw [H.1] at this
      cases this
  | succ fuel ih =>
    intro S listed a w inv hW hfree hr hy hS H
    refine ⟨fun h => (by rw [h] at hr; cases hr), fun j hj => ?_⟩
    by_cases hji : j = i
    · subst hji; exact hy.wpOp hi (here S w hS) ⟨S, fun _ h => h, ⟨fun _ => ⟨rfl, rfl⟩, fun h => by rw [hiR'] at h; cases h⟩, H⟩
    · have hun := (mem_ready.1 hr).1
      have h1 := H.2 j (ready_mono hj hji)
      obtain ⟨hjun, oj, hoj, hall⟩ := mem_ready.1 hj
      have hnot : ∀ e ∈ oj.after, Region.binds md e = true → e.on ≠ i := fun e he hb heq => by
        have h1 := hall e he hb
        rw [heq, getD_both hun] at h1
        cases h1
      have hno : waitsT md ops ops.size j i = false := waitsT_no inv hun ops.size j (fun o ho e he hb => by
        have : o = oj := Option.some.inj (ho.symm.trans hoj)
        subst this
        exact hall e he hb)
      have hd : needS oi = true → demand md ops R j = true := fun hn => by
        unfold demand
        rw [List.any_eq_true]
        refine ⟨i, hiR, ?_⟩
        rw [hno, hi]
        simp [Ne.symm hji, hn]
      have hjR : exact = true → needS oi = true → R.contains j = true ∧ fin.getD j false = true := fun hx hn => by
        obtain ⟨hw0, hwf⟩ := hW hx hn
        cases hf : fin.getD j false
        · have h2 := ready_within hwf (hsz hx) hj hf
          rw [hfin hx] at h2
          have hje : j = e := by simpa using h2
          subst hje
          rw [hein hx hn] at hno
          cases hno
        · refine ⟨hnew hx j hf ?_, rfl⟩
          cases h0 : l0.getD j false
          · rfl
          · have := hw0 j h0
            rw [getD_both hjun] at this
            cases this
      have h2 := wpOp_putIf hoj (hfree j oj hoj hji hjun hnot) (fun cs b => hsel i oi cs b hi) (fun cs b => hsel j oj cs b hoj) hQ hy h1
      have hfree' : ∀ k ok, ops[k]? = some ok → k ≠ i → (listed.setIfInBounds j true).getD k true = false →
          (∀ e ∈ ok.after, Region.binds md e = true → e.on ≠ i) → oi.apart ops ok = true := fun k ok hk hki hun hno => by
        refine hfree k ok hk hki ?_ hno
        by_cases hjk : j = k
        · subst hjk; exact hjun
        · rw [getD_set_ne true hjk] at hun; exact hun
      have hW' : exact = true → needS oi = true → Within l0 (listed.setIfInBounds j true) ∧ Within (listed.setIfInBounds j true) fin := fun hx hn => by
        obtain ⟨hw0, hwf⟩ := hW hx hn
        refine ⟨fun k hk => getD_set_true (hw0 k hk), fun k hk => ?_⟩
        by_cases hjk : j = k
        · subst hjk; exact (hjR hx hn).2
        · rw [getD_set_ne false hjk] at hk; exact hwf k hk
      refine wpOp_mono (fun a' w' h3 => ?_) h2
      obtain ⟨hy3, S', hSS, hcl, hrest⟩ := h3
      refine ⟨S', hSS, hcl, ih S' (listed.setIfInBounds j true) a' w' (inv.set hj) hW' hfree' (ready_mono hr (Ne.symm hji)) (YieldsIf.weak hy3 (fun W hq hn => ?_)) (fun hx hn => ?_) ?_⟩
      · have := hq hn
        cases hx : exact
        · rw [hx] at this
          exact hSS W this
        · rw [hx] at this
          rw [(hcl.1 (hjR hx hn).1).1] at this
          exact this
      · cases hjc : R.contains j
        · exact hcl.2 hjc (hd hn)
        · obtain ⟨e1, e2⟩ := hcl.1 hjc
          rw [e1, e2]
          exact hS hx hn
      · rw [Array.setIfInBounds_comm _ _ hji]
        exact hrest

theorem within_setAll : ∀ (qs : List Nat) (l : Array Bool), Within l (setAll qs l)
  | [], _ => fun _ h => h
  | i :: qs, l => fun k h => within_setAll qs _ k (getD_set_true h)
theorem size_setAll : ∀ (qs : List Nat) (l : Array Bool), (setAll qs l).size = l.size
  | [], _ => rfl
  | i :: qs, l => by rw [setAll, size_setAll qs, Array.size_setIfInBounds]
theorem new_setAll : ∀ (qs : List Nat) (l : Array Bool) (j : Nat), (setAll qs l).getD j false = true → l.getD j false = false → j ∈ qs
  | [], l, j, h, h0 => by
    rw [setAll, h0] at h
    cases h
  | i :: qs, l, j, h, h0 => by
    by_cases hij : i = j
    · subst hij; exact List.mem_cons_self
    · exact List.mem_cons_of_mem _ (new_setAll qs _ j h (by rw [getD_set_ne false hij]; exact h0))
end

section
variable {P : Program} {l : List Oper} {Q : Exit → Act → World → Prop} {md : Region.Mode} {R : List Nat}

/-- A plan: reads wherever S holds, reads in the world at hand, then one operation that may turn it; behind it reads may rely on S', that is no weaker than S (does it have to hold there?); and so on. -/
def wpPlanM (P : Program) (l : List Oper) (Q : Exit → Act → World → Prop) : List (List Nat × List Nat × Nat × Bool) → (World → Prop) → Act → World → Prop
  | [], _, a, w => Q .normal a w
  | (qs, xs, i, d) :: rest, S, a, w => ((qs.any fun k => match l[k]? with | some o => needS o | none => false) = true → S w) ∧ wpReadD P l S (fun a' => wpReadD P l (fun W => W = w) (fun a'' => wpOp P l.toArray Q i (fun a3 w3 => ∃ S' : World → Prop, (∀ W, S' W → S W) ∧ (d = true → S' w3) ∧ wpPlanM P l Q rest S' a3 w3) a'' w) xs a') qs a
theorem wpPlanM_seg {S : World → Prop} {qs xs : List Nat} {i : Nat} {d : Bool} {rest : List (List Nat × List Nat × Nat × Bool)} {a : Act} {w : World} (hS : S w) (h : wpReadD P l S (fun a' => wpReadD P l (fun W => W = w) (fun a'' => wpOp P l.toArray Q i (fun a3 w3 => ∃ S' : World → Prop, (∀ W, S' W → S W) ∧ (d = true → S' w3) ∧ wpPlanM P l Q rest S' a3 w3) a'' w) xs a') qs a) : wpPlanM P l Q ((qs, xs, i, d) :: rest) S a w := ⟨fun _ => hS, h⟩
theorem wpPlanM_here {S : World → Prop} {xs : List Nat} {i : Nat} {d : Bool} {rest : List (List Nat × List Nat × Nat × Bool)} {a : Act} {w : World} (h : wpReadD P l (fun W => W = w) (fun a'' => wpOp P l.toArray Q i (fun a3 w3 => ∃ S' : World → Prop, (∀ W, S' W → S W) ∧ (d = true → S' w3) ∧ wpPlanM P l Q rest S' a3 w3) a'' w) xs a) : wpPlanM P l Q (([], xs, i, d) :: rest) S a w := ⟨fun hf => (by simp at hf), h⟩
theorem wpPlanM_nil {S : World → Prop} {a : Act} {w : World} (h : Q .normal a w) : wpPlanM P l Q [] S a w := h

def planM (md : Region.Mode) (ops : Array Oper) (R : List Nat) : List (List Nat × List Nat × Nat × Bool) → Array Bool → Bool
  | [], listed => (Region.ready md ops listed).isEmpty
  | (qs, xs, i, d) :: rest, listed => readsD md ops qs listed && readsD md ops xs (setAll qs listed) && decide (Region.ready md ops (setAll xs (setAll qs listed)) = [i]) && (d || !demand md ops R i) && !R.contains i && qs.all (fun k => R.contains k) && xs.all (fun k => R.contains k && ((match ops[k]? with | some o => !needS o | none => false) || waitsT md ops ops.size i k)) && planM md ops R rest ((setAll xs (setAll qs listed)).setIfInBounds i true)
def planMLen : List (List Nat × List Nat × Nat × Bool) → Nat
  | [] => 0
  | (qs, xs, _, _) :: rest => qs.length + (xs.length + (planMLen rest + 1))
/-- The reads that are taken wherever S holds; all reads. -/
def planMReads : List (List Nat × List Nat × Nat × Bool) → List Nat
  | [] => []
  | (qs, xs, _, _) :: rest => qs ++ xs ++ planMReads rest
def planMAll (l : List Oper) (plan : List (List Nat × List Nat × Nat × Bool)) : Bool :=
  Region.noSelect l.toArray && planM .any l.toArray (planMReads plan) plan (Array.replicate l.toArray.size false) && decide (planMLen plan = l.toArray.size)

theorem wpAnyE_reads (exact : Bool) (hsel : Region.noSelect l.toArray = true) (hQ : ∀ c a a' w, Q (.panic c) a w → Q (.panic c) a' w) (K : Act → Prop) (fuel : Nat) (S : World → Prop) (w : World) (L l0 : Array Bool) (e : Nat)
    (hfin : exact = true → Region.ready md l.toArray L = [e]) (hsz : exact = true → L.size = l.toArray.size) (hnew : exact = true → ∀ j, L.getD j false = true → l0.getD j false = false → R.contains j = true)
    (hK : ∀ a, Closed md l.toArray L → K a → wpAnyE P md l.toArray Q R fuel S L a w) :
    ∀ (qs : List Nat) (listed : Array Bool) (a : Act), (∀ k ∈ qs, k ∈ R ∧ ∀ o, l[k]? = some o → exact = true → needS o = true → waitsT md l.toArray l.toArray.size e k = true) → (exact = false → (qs.any fun k => match l[k]? with | some o => needS o | none => false) = true → S w) → Closed md l.toArray listed → Within l0 listed → setAll qs listed = L → readsD md l.toArray qs listed = true → wpReadD P l (fun W => if exact = true then W = w else S W) K qs a → wpAnyE P md l.toArray Q R (qs.length + fuel) S listed a w
  | [], listed, a, _, _, inv, _, he, _, h => by
    have he' : listed = L := he
    subst he'
    rw [show [].length + fuel = fuel from Nat.zero_add _]
    exact hK a inv h
  | i :: qs, listed, a, hR, hS, inv, hw0, he, hB, h => by
    simp only [readsD, Bool.and_eq_true] at hB
    obtain ⟨⟨hr, hf⟩, hB'⟩ := hB
    obtain ⟨o, v, ho, hy, hrest⟩ := h
    have hoi : l.toArray[i]? = some o := by simpa using ho
    have hr' : i ∈ Region.ready md l.toArray listed := by simpa using hr
    have ih := wpAnyE_reads exact hsel hQ K fuel S w L l0 e hfin hsz hnew hK qs (listed.setIfInBounds i true) (a.put o.dst v) (fun k hk => hR k (List.mem_cons_of_mem _ hk)) (fun hx hq => hS hx (by rw [List.any_cons, hq, Bool.or_true])) (inv.set hr') (fun k hk => getD_set_true (hw0 k hk)) he hB' hrest
    have hwf : Within listed L := by rw [← he]; exact within_setAll (i :: qs) listed
    have := wpAnyE_first (P := P) (R := R) exact (hR i (by simp)).1 hoi (Region.noSelect_spec hsel) (fun c a w h => hQ c _ _ w h) hfin hsz ((hR i (by simp)).2 o ho) hnew (qs.length + fuel) S listed a w inv (fun _ _ => ⟨hw0, hwf⟩) (Region.free_spec hoi hf) hr' hy (fun hx hn => hS hx (by simp [ho, hn])) ih
    rw [show (i :: qs).length + fuel = qs.length + fuel + 1 by simp only [List.length_cons]; omega]
    exact this

theorem wpReadD_same {S T : World → Prop} (h : ∀ W, T W → S W) {K : Act → Prop} : ∀ (qs : List Nat) (a : Act), wpReadD P l S K qs a → wpReadD P l T K qs a
  | [], _, hk => hk
  | i :: qs, a, hk => by
    obtain ⟨o, v, ho, hy, hrest⟩ := hk
    exact ⟨o, v, ho, YieldsIf.weak hy (fun W hW hn => h W (hW hn)), wpReadD_same h qs _ hrest⟩

theorem wpAnyE_planM (hsel : Region.noSelect l.toArray = true) (hQ : ∀ c a a' w, Q (.panic c) a w → Q (.panic c) a' w) :
    ∀ (plan : List (List Nat × List Nat × Nat × Bool)) (S : World → Prop) (listed : Array Bool) (a : Act) (w : World), listed.size = l.toArray.size → Closed md l.toArray listed → planM md l.toArray R plan listed = true → wpPlanM P l Q plan S a w → wpAnyE P md l.toArray Q R (planMLen plan) S listed a w
  | [], S, listed, a, w, _, _, hB, h => ⟨by simpa [planM] using hB, h⟩
  | (qs, xs, i, d) :: rest, S, listed, a, w, hsz, inv, hB, h => by
    simp only [planM, Bool.and_eq_true, decide_eq_true_eq] at hB
    obtain ⟨⟨⟨⟨⟨⟨⟨hB1, hB1x⟩, hB2⟩, hB3⟩, hBn⟩, hBR⟩, hBX⟩, hB4⟩ := hB
    obtain ⟨hS, hread⟩ := h
    rw [show planMLen ((qs, xs, i, d) :: rest) = qs.length + (xs.length + (planMLen rest + 1)) from rfl]
    have hRx : ∀ k ∈ xs, k ∈ R ∧ ∀ o, l[k]? = some o → true = true → needS o = true → waitsT md l.toArray l.toArray.size i k = true := fun k hk => by
      have := List.all_eq_true.1 hBX k hk
      simp only [Bool.and_eq_true, Bool.or_eq_true] at this
      refine ⟨by simpa using this.1, fun o ho _ hn => ?_⟩
      have h2 := this.2
      have hoi : l.toArray[k]? = some o := by simpa using ho
      rw [hoi] at h2
      simpa [hn] using h2
    refine wpAnyE_reads false hsel hQ (fun a' => wpReadD P l (fun W => W = w) (fun a'' => wpOp P l.toArray Q i (fun a3 w3 => ∃ S' : World → Prop, (∀ W, S' W → S W) ∧ (d = true → S' w3) ∧ wpPlanM P l Q rest S' a3 w3) a'' w) xs a') (xs.length + (planMLen rest + 1)) S w (setAll qs listed) listed i (fun h => by cases h) (fun h => by cases h) (fun h => by cases h) ?_ qs listed a (fun k hk => ⟨by simpa using List.all_eq_true.1 hBR k hk, fun _ _ h => by cases h⟩) (fun _ => hS) inv (fun _ h => h) rfl hB1 (wpReadD_same (fun W h => by simpa using h) qs a hread)
    intro a' inv' hx
    refine wpAnyE_reads true hsel hQ (fun a'' => wpOp P l.toArray Q i (fun a3 w3 => ∃ S' : World → Prop, (∀ W, S' W → S W) ∧ (d = true → S' w3) ∧ wpPlanM P l Q rest S' a3 w3) a'' w) (planMLen rest + 1) S w (setAll xs (setAll qs listed)) (setAll qs listed) i (fun _ => hB2) (fun _ => by rw [size_setAll, size_setAll]; exact hsz) (fun _ j h1 h0 => by simpa using (hRx j (new_setAll xs _ j h1 h0)).1) ?_ xs (setAll qs listed) a' hRx (fun h => by cases h) inv' (fun _ h => h) rfl hB1x (wpReadD_same (fun W h => by simpa using h) xs a' hx)
    intro a' inv' hop
    refine ⟨fun h0 => (by rw [hB2] at h0; cases h0), fun j hj => ?_⟩
    have hj' := hj
    rw [hB2] at hj
    obtain rfl : j = i := by simpa using hj
    refine wpOp_mono (fun a'' w'' hp => ?_) hop
    obtain ⟨S', hSS, hS', hrest⟩ := hp
    exact ⟨S', hSS, ⟨fun hc => (by rw [hc] at hBn; cases hBn), fun _ hdj => hS' (by simpa [hdj] using hB3)⟩, wpAnyE_planM hsel hQ rest S' _ a'' w'' (by rw [Array.size_setIfInBounds, size_setAll, size_setAll]; exact hsz) (inv'.set hj') hB4 hrest⟩

/-- **A region that draws its order, by a plan of reads wherever S holds and reads in the world at hand.** -/
theorem wp_region_planM {id : Nat} {a : Act} {w : World} (S : World → Prop) (plan : List (List Nat × List Nat × Nat × Bool)) (hm : P.follows .mixedOrders = true) (hB : planMAll l plan = true)
    (h : wpPlanM P l (NoPanic Q) plan S a w.drew) : (Code.region id l.toArray true).wp P Q a w := by
  simp only [planMAll, Bool.and_eq_true, decide_eq_true_eq] at hB
  obtain ⟨⟨hsel, hp⟩, hlen⟩ := hB
  refine wp_region_noPanic (wp_region_any hm (wpAny_of_E (R := planMReads plan) _ S _ _ _ ?_))
  have inv0 : Closed .any l.toArray (Array.replicate l.toArray.size false) := fun j oj _ hl => (by rw [getD_replicate_false] at hl; cases hl)
  have := wpAnyE_planM (P := P) (Q := NoPanic Q) (R := planMReads plan) (md := .any) hsel (fun c a a' w h => h) plan S (Array.replicate l.toArray.size false) a w.drew (by simp) inv0 hp h
  rw [hlen] at this
  exact this
end

end Go.Proofs.Ytddpjfmogjcimaa
