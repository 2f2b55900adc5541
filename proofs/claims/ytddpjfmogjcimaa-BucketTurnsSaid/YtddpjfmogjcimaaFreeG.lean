/- A region that draws its order, operation by operation, with an invariant over what has been done and what it left. -/
import Derived.Test.YtddpjfmogjcimaaFree
namespace Go.Proofs.Ytddpjfmogjcimaa
open Go

section
variable {P : Program} {ops : Array Oper} {Q : Exit → Act → World → Prop} {md : Region.Mode}

def setD (D : Nat → Bool) (i : Nat) : Nat → Bool := fun k => k == i || D k
def setV (vals : Nat → Value) (i : Nat) (v : Value) : Nat → Value := fun k => if k = i then v else vals k

theorem wpAny_freeG (I : (Nat → Bool) → (Nat → Value) → World → Prop) (a0 : Act) (hB : freeB md ops = true) (hQ : ∀ c a a' w, Q (.panic c) a w → Q (.panic c) a' w)
    (hO : ∀ i o, ops[i]? = some o → ∀ D vals w, I D vals w → D i = false → (∀ j ∈ closeOf md ops i, D j = true) → wpOp P ops Q i (Leaves o (putsOf ops vals (closeOf md ops i) a0) (fun v w' => I (setD D i) (setV vals i v) w')) (putsOf ops vals (closeOf md ops i) a0) w)
    (hE : ∀ D vals w, I D vals w → (∀ j, j < ops.size → D j = true) → Q .normal (putsOf ops vals (List.range ops.size) a0) w) :
    ∀ (fuel : Nat) (listed : Array Bool) (L : List Nat) (D : Nat → Bool) (vals : Nat → Value) (w : World), Came md ops listed L → (∀ j, D j = true ↔ j ∈ L) → I D vals w → L.length + fuel = ops.size → wpAny P md ops Q fuel listed (putsOf ops vals L a0) w := by
  have hdone : ∀ (listed : Array Bool) (L : List Nat) (D : Nat → Bool) (vals : Nat → Value) (w : World), Came md ops listed L → (∀ j, D j = true ↔ j ∈ L) → I D vals w → Region.ready md ops listed = [] → Q .normal (putsOf ops vals L a0) w := by
    intro listed L D vals w hc hD hI hr
    have hp := hc.all hB hr
    rw [putsOf_perm (freeB_apart hB) hp]
    exact hE D vals w hI (fun j hj => (hD j).2 (hp.mem_iff.2 (List.mem_range.2 hj)))
  have hsel : Region.noSelect ops = true := by
    simp only [freeB, Bool.and_eq_true] at hB
    exact hB.1
  intro fuel
  induction fuel with
  | zero =>
    intro listed L D vals w hc hD hI hl
    have hr := hc.none (by omega)
    exact ⟨hr, hdone listed L D vals w hc hD hI hr⟩
  | succ fuel ih =>
    intro listed L D vals w hc hD hI hl
    refine ⟨fun hr => hdone listed L D vals w hc hD hI hr, fun i hi => ?_⟩
    obtain ⟨hun, o, ho, hall⟩ := mem_ready.1 hi
    have hni : i ∉ L := fun h => by
      have := (hc.mem i).1 h
      rw [getD_both hun] at this
      cases this
    have hDi : D i = false := by
      cases h : D i
      · rfl
      · exact absurd ((hD i).1 h) hni
    have hcl : ∀ j, waitsT md ops ops.size i j = true → j < ops.size → j ∈ L := fun j hj hjl => by
      rw [hc.mem]
      cases hg : listed.getD j false
      · have := waitsT_no hc.closed (getD_in (by rw [hc.size]; exact hjl) hg) ops.size i (fun oj hoj e he hb => by
          have : oj = o := Option.some.inj (hoj.symm.trans ho)
          subst this
          exact hall e he hb)
        rw [this] at hj
        cases hj
      · rfl
    have hback : ∀ k ∈ L, waitsT md ops ops.size k i = false := fun k hk =>
      waitsT_no hc.closed hun ops.size k (fun ok hok e he hb => hc.closed k ok hok ((hc.mem k).1 hk) e he hb)
    have hp : (closeOf md ops i ++ L.filter (fun j => !(closeOf md ops i).contains j)).Perm L := by
      have h1 := filter_perm (n := ops.size) hc.nd (fun j => (closeOf md ops i).contains j) (fun j hj => by
        have hm : j ∈ closeOf md ops i := by simpa using hj
        simp only [closeOf, List.mem_filter, List.mem_range] at hm
        exact ⟨hm.1, hcl j hm.2 hm.1⟩)
      have h2 : ((List.range ops.size).filter fun j => (closeOf md ops i).contains j).Perm (closeOf md ops i) := by
        refine (List.perm_ext_iff_of_nodup (List.Pairwise.filter _ List.nodup_range) (List.Pairwise.filter _ List.nodup_range)).2 (fun j => ?_)
        simp only [List.mem_filter, List.mem_range, List.contains_eq_mem, decide_eq_true_eq, closeOf]
        exact ⟨fun h => h.2, fun h => ⟨h.1, h⟩⟩
      exact (h2.symm.append_right _).trans h1
    have hCL : ∀ j ∈ closeOf md ops i, j ∈ L := fun j hj => hp.mem_iff.1 (List.mem_append_left _ hj)
    have hob := hO i o ho D vals w hI hDi (fun j hj => (hD j).2 (hCL j hj))
    have heq := putsOf_perm (vals := vals) (freeB_apart hB) hp a0
    rw [putsOf_append] at heq
    have hsame := execOp_puts (ops := ops) o (fun cs b => Region.noSelect_spec hsel i o cs b ho) vals (L.filter (fun j => !(closeOf md ops i).contains j)) (putsOf ops vals (closeOf md ops i) a0) (fun k hk d hd => by
      rw [List.mem_filter] at hk
      have hkl := hc.lt hk.1
      refine (freeB_dst hB ho hkl (show i ≠ k from fun e => hni (by rw [e]; exact hk.1)) hd).2 ?_ (hback k hk.1)
      cases hw : waitsT md ops ops.size i k
      · rfl
      · exfalso
        have : k ∈ closeOf md ops i := by
          simp only [closeOf, List.mem_filter, List.mem_range]
          exact ⟨hkl, hw⟩
        simp [this] at hk)
    rw [heq] at hsame
    have hmove := wpOp_same (P := P) (Q := Q) ho (by rw [putsOf_size, putsOf_size]) hsame.1 hsame.2 hQ hob
    refine wpOp_mono (fun a' w' hK => ?_) hmove
    obtain ⟨v, rfl, hI'⟩ := hK
    have hc' := hc.add hi
    have hval : (putsOf ops vals L a0).put o.dst v = putsOf ops (setV vals i v) (L ++ [i]) a0 := by
      have hcg : putsOf ops vals L a0 = putsOf ops (setV vals i v) L a0 := putsOf_congr L a0 (fun j hj => by
        unfold setV
        rw [if_neg (show ¬ j = i from fun e => hni (by rw [← e]; exact hj))])
      rw [putsOf_append, ← hcg]
      simp [putsOf, dstOf, ho, setV]
    rw [hval]
    refine ih _ (L ++ [i]) (setD D i) _ w' hc' (fun j => ?_) hI' (by rw [List.length_append, List.length_singleton]; omega)
    unfold setD
    rw [Bool.or_eq_true, beq_iff_eq, hD j, List.mem_append, List.mem_singleton]
    exact Or.comm
end

section
variable {P : Program} {l : List Oper} {Q : Exit → Act → World → Prop}

/-- What each operation owes, over an invariant. -/
def gObs (P : Program) (l : List Oper) (Q : Exit → Act → World → Prop) (I : (Nat → Bool) → (Nat → Value) → World → Prop) (a : Act) : Nat → List (List Nat) → List Oper → Prop
  | k, c :: cs, o :: os => (∀ D vals w, I D vals w → D k = false → (∀ j ∈ c, D j = true) → wpOp P l.toArray (NoPanic Q) k (Leaves o (putsOf l.toArray vals c a) (fun v w' => I (setD D k) (setV vals k v) w')) (putsOf l.toArray vals c a) w) ∧ gObs P l Q I a (k + 1) cs os
  | _, _, _ => True
variable {I : (Nat → Bool) → (Nat → Value) → World → Prop} {a : Act}
theorem gObs_cons {k : Nat} {c : List Nat} {cs : List (List Nat)} {o : Oper} {os : List Oper} (h1 : ∀ D vals w, I D vals w → D k = false → (∀ j ∈ c, D j = true) → wpOp P l.toArray (NoPanic Q) k (Leaves o (putsOf l.toArray vals c a) (fun v w' => I (setD D k) (setV vals k v) w')) (putsOf l.toArray vals c a) w) (h2 : gObs P l Q I a (k + 1) cs os) : gObs P l Q I a k (c :: cs) (o :: os) := ⟨h1, h2⟩
theorem gObs_nil {k : Nat} : gObs P l Q I a k [] [] := trivial
theorem gObs_at : ∀ (os : List Oper) (cs : List (List Nat)) (k : Nat), gObs P l Q I a k cs os → ∀ i o c, os[i]? = some o → cs[i]? = some c → ∀ D vals w, I D vals w → D (k + i) = false → (∀ j ∈ c, D j = true) → wpOp P l.toArray (NoPanic Q) (k + i) (Leaves o (putsOf l.toArray vals c a) (fun v w' => I (setD D (k + i)) (setV vals (k + i) v) w')) (putsOf l.toArray vals c a) w
  | [], _, _, _, i, o, c, ho, _ => by simp at ho
  | _ :: _, [], _, _, i, o, c, _, hc => by simp at hc
  | o' :: os, c' :: cs, k, h, 0, o, c, ho, hc => by
    simp only [List.getElem?_cons_zero, Option.some.injEq] at ho hc
    subst ho hc
    exact h.1
  | o' :: os, c' :: cs, k, h, i + 1, o, c, ho, hc => by
    have := gObs_at os cs (k + 1) h.2 i o c (by simpa using ho) (by simpa using hc)
    rwa [show k + 1 + i = k + (i + 1) by omega] at this

/-- **A region that draws its order, over an invariant of what is done and what it left.** -/
theorem wp_region_ghost {id : Nat} {a : Act} {w : World} (I : (Nat → Bool) → (Nat → Value) → World → Prop) (C : List (List Nat)) (hm : P.follows .mixedOrders = true) (hB : freeAllC l C = true)
    (h0 : ∀ vals, I (fun _ => false) vals w.drew) (hO : gObs P l Q I a 0 C l)
    (hE : ∀ D vals w, I D vals w → (∀ j, j < l.toArray.size → D j = true) → NoPanic Q .normal (putsOf l.toArray vals (List.range l.toArray.size) a) w) : (Code.region id l.toArray true).wp P Q a w := by
  simp only [freeAllC, Bool.and_eq_true, decide_eq_true_eq] at hB
  refine wp_region_noPanic (wp_region_any hm ?_)
  have inv0 : Came .any l.toArray (Array.replicate l.toArray.size false) [] :=
    ⟨List.nodup_nil, fun j => ⟨fun h => (by cases h), fun h => (by rw [getD_replicate_false] at h; cases h)⟩, by simp, fun j oj _ hl => (by rw [getD_replicate_false] at hl; cases hl)⟩
  refine wpAny_freeG (P := P) (Q := NoPanic Q) (md := .any) I a hB.1 (fun c a a' w h => h) (fun i o ho => ?_) hE l.toArray.size _ [] (fun _ => false) (fun _ => undef) w.drew inv0 (fun j => by simp) (h0 _) (by simp)
  have hi : i < l.toArray.size := by
    rcases Nat.lt_or_ge i l.toArray.size with h | h
    · exact h
    · rw [Array.getElem?_eq_none h] at ho; cases ho
  have hc : C[i]? = some (closeOf .any l.toArray i) := by
    rw [← hB.2]
    simp only [List.getElem?_map, List.getElem?_range hi, Option.map_some]
  have := gObs_at l C 0 hO i o _ (by simpa using ho) hc
  rwa [Nat.zero_add] at this
/-- With what the listed operations have left. -/
def givenV (ops : Array Oper) (F : Nat → Value → Prop) (vals : Nat → Value) (K : Act → Prop) : List Nat → Act → Prop
  | [], a => K a
  | j :: js, a => ∀ v, F j v → vals j = v → givenV ops F vals K js (a.put (dstOf ops j) v)
theorem givenV_puts {ops : Array Oper} {F : Nat → Value → Prop} {vals : Nat → Value} {K : Act → Prop} : ∀ (L : List Nat) (a : Act), (∀ j ∈ L, F j (vals j)) → givenV ops F vals K L a → K (putsOf ops vals L a)
  | [], _, _, h => h
  | j :: L, a, hF, h => givenV_puts L (a.put (dstOf ops j) (vals j)) (fun k hk => hF k (List.mem_cons_of_mem _ hk)) (h (vals j) (hF j (by simp)) rfl)
theorem givenV_step {F : Nat → Value → Prop} {vals : Nat → Value} {K : Act → Prop} {j : Nat} {js : List Nat} {o : Oper} {a : Act} (ho : l[j]? = some o) (h : ∀ v, F j v → vals j = v → givenV l.toArray F vals K js (a.put o.dst v)) : givenV l.toArray F vals K (j :: js) a := by
  have : dstOf l.toArray j = o.dst := by simp [dstOf, ho]
  intro v hv he
  rw [this]
  exact h v hv he
theorem givenV_nil {ops : Array Oper} {F : Nat → Value → Prop} {vals : Nat → Value} {K : Act → Prop} {a : Act} (h : K a) : givenV ops F vals K [] a := h

def fgObs (P : Program) (l : List Oper) (Q : Exit → Act → World → Prop) (F : Nat → Value → Prop) (G : (Nat → Bool) → (Nat → Value) → World → Prop) (a : Act) : Nat → List (List Nat) → List Oper → Prop
  | k, c :: cs, o :: os => (∀ D vals w, G D vals w → D k = false → (∀ j ∈ c, D j = true) → givenV l.toArray F vals (fun a' => wpOp P l.toArray (NoPanic Q) k (Leaves o a' (fun v w' => F k v ∧ G (setD D k) (setV vals k v) w')) a' w) c a) ∧ fgObs P l Q F G a (k + 1) cs os
  | _, _, _ => True
variable {F : Nat → Value → Prop} {G : (Nat → Bool) → (Nat → Value) → World → Prop}
theorem fgObs_cons {k : Nat} {c : List Nat} {cs : List (List Nat)} {o : Oper} {os : List Oper} (h1 : ∀ D vals w, G D vals w → D k = false → (∀ j ∈ c, D j = true) → givenV l.toArray F vals (fun a' => wpOp P l.toArray (NoPanic Q) k (Leaves o a' (fun v w' => F k v ∧ G (setD D k) (setV vals k v) w')) a' w) c a) (h2 : fgObs P l Q F G a (k + 1) cs os) : fgObs P l Q F G a k (c :: cs) (o :: os) := ⟨h1, h2⟩
theorem fgObs_nil {k : Nat} : fgObs P l Q F G a k [] [] := trivial
theorem wpOp_leaves {i : Nat} {o : Oper} {a : Act} {w : World} {T U : Value → World → Prop} (hTU : ∀ v w', T v w' → U v w') (h : wpOp P l.toArray (NoPanic Q) i (Leaves o a T) a w) : wpOp P l.toArray (NoPanic Q) i (Leaves o a U) a w :=
  wpOp_mono (fun a' w' hK => by obtain ⟨v, e, ht⟩ := hK; exact ⟨v, e, hTU v w' ht⟩) h
theorem gObs_of_fg : ∀ (cs : List (List Nat)) (os : List Oper) (k : Nat), fgObs P l Q F G a k cs os → gObs P l Q (fun D vals w => (∀ j, D j = true → F j (vals j)) ∧ G D vals w) a k cs os
  | [], [], _, _ => trivial
  | [], _ :: _, _, _ => trivial
  | _ :: _, [], _, _ => trivial
  | c :: cs, o :: os, k, h => ⟨fun D vals w hI hD hc => wpOp_leaves (fun v w' ht => ⟨fun j hj => by
      unfold setD at hj
      unfold setV
      by_cases e : j = k
      · rw [if_pos e, e]
        exact ht.1
      · rw [if_neg e]
        have : (j == k) = false := by simpa using e
        rw [this, Bool.false_or] at hj
        exact hI.1 j hj, ht.2⟩) (givenV_puts (K := fun a' => wpOp P l.toArray (NoPanic Q) k (Leaves o a' (fun v w' => F k v ∧ G (setD D k) (setV vals k v) w')) a' w) c a (fun j hj => hI.1 j (hc j hj)) (h.1 D vals w hI.2 hD hc)), gObs_of_fg cs os (k + 1) h.2⟩

/-- **A region that draws its order: F: what each operation's value is; G: how the world stands, by what is done.** -/
theorem wp_region_FG {id : Nat} {a : Act} {w : World} (F : Nat → Value → Prop) (G : (Nat → Bool) → (Nat → Value) → World → Prop) (C : List (List Nat)) (hm : P.follows .mixedOrders = true) (hB : freeAllC l C = true)
    (h0 : ∀ vals, G (fun _ => false) vals w.drew) (hO : fgObs P l Q F G a 0 C l)
    (hE : ∀ D vals w, G D vals w → (∀ j, j < l.toArray.size → D j = true) → givenV l.toArray F vals (fun a => Q .normal a w) (List.range l.toArray.size) a) : (Code.region id l.toArray true).wp P Q a w :=
  wp_region_ghost (fun D vals w => (∀ j, D j = true → F j (vals j)) ∧ G D vals w) C hm hB (fun vals => ⟨fun j hj => (by cases hj), h0 vals⟩) (gObs_of_fg C l 0 hO)
    (fun D vals w hI hD => givenV_puts (K := fun a => NoPanic Q .normal a w) _ a (fun j hj => hI.1 j (hD j (List.mem_range.1 hj))) (hE D vals w hI.2 hD))
theorem puts_nil {ops : Array Oper} {vals : Nat → Value} {a : Act} : putsOf ops vals [] a = a := rfl
theorem puts_cons {vals : Nat → Value} {j : Nat} {L : List Nat} {a : Act} {o : Oper} (ho : l[j]? = some o) : putsOf l.toArray vals (j :: L) a = putsOf l.toArray vals L (a.put o.dst (vals j)) := by
  simp [putsOf, dstOf, ho]
end

end Go.Proofs.Ytddpjfmogjcimaa
