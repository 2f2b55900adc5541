/- A region that draws its order, of any size: a certificate says whom each operation waits for, and what it looks at. -/
import Derived.Test.YtddpjfmogjcimaaFreeG
import Derived.Test.YtddpjfmogjcimaaMem
namespace Go.Proofs.Ytddpjfmogjcimaa
open Go

section
variable {P : Program} {ops : Array Oper} {Q : Exit → Act → World → Prop} {md : Region.Mode} {M : List Nat} {C : List (List Nat)}

/-- Bit j of row i. -/
def bitL (M : List Nat) (i j : Nat) : Bool := (M.getD i 0).testBit j
/-- One operation's part: its waits lie ahead; its row of M is what they and theirs are; what lands in what it looks at is listed, or waits for it. -/
def needAt (md : Region.Mode) (ops : Array Oper) (M : List Nat) (C : List (List Nat)) (i : Nat) (o : Oper) : Bool :=
  o.after.all (fun e => !Region.binds md e || decide (e.on < i)) &&
  (List.range ops.size).all (fun j => !bitL M i j || o.after.any (fun e => Region.binds md e && (e.on == j || bitL M e.on j))) &&
  (List.range ops.size).all (fun j => i == j || (match dstOf ops j with
    | none => true
    | some d => !(o.dst == some d) && (!(o.looksAt ops).contains d || (C.getD i []).contains j || bitL M j i))) &&
  (C.getD i []).all (fun j => decide (j < ops.size) && bitL M i j) && decide (C.getD i []).Nodup
def needB (md : Region.Mode) (ops : Array Oper) (M : List Nat) (C : List (List Nat)) : Bool :=
  Region.noSelect ops && C.length == ops.size &&
  (List.range ops.size).all (fun i => match ops[i]? with
    | none => true
    | some o => needAt md ops M C i o)

theorem needB_at (h : needB md ops M C = true) {i : Nat} {o : Oper} (ho : ops[i]? = some o) : needAt md ops M C i o = true := by
  simp only [needB, Bool.and_eq_true, List.all_eq_true, List.mem_range] at h
  have hi : i < ops.size := by
    rcases Nat.lt_or_ge i ops.size with h | h
    · exact h
    · rw [Array.getElem?_eq_none h] at ho; cases ho
  have h1 := h.2 i hi
  rw [ho] at h1
  exact h1
theorem needB_len (h : needB md ops M C = true) : C.length = ops.size := by
  simp only [needB, Bool.and_eq_true, beq_iff_eq] at h
  exact h.1.2
theorem needB_sel (h : needB md ops M C = true) : Region.noSelect ops = true := by
  simp only [needB, Bool.and_eq_true] at h
  exact h.1.1
theorem need_after (h : needB md ops M C = true) {i : Nat} {o : Oper} (ho : ops[i]? = some o) : ∀ e ∈ o.after, Region.binds md e = true → e.on < i := by
  have h1 := needB_at h ho
  simp only [needAt, Bool.and_eq_true] at h1
  intro e he hb
  have h2 := Array.all_eq_true'.1 h1.1.1.1.1 e he
  simpa [hb] using h2
theorem need_row (h : needB md ops M C = true) {i j : Nat} {o : Oper} (ho : ops[i]? = some o) (hj : j < ops.size) (hb : bitL M i j = true) : ∃ e ∈ o.after, Region.binds md e = true ∧ (e.on = j ∨ bitL M e.on j = true) := by
  have h1 := needB_at h ho
  simp only [needAt, Bool.and_eq_true, List.all_eq_true, List.mem_range] at h1
  have h2 := h1.1.1.1.2 j hj
  rw [hb, Bool.not_true, Bool.false_or] at h2
  obtain ⟨e, he, h3⟩ := Array.any_eq_true'.1 h2
  rw [Bool.and_eq_true, Bool.or_eq_true, beq_iff_eq] at h3
  exact ⟨e, he, h3⟩
theorem need_dst (h : needB md ops M C = true) {i j : Nat} {o : Oper} {d : Tmp} (ho : ops[i]? = some o) (hj : j < ops.size) (hij : i ≠ j) (hd : dstOf ops j = some d) : o.dst ≠ some d ∧ (d ∈ o.looksAt ops → j ∉ C.getD i [] → bitL M j i = true) := by
  have h1 := needB_at h ho
  simp only [needAt, Bool.and_eq_true, List.all_eq_true, List.mem_range] at h1
  have h2 := h1.1.1.2 j hj
  rw [hd] at h2
  have hne : (i == j) = false := by simpa using hij
  rw [hne, Bool.false_or] at h2
  simp only [Bool.and_eq_true] at h2
  refine ⟨by simpa using h2.1, fun h3 h4 => ?_⟩
  have := h2.2
  rw [Bool.or_eq_true, Bool.or_eq_true] at this
  rcases this with (h5 | h5) | h5
  · simp [h3] at h5
  · exact absurd (by simpa using h5) h4
  · exact h5
theorem need_mem (h : needB md ops M C = true) {i j : Nat} {o : Oper} (ho : ops[i]? = some o) (hj : j ∈ C.getD i []) : j < ops.size ∧ bitL M i j = true := by
  have h1 := needB_at h ho
  simp only [needAt, Bool.and_eq_true, List.all_eq_true, List.mem_range] at h1
  have h2 := h1.1.2 j hj
  simpa using h2
theorem need_nodup (h : needB md ops M C = true) {i : Nat} {o : Oper} (ho : ops[i]? = some o) : (C.getD i []).Nodup := by
  have h1 := needB_at h ho
  simp only [needAt, Bool.and_eq_true] at h1
  exact of_decide_eq_true h1.2
theorem need_apart (h : needB md ops M C = true) : ∀ i j d, i ≠ j → dstOf ops i = some d → dstOf ops j ≠ some d := by
  intro i j d hij hd hj
  have hjl := dstOf_lt hj
  have ho : ops[j]? = some ops[j] := Array.getElem?_eq_getElem hjl
  have h1 := (need_dst h ho (dstOf_lt hd) (Ne.symm hij) hd).1
  rw [dstOf, ho] at hj
  exact h1 hj
/-- All that is waited for is listed. -/
theorem need_closed (h : needB md ops M C = true) {listed : Array Bool} (hs : listed.size = ops.size) (hc : Closed md ops listed) : ∀ (i : Nat) (o : Oper), ops[i]? = some o → (∀ e ∈ o.after, Region.binds md e = true → listed.getD e.on false = true) → ∀ j, j < ops.size → bitL M i j = true → listed.getD j false = true := by
  intro i
  induction i using Nat.strongRecOn with
  | ind i ih =>
    intro o ho hall j hj hb
    obtain ⟨e, he, hbe, hej⟩ := need_row h ho hj hb
    have hl := hall e he hbe
    rcases hej with rfl | hej
    · exact hl
    · have hlt : e.on < ops.size := by
        rcases Nat.lt_or_ge e.on listed.size with h' | h'
        · rw [← hs]; exact h'
        · simp [Array.getElem?_eq_none h'] at hl
      have ho' : ops[e.on]? = some ops[e.on] := Array.getElem?_eq_getElem hlt
      exact ih e.on (need_after h ho e he hbe) _ ho' (hc e.on _ ho' hl) j hj hej
theorem Came.all' {listed : Array Bool} {L : List Nat} (h : Came md ops listed L) (hB : needB md ops M C = true) (hr : Region.ready md ops listed = []) : L.Perm (List.range ops.size) := by
  have key : ∀ j, j < ops.size → listed.getD j false = true := by
    intro j
    induction j using Nat.strongRecOn with
    | ind j ih =>
      intro hj
      cases hl : listed.getD j false
      · exfalso
        have ho : ops[j]? = some ops[j] := Array.getElem?_eq_getElem hj
        have : j ∈ Region.ready md ops listed := mem_ready.2 ⟨getD_in (by rw [h.size]; exact hj) hl, _, ho, fun e he hb => ih e.on (need_after hB ho e he hb) (Nat.lt_trans (need_after hB ho e he hb) hj)⟩
        rw [hr] at this
        cases this
      · rfl
  refine (List.perm_ext_iff_of_nodup h.nd List.nodup_range).2 (fun j => ?_)
  rw [List.mem_range]
  exact ⟨h.lt, fun hj => (h.mem j).2 (key j hj)⟩

theorem wpAny_needG (I : (Nat → Bool) → (Nat → Value) → World → Prop) (a0 : Act) (hB : needB md ops M C = true) (hQ : ∀ c a a' w, Q (.panic c) a w → Q (.panic c) a' w)
    (hO : ∀ i o, ops[i]? = some o → ∀ D vals w, I D vals w → D i = false → (∀ j, j < ops.size → bitL M i j = true → D j = true) → wpOp P ops Q i (Leaves o (putsOf ops vals (C.getD i []) a0) (fun v w' => I (setD D i) (setV vals i v) w')) (putsOf ops vals (C.getD i []) a0) w)
    (hE : ∀ D vals w, I D vals w → (∀ j, j < ops.size → D j = true) → Q .normal (putsOf ops vals (List.range ops.size) a0) w) :
    ∀ (fuel : Nat) (listed : Array Bool) (L : List Nat) (D : Nat → Bool) (vals : Nat → Value) (w : World), Came md ops listed L → (∀ j, D j = true ↔ j ∈ L) → I D vals w → L.length + fuel = ops.size → wpAny P md ops Q fuel listed (putsOf ops vals L a0) w := by
  have hdone : ∀ (listed : Array Bool) (L : List Nat) (D : Nat → Bool) (vals : Nat → Value) (w : World), Came md ops listed L → (∀ j, D j = true ↔ j ∈ L) → I D vals w → Region.ready md ops listed = [] → Q .normal (putsOf ops vals L a0) w := by
    intro listed L D vals w hc hD hI hr
    have hp := hc.all' hB hr
    rw [putsOf_perm (need_apart hB) hp]
    exact hE D vals w hI (fun j hj => (hD j).2 (hp.mem_iff.2 (List.mem_range.2 hj)))
  have hnone : ∀ (listed : Array Bool) (L : List Nat), Came md ops listed L → L.length = ops.size → Region.ready md ops listed = [] := fun listed L h hl => h.none hl
  have hsel := needB_sel hB
  intro fuel
  induction fuel with
  | zero =>
    intro listed L D vals w hc hD hI hl
    have hr := hnone listed L hc (by omega)
    exact ⟨hr, hdone listed L D vals w hc hD hI hr⟩
  | succ fuel ih =>
    intro listed L D vals w hc hD hI hl
    refine ⟨fun hr => hdone listed L D vals w hc hD hI hr, fun i hi => ?_⟩
    obtain ⟨hun, o, ho, hall⟩ := mem_ready.1 hi
    have hni : i ∉ L := fun h => by
      have := (hc.mem i).1 h
      rw [getD_both hun] at this
      cases this
    have hDi : D i = false := by
      cases h : D i
      · rfl
      · exact absurd ((hD i).1 h) hni
    have hcl : ∀ j, j < ops.size → bitL M i j = true → j ∈ L := fun j hj hb => (hc.mem j).2 (need_closed hB hc.size hc.closed i o ho hall j hj hb)
    have hisz : i < ops.size := by
      rcases Nat.lt_or_ge i ops.size with h | h
      · exact h
      · rw [Array.getElem?_eq_none h] at ho; cases ho
    have hback : ∀ k ∈ L, bitL M k i = false := fun k hk => by
      cases hb : bitL M k i
      · rfl
      · have hkl := hc.lt hk
        have hok : ops[k]? = some ops[k] := Array.getElem?_eq_getElem hkl
        exact absurd ((hc.mem i).2 (need_closed hB hc.size hc.closed k _ hok (hc.closed k _ hok ((hc.mem k).1 hk)) i hisz hb)) hni
    have hCL : ∀ j ∈ C.getD i [], j ∈ L := fun j hj => by
      have := need_mem hB ho hj
      exact hcl j this.1 this.2
    have hp : (C.getD i [] ++ L.filter (fun j => !(C.getD i []).contains j)).Perm L := by
      have h1 := filter_perm (n := ops.size) hc.nd (fun j => (C.getD i []).contains j) (fun j hj => by
        have hm : j ∈ C.getD i [] := by simpa using hj
        exact ⟨(need_mem hB ho hm).1, hCL j hm⟩)
      have h2 : ((List.range ops.size).filter fun j => (C.getD i []).contains j).Perm (C.getD i []) := by
        refine (List.perm_ext_iff_of_nodup (List.Pairwise.filter _ List.nodup_range) (need_nodup hB ho)).2 (fun j => ?_)
        simp only [List.mem_filter, List.mem_range, List.contains_eq_mem, decide_eq_true_eq]
        exact ⟨fun h => h.2, fun h => ⟨(need_mem hB ho h).1, h⟩⟩
      exact (h2.symm.append_right _).trans h1
    have hob := hO i o ho D vals w hI hDi (fun j hj hb => (hD j).2 (hcl j hj hb))
    have heq := putsOf_perm (vals := vals) (need_apart hB) hp a0
    rw [putsOf_append] at heq
    have hsame := execOp_puts (ops := ops) o (fun cs b => Region.noSelect_spec hsel i o cs b ho) vals (L.filter (fun j => !(C.getD i []).contains j)) (putsOf ops vals (C.getD i []) a0) (fun k hk d hd => by
      rw [List.mem_filter] at hk
      have hkl := hc.lt hk.1
      intro hlook
      have := (need_dst hB ho hkl (show i ≠ k from fun e => hni (by rw [e]; exact hk.1)) hd).2 hlook (fun hm => by
        have h9 : (C.getD i []).contains k = true := by simpa using hm
        have h8 := hk.2
        rw [h9] at h8
        cases h8)
      rw [hback k hk.1] at this
      cases this)
    rw [heq] at hsame
    have hmove := wpOp_same (P := P) (Q := Q) ho (by rw [putsOf_size, putsOf_size]) hsame.1 hsame.2 hQ hob
    refine wpOp_mono (fun a' w' hK => ?_) hmove
    obtain ⟨v, rfl, hI'⟩ := hK
    have hc' := hc.add hi
    have hval : (putsOf ops vals L a0).put o.dst v = putsOf ops (setV vals i v) (L ++ [i]) a0 := by
      have hcg : putsOf ops vals L a0 = putsOf ops (setV vals i v) L a0 := putsOf_congr L a0 (fun j hj => by
        unfold setV
        rw [if_neg (show ¬ j = i from fun e => hni (by rw [← e]; exact hj))])
      rw [putsOf_append, ← hcg]
      simp [putsOf, dstOf, ho, setV]
    rw [hval]
    refine ih _ (L ++ [i]) (setD D i) _ w' hc' (fun j => ?_) hI' (by rw [List.length_append, List.length_singleton]; omega)
    unfold setD
    rw [Bool.or_eq_true, beq_iff_eq, hD j, List.mem_append, List.mem_singleton]
    exact Or.comm
end

section
variable {P : Program} {l : List Oper} {Q : Exit → Act → World → Prop} {M : List Nat} {C : List (List Nat)}
def needAll (l : List Oper) (M : List Nat) (C : List (List Nat)) : Bool := needB .any l.toArray M C

/-- **A region that draws its order, of any size, in which memory only grows: each operation for itself.** F: what each leaves, in every world behind; M, C: the certificate. -/
theorem wp_region_need {id : Nat} {a : Act} {w : World} (F : Nat → Value → World → Prop) (M : List Nat) (C : List (List Nat)) (hm : P.follows .mixedOrders = true) (hB : needAll l M C = true)
    (hF : ∀ j v W W', W.grownBy W' none → F j v W → F j v W')
    (hO : freeObs P l Q (fun W => w.grownBy W none) (fun W W' => W.grownBy W' none) F a 0 C l)
    (hE : ∀ W, w.grownBy W none → given l.toArray F W (fun a => Q .normal a W) (List.range l.toArray.size) a) : (Code.region id l.toArray true).wp P Q a w := by
  have hB' : needB .any l.toArray M C = true := hB
  refine wp_region_noPanic (wp_region_any hm ?_)
  have inv0 : Came .any l.toArray (Array.replicate l.toArray.size false) [] :=
    ⟨List.nodup_nil, fun j => ⟨fun h => (by cases h), fun h => (by rw [getD_replicate_false] at h; cases h)⟩, by simp, fun j oj _ hl => (by rw [getD_replicate_false] at hl; cases hl)⟩
  have hgr : ∀ {A B D : World}, A.grownBy B none → B.grownBy D none → A.grownBy D none := fun h k => ⟨k.os.trans h.os, k.tape.trans h.tape, k.output.trans h.output, Nat.le_trans h.size k.size, fun i hi hn => (k.block i (Nat.lt_of_lt_of_le hi h.size) hn).trans (h.block i hi hn)⟩
  refine wpAny_needG (P := P) (Q := NoPanic Q) (md := .any) (fun D vals W => w.grownBy W none ∧ ∀ j, D j = true → F j (vals j) W) a hB' (fun c a a' w h => h) (fun i o ho D vals W hI hD hC => ?_) (fun D vals W hI hD => ?_) l.toArray.size _ [] (fun _ => false) (fun _ => undef) w.drew inv0 (fun j => by simp) ⟨⟨rfl, rfl, rfl, Nat.le_refl _, fun _ _ _ => rfl⟩, fun j hj => by cases hj⟩ (by simp)
  · have hi : i < l.toArray.size := by
      rcases Nat.lt_or_ge i l.toArray.size with h | h
      · exact h
      · rw [Array.getElem?_eq_none h] at ho; cases ho
    have hc : C[i]? = some (C.getD i []) := by
      have : i < C.length := by rw [needB_len hB']; exact hi
      simp [List.getD, this]
    have hob := freeObs_at l C 0 hO i o _ (by simpa using ho) hc W hI.1
    rw [Nat.zero_add] at hob
    have hob2 := given_puts (K := fun a => wpOp P l.toArray (NoPanic Q) i (Leaves o a (fun v w' => W.grownBy w' none ∧ w.grownBy w' none ∧ F i v w')) a W) vals (C.getD i []) a (fun j hj => hI.2 j (by
      have := need_mem hB' ho hj
      exact hC j this.1 this.2)) hob
    refine wpOp_leaves (fun v w' ht => ⟨ht.2.1, fun j hj => ?_⟩) hob2
    unfold setD at hj
    unfold setV
    by_cases e : j = i
    · rw [if_pos e, e]
      exact ht.2.2
    · rw [if_neg e]
      have : (j == i) = false := by simpa using e
      rw [this, Bool.false_or] at hj
      exact hF j _ W w' ht.1 (hI.2 j hj)
  · exact given_puts (K := fun a => NoPanic Q .normal a W) vals _ a (fun j hj => hI.2 j (hD j (List.mem_range.1 hj))) (hE W hI.1)

/-- What each operation owes, with what is done at hand. -/
def ngObs (P : Program) (l : List Oper) (Q : Exit → Act → World → Prop) (F : Nat → Value → Prop) (G : (Nat → Bool) → (Nat → Value) → World → Prop) (M : List Nat) (a : Act) : Nat → List (List Nat) → List Oper → Prop
  | k, c :: cs, o :: os => (∀ D vals w, G D vals w → D k = false → (∀ j, j < l.toArray.size → bitL M k j = true → D j = true) → givenV l.toArray F vals (fun a' => wpOp P l.toArray (NoPanic Q) k (Leaves o a' (fun v w' => F k v ∧ G (setD D k) (setV vals k v) w')) a' w) c a) ∧ ngObs P l Q F G M a (k + 1) cs os
  | _, _, _ => True
variable {F : Nat → Value → Prop} {G : (Nat → Bool) → (Nat → Value) → World → Prop} {a : Act}
theorem ngObs_cons {k : Nat} {c : List Nat} {cs : List (List Nat)} {o : Oper} {os : List Oper} (h1 : ∀ D vals w, G D vals w → D k = false → (∀ j, j < l.toArray.size → bitL M k j = true → D j = true) → givenV l.toArray F vals (fun a' => wpOp P l.toArray (NoPanic Q) k (Leaves o a' (fun v w' => F k v ∧ G (setD D k) (setV vals k v) w')) a' w) c a) (h2 : ngObs P l Q F G M a (k + 1) cs os) : ngObs P l Q F G M a k (c :: cs) (o :: os) := ⟨h1, h2⟩
theorem ngObs_nil {k : Nat} : ngObs P l Q F G M a k [] [] := trivial
theorem ngObs_at : ∀ (os : List Oper) (cs : List (List Nat)) (k : Nat), ngObs P l Q F G M a k cs os → ∀ i o c, os[i]? = some o → cs[i]? = some c → ∀ D vals w, G D vals w → D (k + i) = false → (∀ j, j < l.toArray.size → bitL M (k + i) j = true → D j = true) → givenV l.toArray F vals (fun a' => wpOp P l.toArray (NoPanic Q) (k + i) (Leaves o a' (fun v w' => F (k + i) v ∧ G (setD D (k + i)) (setV vals (k + i) v) w')) a' w) c a
  | [], _, _, _, i, o, c, ho, _ => by simp at ho
  | _ :: _, [], _, _, i, o, c, _, hc => by simp at hc
  | o' :: os, c' :: cs, k, h, 0, o, c, ho, hc => by
    simp only [List.getElem?_cons_zero, Option.some.injEq] at ho hc
    subst ho hc
    exact h.1
  | o' :: os, c' :: cs, k, h, i + 1, o, c, ho, hc => by
    have := ngObs_at os cs (k + 1) h.2 i o c (by simpa using ho) (by simpa using hc)
    rwa [show k + 1 + i = k + (i + 1) by omega] at this
/-- **A region that draws its order, of any size: F: what each operation's value is; G: how the world stands, by what is done.** -/
theorem wp_region_NG {id : Nat} {w : World} (F : Nat → Value → Prop) (G : (Nat → Bool) → (Nat → Value) → World → Prop) (M : List Nat) (C : List (List Nat)) (hm : P.follows .mixedOrders = true) (hB : needAll l M C = true)
    (h0 : ∀ vals, G (fun _ => false) vals w.drew) (hO : ngObs P l Q F G M a 0 C l)
    (hE : ∀ D vals w, G D vals w → (∀ j, j < l.toArray.size → D j = true) → givenV l.toArray F vals (fun a => Q .normal a w) (List.range l.toArray.size) a) : (Code.region id l.toArray true).wp P Q a w := by
  have hB' : needB .any l.toArray M C = true := hB
  refine wp_region_noPanic (wp_region_any hm ?_)
  have inv0 : Came .any l.toArray (Array.replicate l.toArray.size false) [] :=
    ⟨List.nodup_nil, fun j => ⟨fun h => (by cases h), fun h => (by rw [getD_replicate_false] at h; cases h)⟩, by simp, fun j oj _ hl => (by rw [getD_replicate_false] at hl; cases hl)⟩
  refine wpAny_needG (P := P) (Q := NoPanic Q) (md := .any) (fun D vals W => (∀ j, D j = true → F j (vals j)) ∧ G D vals W) a hB' (fun c a a' w h => h) (fun i o ho D vals W hI hD hC => ?_) (fun D vals W hI hD => ?_) l.toArray.size _ [] (fun _ => false) (fun _ => undef) w.drew inv0 (fun j => by simp) ⟨fun j hj => (by cases hj), h0 _⟩ (by simp)
  · have hi : i < l.toArray.size := by
      rcases Nat.lt_or_ge i l.toArray.size with h | h
      · exact h
      · rw [Array.getElem?_eq_none h] at ho; cases ho
    have hc : C[i]? = some (C.getD i []) := by
      have : i < C.length := by rw [needB_len hB']; exact hi
      simp [List.getD, this]
    have hob := ngObs_at l C 0 hO i o _ (by simpa using ho) hc D vals W hI.2 (by rwa [Nat.zero_add]) (by rwa [Nat.zero_add])
    rw [Nat.zero_add] at hob
    have hob2 := givenV_puts (K := fun a' => wpOp P l.toArray (NoPanic Q) i (Leaves o a' (fun v w' => F i v ∧ G (setD D i) (setV vals i v) w')) a' W) (C.getD i []) a (fun j hj => hI.1 j (by
      have := need_mem hB' ho hj
      exact hC j this.1 this.2)) hob
    refine wpOp_leaves (fun v w' ht => ⟨fun j hj => ?_, ht.2⟩) hob2
    unfold setD at hj
    unfold setV
    by_cases e : j = i
    · rw [if_pos e, e]
      exact ht.1
    · rw [if_neg e]
      have : (j == i) = false := by simpa using e
      rw [this, Bool.false_or] at hj
      exact hI.1 j hj
  · exact givenV_puts (K := fun a => NoPanic Q .normal a W) _ a (fun j hj => hI.1 j (hD j (List.mem_range.1 hj))) (hE D vals W hI.2 hD)
end

end Go.Proofs.Ytddpjfmogjcimaa
