/- A region that draws its order, operation by operation: what each leaves, given what those that it waits for left; no order is gone through. -/
import Derived.Test.YtddpjfmogjcimaaPlan2
namespace Go.Proofs.Ytddpjfmogjcimaa
open Go

section
variable {P : Program} {ops : Array Oper} {Q : Exit → Act → World → Prop} {md : Region.Mode}

/-- Where an operation lays its value. -/
def dstOf (ops : Array Oper) (j : Nat) : Option Tmp := match ops[j]? with | some o => o.dst | none => none
def putsOf (ops : Array Oper) (vals : Nat → Value) (L : List Nat) (a : Act) : Act := L.foldl (fun a j => a.put (dstOf ops j) (vals j)) a
/-- All that an operation waits for. -/
def closeOf (md : Region.Mode) (ops : Array Oper) (i : Nat) : List Nat := (List.range ops.size).filter fun j => waitsT md ops ops.size i j

theorem putsOf_append (vals : Nat → Value) (L M : List Nat) (a : Act) : putsOf ops vals (L ++ M) a = putsOf ops vals M (putsOf ops vals L a) := by simp [putsOf, List.foldl_append]
theorem putsOf_congr {vals vals' : Nat → Value} : ∀ (L : List Nat) (a : Act), (∀ j ∈ L, vals j = vals' j) → putsOf ops vals L a = putsOf ops vals' L a
  | [], _, _ => rfl
  | j :: L, a, h => by
    simp only [putsOf, List.foldl_cons]
    rw [h j (by simp)]
    exact putsOf_congr L _ (fun k hk => h k (List.mem_cons_of_mem _ hk))
theorem putsOf_perm {vals : Nat → Value} {L M : List Nat} (hd : ∀ i j d, i ≠ j → dstOf ops i = some d → dstOf ops j ≠ some d) (h : L.Perm M) (a : Act) : putsOf ops vals L a = putsOf ops vals M a := by
  refine List.Perm.foldl_eq' h (fun x _ y _ z => ?_) a
  by_cases hxy : x = y
  · subst hxy; rfl
  · exact Act.put_comm _ _ _ (fun d hx => hd x y d hxy hx)

theorem execOp_puts (o : Oper) (hs : ∀ cs b, o.op ≠ .select cs b) (vals : Nat → Value) : ∀ (L : List Nat) (a : Act), (∀ j ∈ L, ∀ d, dstOf ops j = some d → d ∉ o.looksAt ops) → execOp (putsOf ops vals L a).eval o = execOp a.eval o ∧ Region.wanted o (yielded ops (putsOf ops vals L a).tmps) = Region.wanted o (yielded ops a.tmps)
  | [], _, _ => ⟨rfl, rfl⟩
  | j :: L, a, h => by
    have ih := execOp_puts o hs vals L (a.put (dstOf ops j) (vals j)) (fun k hk => h k (List.mem_cons_of_mem _ hk))
    have hj := h j (by simp)
    exact ⟨ih.1.trans (execOp_put o hs a _ _ hj), ih.2.trans (wanted_put o a _ _ hj)⟩

/-- What an operation leaves. -/
def Leaves (o : Oper) (a : Act) (T : Value → World → Prop) (a' : Act) (w' : World) : Prop := ∃ v, a' = a.put o.dst v ∧ T v w'
theorem Leaves.mk {o : Oper} {a : Act} {T : Value → World → Prop} {v : Value} {w' : World} (h : T v w') : Leaves o a T (a.put o.dst v) w' := ⟨v, rfl, h⟩

theorem put_ne_defer {a : Act} {x : Option Tmp} {v u : Value} {d : Deferred} (h : ({ a with defers := d :: a.defers } : Act).put x v = a.put x u) : False := by
  have h1 : (({ a with defers := d :: a.defers } : Act).put x v).defers = (a.put x u).defers := by rw [h]
  have h2 : (({ a with defers := d :: a.defers } : Act).put x v).defers.length = (a.put x u).defers.length := by rw [h1]
  cases x <;> simp [Act.put] at h2

theorem put_move {a b : Act} {x : Option Tmp} {u v : Value} (h : a.put x u = a.put x v) (hs : b.tmps.size = a.tmps.size) : b.put x u = b.put x v := by
  cases x with
  | none => rfl
  | some d =>
    by_cases hd : d < a.tmps.size
    · have h1 : ((a.put (some d) u).tmps)[d]? = ((a.put (some d) v).tmps)[d]? := by rw [h]
      simp only [Act.put, Array.getElem?_setIfInBounds_self_of_lt hd] at h1
      rw [Option.some.inj h1]
    · simp only [Act.put]
      have hb : b.tmps.size ≤ d := by rw [hs]; exact Nat.not_lt.1 hd
      rw [Array.setIfInBounds_eq_of_size_le hb, Array.setIfInBounds_eq_of_size_le hb]
theorem putsOf_size (vals : Nat → Value) : ∀ (L : List Nat) (a : Act), (putsOf ops vals L a).tmps.size = a.tmps.size
  | [], _ => rfl
  | j :: L, a => (putsOf_size vals L (a.put (dstOf ops j) (vals j))).trans (by cases dstOf ops j <;> simp [Act.put])

/-- In a state in which it sees the same, an operation leaves the same. -/
theorem wpOp_same {i : Nat} {o : Oper} {a b : Act} {w : World} {T : Value → World → Prop} (ho : ops[i]? = some o) (hs : b.tmps.size = a.tmps.size) (he : execOp b.eval o = execOp a.eval o) (hw : Region.wanted o (yielded ops b.tmps) = Region.wanted o (yielded ops a.tmps))
    (hQ : ∀ c a a' w, Q (.panic c) a w → Q (.panic c) a' w)
    (h : wpOp P ops Q i (Leaves o a T) a w) : wpOp P ops Q i (Leaves o b T) b w := by
  have mv : ∀ {u w'}, Leaves o a T (a.put o.dst u) w' → Leaves o b T (b.put o.dst u) w' := fun ⟨v, h1, h2⟩ => ⟨v, put_move h1 hs, h2⟩
  unfold wpOp at *
  simp only [ho] at *
  rw [hw]
  split
  · rename_i hwt
    simp only [hwt, if_true] at h
    rcases h with h | ⟨hasks, hlets⟩
    case inr => exact .inr ⟨by unfold Oper.asks at *; rw [he]; exact hasks, hlets⟩
    refine .inl ?_
    unfold Oper.wp at *
    rw [he]
    generalize (execOp a.eval o).run P w = r at *
    cases r with
    | ok n w' =>
      cases n <;> simp only [Oper.upon] at h ⊢
      case value u => exact mv h
      case skip => exact mv h
      case defer d =>
        obtain ⟨v, h1, _⟩ := h
        exact (put_ne_defer h1).elim
      case enter f args =>
        refine Calls.mono h fun e w'' he => ?_
        cases e with
        | returned u => exact mv he
        | panicked c => exact hQ _ _ _ _ he
        | outgrown => exact he
      case row row args => exact Rows.mono h fun u w'' he => mv he
    | halt x w' =>
      cases x <;> simp only [Oper.upon] at h ⊢
      case panic u => exact hQ _ _ _ _ h
  · rename_i hwt
    simp only [hwt] at h
    exact mv h

/-- With whatever the listed operations have left. -/
def given (ops : Array Oper) (F : Nat → Value → World → Prop) (w : World) (K : Act → Prop) : List Nat → Act → Prop
  | [], a => K a
  | j :: js, a => ∀ v, F j v w → given ops F w K js (a.put (dstOf ops j) v)
theorem given_puts {F : Nat → Value → World → Prop} {w : World} {K : Act → Prop} (vals : Nat → Value) : ∀ (L : List Nat) (a : Act), (∀ j ∈ L, F j (vals j) w) → given ops F w K L a → K (putsOf ops vals L a)
  | [], _, _, h => h
  | j :: L, a, hF, h => given_puts vals L (a.put (dstOf ops j) (vals j)) (fun k hk => hF k (List.mem_cons_of_mem _ hk)) (h (vals j) (hF j (by simp)))

def freeB (md : Region.Mode) (ops : Array Oper) : Bool :=
  Region.noSelect ops &&
  (List.range ops.size).all (fun i => match ops[i]? with
    | none => true
    | some o => o.after.all (fun e => !Region.binds md e || decide (e.on < i)) &&
      (List.range ops.size).all (fun j => i == j || ((match dstOf ops j with
        | none => true
        | some d => !(o.dst == some d) && (!(o.looksAt ops).contains d || waitsT md ops ops.size i j || waitsT md ops ops.size j i)))))

theorem freeB_after {i : Nat} {o : Oper} (h : freeB md ops = true) (ho : ops[i]? = some o) : ∀ e ∈ o.after, Region.binds md e = true → e.on < i := by
  simp only [freeB, Bool.and_eq_true, List.all_eq_true, List.mem_range] at h
  have hi : i < ops.size := by
    rcases Nat.lt_or_ge i ops.size with h | h
    · exact h
    · rw [Array.getElem?_eq_none h] at ho; cases ho
  have h1 := h.2 i hi
  rw [ho] at h1
  simp only [Bool.and_eq_true] at h1
  intro e he hb
  have h2 := Array.all_eq_true'.1 h1.1 e he
  simpa [hb] using h2
theorem freeB_dst {i j : Nat} {o : Oper} {d : Tmp} (h : freeB md ops = true) (ho : ops[i]? = some o) (hj : j < ops.size) (hij : i ≠ j) (hd : dstOf ops j = some d) : o.dst ≠ some d ∧ (waitsT md ops ops.size i j = false → waitsT md ops ops.size j i = false → d ∉ o.looksAt ops) := by
  simp only [freeB, Bool.and_eq_true, List.all_eq_true, List.mem_range] at h
  have hi : i < ops.size := by
    rcases Nat.lt_or_ge i ops.size with h | h
    · exact h
    · rw [Array.getElem?_eq_none h] at ho; cases ho
  have h1 := h.2 i hi
  rw [ho] at h1
  simp only [Bool.and_eq_true, List.all_eq_true, List.mem_range] at h1
  have h2 := h1.2 j hj
  rw [hd] at h2
  have hne : (i == j) = false := by simpa using hij
  rw [hne, Bool.false_or] at h2
  simp only [Bool.and_eq_true] at h2
  refine ⟨by simpa using h2.1, fun h3 h4 => ?_⟩
  have := h2.2
  rw [h3, h4, Bool.or_false, Bool.or_false] at this
  simpa using this
theorem dstOf_lt {j : Nat} {d : Tmp} (h : dstOf ops j = some d) : j < ops.size := by
  rcases Nat.lt_or_ge j ops.size with h' | h'
  · exact h'
  · rw [dstOf, Array.getElem?_eq_none h'] at h; cases h
theorem freeB_apart (h : freeB md ops = true) : ∀ i j d, i ≠ j → dstOf ops i = some d → dstOf ops j ≠ some d := by
  intro i j d hij hd hj
  have hjl := dstOf_lt hj
  have ho : ops[j]? = some ops[j] := Array.getElem?_eq_getElem hjl
  have h1 := (freeB_dst h ho (dstOf_lt hd) (Ne.symm hij) hd).1
  rw [dstOf, ho] at hj
  exact h1 hj

theorem filter_perm {n : Nat} {L : List Nat} (hnd : L.Nodup) (p : Nat → Bool) (hp : ∀ j, p j = true → j < n ∧ j ∈ L) : ((List.range n).filter p ++ L.filter (fun j => !p j)).Perm L := by
  have h1 : ((List.range n).filter p).Perm (L.filter p) := by
    refine (List.perm_ext_iff_of_nodup (List.Pairwise.filter _ List.nodup_range) (List.Pairwise.filter _ hnd)).2 (fun j => ?_)
    simp only [List.mem_filter, List.mem_range]
    exact ⟨fun h => ⟨(hp j h.2).2, h.2⟩, fun h => ⟨(hp j h.2).1, h.2⟩⟩
  exact (h1.append_right _).trans (List.filter_append_perm p L)

/-- What is listed, in the order in which it came. -/
structure Came (md : Region.Mode) (ops : Array Oper) (listed : Array Bool) (L : List Nat) : Prop where
  nd : L.Nodup
  mem : ∀ j, j ∈ L ↔ listed.getD j false = true
  size : listed.size = ops.size
  closed : Closed md ops listed
theorem Came.lt {listed : Array Bool} {L : List Nat} (h : Came md ops listed L) {j : Nat} (hj : j ∈ L) : j < ops.size := by
  have h1 := (h.mem j).1 hj
  rcases Nat.lt_or_ge j listed.size with h' | h'
  · rw [← h.size]; exact h'
  · simp [Array.getElem?_eq_none h'] at h1
theorem Came.add {listed : Array Bool} {L : List Nat} (h : Came md ops listed L) {i : Nat} (hi : i ∈ Region.ready md ops listed) : Came md ops (listed.setIfInBounds i true) (L ++ [i]) := by
  have hun := (mem_ready.1 hi).1
  have hlt : i < listed.size := by
    rcases Nat.lt_or_ge i listed.size with h' | h'
    · exact h'
    · simp [Array.getElem?_eq_none h'] at hun
  have hni : i ∉ L := fun hc => by
    have := (h.mem i).1 hc
    rw [getD_both hun] at this
    cases this
  refine ⟨?_, fun j => ?_, by simpa using h.size, h.closed.set hi⟩
  · rw [List.nodup_append]
    exact ⟨h.nd, by simp, fun a ha b hb => by
      simp only [List.mem_singleton] at hb
      subst hb
      exact fun e => hni (e ▸ ha)⟩
  · rw [List.mem_append, h.mem j, List.mem_singleton]
    by_cases hij : i = j
    · subst hij
      simp [hlt]
    · rw [getD_set_ne false hij]
      exact ⟨fun h => h.elim id (fun e => absurd e.symm hij), .inl⟩
theorem Came.all {listed : Array Bool} {L : List Nat} (h : Came md ops listed L) (hB : freeB md ops = true) (hr : Region.ready md ops listed = []) : L.Perm (List.range ops.size) := by
  have key : ∀ j, j < ops.size → listed.getD j false = true := by
    intro j
    induction j using Nat.strongRecOn with
    | ind j ih =>
      intro hj
      cases hl : listed.getD j false
      · exfalso
        have ho : ops[j]? = some ops[j] := Array.getElem?_eq_getElem hj
        have : j ∈ Region.ready md ops listed := mem_ready.2 ⟨getD_in (by rw [h.size]; exact hj) hl, _, ho, fun e he hb => ih e.on (freeB_after hB ho e he hb) (Nat.lt_trans (freeB_after hB ho e he hb) hj)⟩
        rw [hr] at this
        cases this
      · rfl
  refine (List.perm_ext_iff_of_nodup h.nd List.nodup_range).2 (fun j => ?_)
  rw [List.mem_range]
  exact ⟨h.lt, fun hj => (h.mem j).2 (key j hj)⟩
theorem Came.none {listed : Array Bool} {L : List Nat} (h : Came md ops listed L) (hl : L.length = ops.size) : Region.ready md ops listed = [] := by
  refine List.eq_nil_iff_forall_not_mem.2 (fun i hi => ?_)
  have h2 := h.add hi
  have h3 := filter_perm (n := ops.size) (L := List.range ops.size) List.nodup_range (fun j => (L ++ [i]).contains j) (fun j hj => by
    have : j ∈ L ++ [i] := by simpa using hj
    exact ⟨h2.lt this, List.mem_range.2 (h2.lt this)⟩)
  have h4 : ((List.range ops.size).filter fun j => (L ++ [i]).contains j).Perm (L ++ [i]) := by
    refine (List.perm_ext_iff_of_nodup (List.Pairwise.filter _ List.nodup_range) h2.nd).2 (fun j => ?_)
    simp only [List.mem_filter, List.mem_range]
    exact ⟨fun h => by simpa using h.2, fun h => ⟨h2.lt h, by simpa using h⟩⟩
  have h5 := h3.length_eq
  rw [List.length_append, h4.length_eq, List.length_range, List.length_append, List.length_singleton] at h5
  omega

theorem wpAny_free (S : World → Prop) (R : World → World → Prop) (F : Nat → Value → World → Prop) (a0 : Act) (hB : freeB md ops = true) (hQ : ∀ c a a' w, Q (.panic c) a w → Q (.panic c) a' w)
    (hF : ∀ j v w w', R w w' → F j v w → F j v w')
    (hO : ∀ i o, ops[i]? = some o → ∀ w, S w → given ops F w (fun a => wpOp P ops Q i (Leaves o a (fun v w' => R w w' ∧ S w' ∧ F i v w')) a w) (closeOf md ops i) a0)
    (hE : ∀ w, S w → given ops F w (fun a => Q .normal a w) (List.range ops.size) a0) :
    ∀ (fuel : Nat) (listed : Array Bool) (L : List Nat) (vals : Nat → Value) (w : World), Came md ops listed L → S w → (∀ j ∈ L, F j (vals j) w) → L.length + fuel = ops.size → wpAny P md ops Q fuel listed (putsOf ops vals L a0) w := by
  have hdone : ∀ (listed : Array Bool) (L : List Nat) (vals : Nat → Value) (w : World), Came md ops listed L → S w → (∀ j ∈ L, F j (vals j) w) → Region.ready md ops listed = [] → Q .normal (putsOf ops vals L a0) w := by
    intro listed L vals w hc hS hv hr
    have hp := hc.all hB hr
    rw [putsOf_perm (freeB_apart hB) hp]
    exact given_puts (K := fun a => Q .normal a w) vals _ a0 (fun j hj => hv j (hp.mem_iff.2 hj)) (hE w hS)
  have hsel : Region.noSelect ops = true := by
    simp only [freeB, Bool.and_eq_true] at hB
    exact hB.1
  intro fuel
  induction fuel with
  | zero =>
    intro listed L vals w hc hS hv hl
    have hr := hc.none (by omega)
    exact ⟨hr, hdone listed L vals w hc hS hv hr⟩
  | succ fuel ih =>
    intro listed L vals w hc hS hv hl
    refine ⟨fun hr => hdone listed L vals w hc hS hv hr, fun i hi => ?_⟩
    obtain ⟨hun, o, ho, hall⟩ := mem_ready.1 hi
    have hni : i ∉ L := fun h => by
      have := (hc.mem i).1 h
      rw [getD_both hun] at this
      cases this
    have hcl : ∀ j, waitsT md ops ops.size i j = true → j < ops.size → j ∈ L := fun j hj hjl => by
      rw [hc.mem]
      cases hg : listed.getD j false
      · have := waitsT_no hc.closed (getD_in (by rw [hc.size]; exact hjl) hg) ops.size i (fun oj hoj e he hb => by
          have : oj = o := Option.some.inj (hoj.symm.trans ho)
          subst this
          exact hall e he hb)
        rw [this] at hj
        cases hj
      · rfl
    have hback : ∀ k ∈ L, waitsT md ops ops.size k i = false := fun k hk =>
      waitsT_no hc.closed hun ops.size k (fun ok hok e he hb => hc.closed k ok hok ((hc.mem k).1 hk) e he hb)
    have hp : (closeOf md ops i ++ L.filter (fun j => !(closeOf md ops i).contains j)).Perm L := by
      have h1 := filter_perm (n := ops.size) hc.nd (fun j => (closeOf md ops i).contains j) (fun j hj => by
        have hm : j ∈ closeOf md ops i := by simpa using hj
        simp only [closeOf, List.mem_filter, List.mem_range] at hm
        exact ⟨hm.1, hcl j hm.2 hm.1⟩)
      have h2 : ((List.range ops.size).filter fun j => (closeOf md ops i).contains j).Perm (closeOf md ops i) := by
        refine (List.perm_ext_iff_of_nodup (List.Pairwise.filter _ List.nodup_range) (List.Pairwise.filter _ List.nodup_range)).2 (fun j => ?_)
        simp only [List.mem_filter, List.mem_range, List.contains_eq_mem, decide_eq_true_eq, closeOf]
        exact ⟨fun h => h.2, fun h => ⟨h.1, h⟩⟩
      exact (h2.symm.append_right _).trans h1
    have hCL : ∀ j ∈ closeOf md ops i, j ∈ L := fun j hj => hp.mem_iff.1 (List.mem_append_left _ hj)
    have hob := given_puts (K := fun a => wpOp P ops Q i (Leaves o a (fun v w' => R w w' ∧ S w' ∧ F i v w')) a w) vals (closeOf md ops i) a0 (fun j hj => hv j (hCL j hj)) (hO i o ho w hS)
    have heq := putsOf_perm (vals := vals) (freeB_apart hB) hp a0
    rw [putsOf_append] at heq
    have hsame := execOp_puts (ops := ops) o (fun cs b => Region.noSelect_spec hsel i o cs b ho) vals (L.filter (fun j => !(closeOf md ops i).contains j)) (putsOf ops vals (closeOf md ops i) a0) (fun k hk d hd => by
      rw [List.mem_filter] at hk
      have hkl := hc.lt hk.1
      refine (freeB_dst hB ho hkl (show i ≠ k from fun e => hni (by rw [e]; exact hk.1)) hd).2 ?_ (hback k hk.1)
      cases hw : waitsT md ops ops.size i k
      · rfl
      · exfalso
        have : k ∈ closeOf md ops i := by
          simp only [closeOf, List.mem_filter, List.mem_range]
          exact ⟨hkl, hw⟩
        simp [this] at hk)
    rw [heq] at hsame
    have hmove := wpOp_same (P := P) (Q := Q) ho (by rw [putsOf_size, putsOf_size]) hsame.1 hsame.2 hQ hob
    refine wpOp_mono (fun a' w' hK => ?_) hmove
    obtain ⟨v, rfl, hR, hS', hFi⟩ := hK
    have hc' := hc.add hi
    have hval : (putsOf ops vals L a0).put o.dst v = putsOf ops (fun k => if k = i then v else vals k) (L ++ [i]) a0 := by
      rw [putsOf_append, putsOf_congr (vals' := vals) L a0 (fun j hj => if_neg (show ¬ j = i from fun e => hni (by rw [← e]; exact hj)))]
      simp [putsOf, dstOf, ho]
    rw [hval]
    refine ih _ (L ++ [i]) _ w' hc' hS' (fun j hj => ?_) (by rw [List.length_append, List.length_singleton]; omega)
    by_cases hji : j = i
    · subst hji; simpa using hFi
    · simp only [hji, if_false]
      refine hF j _ w w' hR (hv j ?_)
      rw [List.mem_append, List.mem_singleton] at hj
      exact hj.resolve_right hji
end

section
variable {P : Program} {l : List Oper} {Q : Exit → Act → World → Prop}
def freeAll (l : List Oper) : Bool := freeB .any l.toArray

/-- **A region that draws its order: each operation for itself.** -/
theorem wp_region_free {id : Nat} {a : Act} {w : World} (S : World → Prop) (R : World → World → Prop) (F : Nat → Value → World → Prop) (hm : P.follows .mixedOrders = true) (hB : freeAll l = true)
    (hF : ∀ j v w w', R w w' → F j v w → F j v w') (h0 : S w.drew)
    (hE : ∀ w, S w → given l.toArray F w (fun a => NoPanic Q .normal a w) (List.range l.toArray.size) a)
    (hO : ∀ i o, l[i]? = some o → ∀ w, S w → given l.toArray F w (fun a => wpOp P l.toArray (NoPanic Q) i (Leaves o a (fun v w' => R w w' ∧ S w' ∧ F i v w')) a w) (closeOf .any l.toArray i) a) : (Code.region id l.toArray true).wp P Q a w := by
  refine wp_region_noPanic (wp_region_any hm ?_)
  have inv0 : Came .any l.toArray (Array.replicate l.toArray.size false) [] :=
    ⟨List.nodup_nil, fun j => ⟨fun h => (by cases h), fun h => (by rw [getD_replicate_false] at h; cases h)⟩, by simp, fun j oj _ hl => (by rw [getD_replicate_false] at hl; cases hl)⟩
  exact wpAny_free (P := P) (Q := NoPanic Q) (md := .any) S R F a hB (fun c a a' w h => h) hF (fun i o ho => hO i o (by simpa using ho)) hE l.toArray.size _ [] (fun _ => undef) w.drew inv0 h0 (fun j hj => by cases hj) (by simp)

/-- What each operation owes: in every world that meets S, with what those that it waits for have left. -/
def freeObs (P : Program) (l : List Oper) (Q : Exit → Act → World → Prop) (S : World → Prop) (R : World → World → Prop) (F : Nat → Value → World → Prop) (a : Act) : Nat → List (List Nat) → List Oper → Prop
  | k, c :: cs, o :: os => (∀ w, S w → given l.toArray F w (fun a' => wpOp P l.toArray (NoPanic Q) k (Leaves o a' (fun v w' => R w w' ∧ S w' ∧ F k v w')) a' w) c a) ∧ freeObs P l Q S R F a (k + 1) cs os
  | _, _, _ => True
variable {S : World → Prop} {R : World → World → Prop} {F : Nat → Value → World → Prop} {a : Act}
theorem freeObs_cons {k : Nat} {c : List Nat} {cs : List (List Nat)} {o : Oper} {os : List Oper} (h1 : ∀ w, S w → given l.toArray F w (fun a' => wpOp P l.toArray (NoPanic Q) k (Leaves o a' (fun v w' => R w w' ∧ S w' ∧ F k v w')) a' w) c a) (h2 : freeObs P l Q S R F a (k + 1) cs os) : freeObs P l Q S R F a k (c :: cs) (o :: os) := ⟨h1, h2⟩
theorem freeObs_nil {k : Nat} : freeObs P l Q S R F a k [] [] := trivial
theorem freeObs_at : ∀ (os : List Oper) (cs : List (List Nat)) (k : Nat), freeObs P l Q S R F a k cs os → ∀ i o c, os[i]? = some o → cs[i]? = some c → ∀ w, S w → given l.toArray F w (fun a' => wpOp P l.toArray (NoPanic Q) (k + i) (Leaves o a' (fun v w' => R w w' ∧ S w' ∧ F (k + i) v w')) a' w) c a
  | [], _, _, _, i, o, c, ho, _ => by simp at ho
  | _ :: _, [], _, _, i, o, c, _, hc => by simp at hc
  | o' :: os, c' :: cs, k, h, 0, o, c, ho, hc => by
    simp only [List.getElem?_cons_zero, Option.some.injEq] at ho hc
    subst ho hc
    exact h.1
  | o' :: os, c' :: cs, k, h, i + 1, o, c, ho, hc => by
    have := freeObs_at os cs (k + 1) h.2 i o c (by simpa using ho) (by simpa using hc)
    rwa [show k + 1 + i = k + (i + 1) by omega] at this

def freeAllC (l : List Oper) (C : List (List Nat)) : Bool := freeAll l && decide ((List.range l.toArray.size).map (closeOf .any l.toArray) = C)

/-- **A region that draws its order: each operation for itself.** C: whom each waits for. -/
theorem wp_region_freeC {id : Nat} {a : Act} {w : World} (S : World → Prop) (R : World → World → Prop) (F : Nat → Value → World → Prop) (C : List (List Nat)) (hm : P.follows .mixedOrders = true) (hB : freeAllC l C = true)
    (hF : ∀ j v w w', R w w' → F j v w → F j v w') (h0 : S w.drew) (hO : freeObs P l Q S R F a 0 C l)
    (hE : ∀ w, S w → given l.toArray F w (fun a => Q .normal a w) (List.range l.toArray.size) a) : (Code.region id l.toArray true).wp P Q a w := by
  simp only [freeAllC, Bool.and_eq_true, decide_eq_true_eq] at hB
  refine wp_region_free S R F hm hB.1 hF h0 hE (fun i o ho w hS => ?_)
  have hi : i < l.toArray.size := by
    rcases Nat.lt_or_ge i l.toArray.size with h | h
    · exact h
    · rw [List.getElem?_eq_none (by simpa using h)] at ho; cases ho
  have hc : C[i]? = some (closeOf .any l.toArray i) := by
    rw [← hB.2]
    simp only [List.getElem?_map, List.getElem?_range hi, Option.map_some]
  have := freeObs_at l C 0 hO i o _ ho hc w hS
  rwa [Nat.zero_add] at this

theorem given_step {w : World} {K : Act → Prop} {j : Nat} {js : List Nat} {o : Oper} {a : Act} (ho : l[j]? = some o) (h : ∀ v, F j v w → given l.toArray F w K js (a.put o.dst v)) : given l.toArray F w K (j :: js) a := by
  have : dstOf l.toArray j = o.dst := by simp [dstOf, ho]
  intro v hv
  rw [this]
  exact h v hv
theorem given_nil {ops : Array Oper} {w : World} {K : Act → Prop} {a : Act} (h : K a) : given ops F w K [] a := h

/-- An operation that only reads. -/
theorem free_read {i : Nat} {o : Oper} {a : Act} {w : World} {v : Value} {T : Value → World → Prop} (ho : l[i]? = some o) (hw : Region.wanted o (yielded l.toArray a.tmps) = true) (hv : (execOp a.eval o).run P w = .ok (.value v) w) (hT : T v w) : wpOp P l.toArray (NoPanic Q) i (Leaves o a T) a w :=
  YieldsIf.wpOp (S := fun w' => w' = w) (by simpa using ho) (.inl ⟨hw, fun w' e => by rw [e]; exact hv⟩) rfl (Leaves.mk hT)
theorem free_skip {i : Nat} {o : Oper} {a : Act} {w : World} {T : Value → World → Prop} (ho : l[i]? = some o) (hw : Region.wanted o (yielded l.toArray a.tmps) = false) (hT : T undef w) : wpOp P l.toArray (NoPanic Q) i (Leaves o a T) a w :=
  YieldsIf.wpOp (S := fun w' => w' = w) (by simpa using ho) (.inr ⟨hw, rfl⟩) rfl (Leaves.mk hT)
end

end Go.Proofs.Ytddpjfmogjcimaa
