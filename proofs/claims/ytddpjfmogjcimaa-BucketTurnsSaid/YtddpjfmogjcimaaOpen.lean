/- What an argument reads as: slices, element by element, by a decoder of the element's cells. -/
import Derived.Deep.Slices
import Derived.Deep.Fields
import Derived.ChangeSame
import Derived.ProofKit
import Derived.Test.YtddpjfmogjcimaaMem
namespace Go.Proofs.Ytddpjfmogjcimaa
open Go.RowKit Go.ChangeShapes Go.WideShapes Go.Deep

section
variable {H : Type} {enc : TypeId × Value → H} {P : Program} {w : World} {base : Nat} {spare : Nat → Bool} {held : Bool}

theorem flatMap_get {α : Type} (dec : α → List Value) (sz : Nat) (hsz : ∀ x, (dec x).length = sz) : ∀ (xs : List α) (i j : Nat) (x : α), xs[i]? = some x → j < sz → (xs.flatMap dec)[i * sz + j]? = (dec x)[j]?
  | [], i, j, x, h, _ => by simp at h
  | y :: ys, 0, j, x, h, hj => by
    simp at h
    subst h
    rw [List.flatMap_cons, Nat.zero_mul, Nat.zero_add, List.getElem?_append_left (by rw [hsz]; exact hj)]
  | y :: ys, i + 1, j, x, h, hj => by
    have ih := flatMap_get dec sz hsz ys i j x (by simpa using h) hj
    rw [← ih, List.flatMap_cons, List.getElem?_append_right (by rw [hsz, Nat.succ_mul]; omega), hsz]
    congr 1
    rw [Nat.succ_mul]
    omega

theorem flatMap_len {α : Type} (dec : α → List Value) (sz : Nat) (hsz : ∀ x, (dec x).length = sz) (xs : List α) : (xs.flatMap dec).length = xs.length * sz := by
  induction xs with
  | nil => simp
  | cons y ys ih => simp [ih, hsz, Nat.succ_mul, Nat.add_comm]

/-- A slice whose elements' cells are told by a decoder. -/
theorem open_slice_as {α : Type} [Inhabited α] (dec : α → List Value) (good : α → Prop) {t e : TypeId} {fuel : Nat} {v : Value} {x0 : DataW H × List MemPlace} (sz : Nat) (hpos : 0 < sz) (ht : P.underlying t = some (.slice e)) (hC : P.cellsOf e = sz) (hsz : ∀ x, (dec x).length = sz)
    (hel : ∀ n cs' y, DataW.trod enc P w base spare held n e cs' = some y → ∃ x, cs' = dec x ∧ good x)
    (h : DataW.trod enc P w base spare held fuel t [v] = some x0) : ∃ (xs : List α) (a : Option Addr) (cap : Nat), v = .slice a xs.length cap ∧ Rds w sz v xs.length (xs.flatMap dec) ∧ xs.length ≤ cap ∧ ∀ x ∈ xs, good x := by
  rcases open_slice ht h with ⟨hcs, _⟩ | ⟨a, len, cap, m, n, D, Pl, hcs, hb, hl, hm, hmm, hx, hi⟩
  · simp at hcs
    subst hcs
    exact ⟨[], none, 0, rfl, Rds.nil w sz, by simp, by simp⟩
  · simp at hcs
    subst hcs
    have hlm : len ≤ m := by rw [hmm]; split <;> omega
    have each : ∀ i, i < len → ∃ q : α, good q ∧ ∀ j, j < sz → w.cell? (a.add (i * sz + j)) = (dec q)[j]? := by
      intro i hi1
      obtain ⟨cs', h1, h2⟩ := hi i (by omega)
      obtain ⟨q, rfl, hq⟩ := hel _ _ _ h2
      rw [hC] at h1
      obtain ⟨_, hlen, hcell⟩ := World.cells?_some h1
      refine ⟨q, hq, fun j hj => ?_⟩
      have := hcell j hj
      rwa [add_add] at this
    obtain ⟨q, hq⟩ := choose_lt each
    refine ⟨(List.range len).map q, some a, cap, by simp, ⟨by rw [flatMap_len dec sz hsz], by simp; omega, .inr ?_⟩, by simp; omega, fun x hx => ?_⟩
    · refine ⟨a, cap, by simp, fun hn0 => ?_, fun j u hj => ?_⟩
      · have h0 : 0 < len := by
          simp at hn0
          omega
        have h4 := (hq 0 h0).2 0 hpos
        simp only [Nat.zero_mul, Nat.zero_add, Addr.add, if_true] at h4
        have h5 : ((dec (q 0))[0]?).isSome = true := by simp [hsz, hpos]
        rw [← h4] at h5
        unfold World.cell? at h5
        cases hs : a.spot with
        | none => rfl
        | some s => split at h5 <;> simp [hs] at h5
      · have hjl : j < len * sz := by
          have := (List.getElem?_eq_some_iff.1 hj).1
          rw [flatMap_len dec sz hsz] at this
          simpa using this
        have hdiv : j / sz < len := Nat.div_lt_of_lt_mul (by rw [Nat.mul_comm]; exact hjl)
        have hmod : j % sz < sz := Nat.mod_lt _ hpos
        have hj2 : j / sz * sz + j % sz = j := by rw [Nat.mul_comm]; exact Nat.div_add_mod j sz
        have h3 := flatMap_get dec sz hsz ((List.range len).map q) (j / sz) (j % sz) (q (j / sz)) (by simp [hdiv]) hmod
        rw [hj2, hj] at h3
        have h4 := (hq _ hdiv).2 _ hmod
        rw [hj2, ← h3] at h4
        rw [← h4]
        unfold Addr.add
        split
        · have hsp : a.spot = none := by
            unfold World.cell? at h4
            cases hs : a.spot with
            | none => rfl
            | some s =>
              have h0 : a.add j = a := by unfold Addr.add; rw [if_pos ‹_›]
              rw [h0] at h4
              split at h4 <;> simp [hs] at h4
          obtain ⟨ab, ao, asp⟩ := a
          simp at hsp
          subst hsp
          subst_vars
          simp_all
        · rfl
    · simp at hx
      obtain ⟨i, hi2, rfl⟩ := hx
      exact (hq i hi2).1
/-- An argument that is a slice. -/
theorem arg_slice {α : Type} [Inhabited α] (dec : α → List Value) (good : α → Prop) {r : Reach} {b0 : Nat} {t e : TypeId} {v : Value} {d : DataW H} {p : List MemPlace} (sz : Nat) (hpos : 0 < sz) (ht : P.underlying t = some (.slice e)) (hC : P.cellsOf e = sz) (hsz : ∀ x, (dec x).length = sz)
    (hel : ∀ n cs' y, DataW.trod enc P w base spare held n e cs' = some y → ∃ x, cs' = dec x ∧ good x)
    (hv : Value.okWide P w r b0 t v) (h : DataW.Trod enc P w base spare held t v d p) : ∃ (xs : List α) (a : Option Addr) (cap : Nat), v = .slice a xs.length cap ∧ Rds w sz v xs.length (xs.flatMap dec) ∧ xs.length ≤ cap ∧ ∀ x ∈ xs, good x := by
  obtain ⟨a0, len, cap, rfl⟩ := okWide_slice ht hv
  obtain ⟨fuel, hf⟩ := h
  exact open_slice_as dec good sz hpos ht hC hsz hel hf

theorem el_int {e : TypeId} {k : IntKind} (he : P.underlying e = some (.int k)) (n : Nat) (cs' : List Value) (y : DataW H × List MemPlace) (h : DataW.trod enc P w base spare held n e cs' = some y) : ∃ x : Int, cs' = [.int k x] ∧ (Lit.int k x).wf = true := by
  cases n with
  | zero => simp [DataW.trod] at h
  | succ n =>
    unfold DataW.trod at h
    rw [he] at h
    match cs', h with
    | [.int k' x], h =>
      simp only [] at h
      split at h
      · rename_i hh
        obtain ⟨rfl, hw⟩ := hh
        exact ⟨x, rfl, hw⟩
      · cases h

/-- An array of two ints. -/
theorem el_pair {e f : TypeId} {k : IntKind} (he : P.underlying e = some (.array 2 f)) (hf : P.underlying f = some (.int k)) (hC : P.cellsOf e = 2) (hCf : P.cellsOf f = 1) (n : Nat) (cs' : List Value) (y : DataW H × List MemPlace) (h : DataW.trod enc P w base spare held n e cs' = some y) :
    ∃ x : Int × Int, cs' = [.int k x.1, .int k x.2] ∧ ((Lit.int k x.1).wf = true ∧ (Lit.int k x.2).wf = true) := by
  cases n with
  | zero => simp [DataW.trod] at h
  | succ n =>
    unfold DataW.trod at h
    rw [he] at h
    have hl : cs'.length = 2 := by
      by_cases hl : cs'.length = P.cellsOf e
      · rw [hl, hC]
      · exfalso
        revert h
        match cs' with
        | [] => simp; intro hh; exact absurd hh (by simpa using hl)
        | c :: r => simp; intro hh; exact absurd hh (by simpa using hl)
    match cs', hl with
    | [c0, c1], _ =>
      simp only [List.length_cons, List.length_nil, hC, hCf, if_true, List.range_succ, List.range_zero, List.nil_append, List.mapM_append, List.mapM_cons, List.mapM_nil] at h
      cases h0 : DataW.trod enc P w base spare held n f [c0] with
      | none => simp [h0] at h
      | some y0 =>
        cases h1 : DataW.trod enc P w base spare held n f [c1] with
        | none => simp [h0, h1] at h
        | some y1 =>
          obtain ⟨x0, e0, w0⟩ := el_int hf _ _ _ h0
          obtain ⟨x1, e1, w1⟩ := el_int hf _ _ _ h1
          simp at e0 e1
          subst e0 e1
          exact ⟨(x0, x1), rfl, w0, w1⟩
end

end Go.Proofs.Ytddpjfmogjcimaa
