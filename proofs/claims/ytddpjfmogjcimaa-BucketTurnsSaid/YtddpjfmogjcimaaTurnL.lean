/- Layer 14: the plain laws of BucketTurns; its arguments. -/
import Derived.Test.YtddpjfmogjcimaaRPut
import Derived.Test.YtddpjfmogjcimaaEldW
import Derived.Lib.SmallJoins
namespace Go.Proofs.Ytddpjfmogjcimaa
open Go Go.RowKit Go.WideShapes Go.ChangeShapes Go.ChangeAt Go.Joins

theorem plc_unique {xs : List Ent} {h : Int} {i j : Nat} (hi : Plc xs h i) (hj : Plc xs h j) : i = j := by
  rcases Nat.lt_trichotomy i j with hl | hl | hl
  · have h1 := hj.lo i hl
    have h2 := hi.hi i (Nat.le_refl _) (by have := hj.le; omega)
    omega
  · exact hl
  · have h1 := hi.lo j hl
    have h2 := hj.hi j (Nat.le_refl _) (by have := hi.le; omega)
    omega
theorem sorted_lt {xs : List Ent} (hs : xs.Pairwise (fun x y => U x.h < U y.h)) {i j : Nat} (hij : i < j) (hj : j < xs.length) : U (xs.getD i Ent.zero).h < U (xs.getD j Ent.zero).h := by
  have := (List.pairwise_iff_getElem.1 hs) i j (by omega) hj hij
  simp only [List.getD, List.getElem?_eq_getElem (show i < xs.length by omega), List.getElem?_eq_getElem hj, Option.getD_some]
  exact this
theorem has_at {xs : List Ent} (hs : xs.Pairwise (fun x y => U x.h < U y.h)) {h : Int} {i j : Nat} (hp : Plc xs h i) (hj : j < xs.length) (he : U (xs.getD j Ent.zero).h = h) : i = j ∧ hasB xs h i = true := by
  have hij : i = j := by
    rcases Nat.lt_trichotomy i j with hl | hl | hl
    · have h1 := hp.hi i (Nat.le_refl _) (by omega)
      have h2 := sorted_lt hs hl hj
      omega
    · exact hl
    · have := hp.lo j hl
      omega
  refine ⟨hij, ?_⟩
  unfold hasB
  rw [hij, decide_eq_true hj, he]
  simp
theorem has_not {xs : List Ent} {h : Int} {i : Nat} (hno : ∀ m, m < xs.length → U (xs.getD m Ent.zero).h ≠ h) : hasB xs h i = false := by
  unfold hasB
  by_cases hi : i < xs.length
  · rw [decide_eq_false (hno i hi), Bool.and_false]
  · rw [decide_eq_false hi, Bool.false_and]
theorem getD_mem_take {xs : List Ent} {i : Nat} {y : Ent} (hy : y ∈ xs.take i) : ∃ m, m < i ∧ m < xs.length ∧ xs.getD m Ent.zero = y := by
  obtain ⟨m, hm, rfl⟩ := List.mem_iff_getElem.1 hy
  rw [List.length_take] at hm
  exact ⟨m, by omega, by omega, by simp [List.getD, show m < xs.length by omega]⟩
theorem getD_mem_drop {xs : List Ent} {i : Nat} {y : Ent} (hy : y ∈ xs.drop i) : ∃ m, i ≤ m ∧ m < xs.length ∧ xs.getD m Ent.zero = y := by
  obtain ⟨m, hm, rfl⟩ := List.mem_iff_getElem.1 hy
  rw [List.length_drop] at hm
  exact ⟨i + m, by omega, by omega, by simp [List.getD, show i + m < xs.length by omega]⟩
/-- What is dropped. -/
theorem dropL_eq {xs : List Ent} (hs : xs.Pairwise (fun x y => U x.h < U y.h)) {h : Int} {i : Nat} (hp : Plc xs h i) : (if hasB xs h i = true then xs.take i ++ xs.drop (i + 1) else xs) = dropL h xs := by
  have h1 : (xs.take i).filter (fun x => decide (U x.h ≠ h)) = xs.take i := List.filter_eq_self.2 (fun y hy => by
    obtain ⟨m, hm, hm2, rfl⟩ := getD_mem_take hy
    have := hp.lo m hm
    exact decide_eq_true (by omega))
  cases hb : hasB xs h i
  · rw [if_neg (by simp)]
    symm
    unfold dropL
    refine List.filter_eq_self.2 (fun y hy => decide_eq_true (fun e => ?_))
    obtain ⟨m, hm, rfl⟩ := List.mem_iff_getElem.1 hy
    have e2 : U (xs.getD m Ent.zero).h = h := by rw [show xs.getD m Ent.zero = xs[m] by simp [List.getD, hm]]; exact e
    have := (has_at hs hp hm e2).2
    rw [hb] at this
    cases this
  · rw [if_pos rfl]
    unfold hasB at hb
    rw [Bool.and_eq_true] at hb
    have hil := of_decide_eq_true hb.1
    have hie := of_decide_eq_true hb.2
    have h2 : (xs.drop (i + 1)).filter (fun x => decide (U x.h ≠ h)) = xs.drop (i + 1) := List.filter_eq_self.2 (fun y hy => by
      obtain ⟨m, hm, hm2, rfl⟩ := getD_mem_drop hy
      have := sorted_lt hs (show i < m by omega) hm2
      exact decide_eq_true (by omega))
    have h3 : xs = xs.take i ++ (xs.getD i Ent.zero :: xs.drop (i + 1)) := by
      rw [show xs.getD i Ent.zero = xs[i] by simp [List.getD, hil], List.getElem_cons_drop, List.take_append_drop]
    conv => rhs; rw [h3]
    unfold dropL
    rw [List.filter_append, List.filter_cons_of_neg (by rw [hie]; simp), h1, h2]
theorem part_eq0 {d p s : Int} {xs : List Ent} (h : rightB d p s xs = true) (h0 : 0 ≤ d) (h8 : d ≤ 8) : partL (d + 1) (2 * p + 0) xs = xs.filter (fun x => !oneS d x) := by
  obtain ⟨_, hok, _⟩ := rightB_iff.1 h
  unfold partL
  refine List.filter_congr (fun x hx => ?_)
  have e1 := okE_pre (hok x hx)
  have e2 := pre_half x.h d h0 h8
  have e3 := (pre_range x.h (d + 1)).1
  unfold oneS
  by_cases hq : pre x.h (d + 1) = 2 * p + 0
  · rw [decide_eq_true hq, show (pre x.h (d + 1) % 2 == 1) = false from beq_eq_false_iff_ne.2 (by omega)]
    rfl
  · rw [decide_eq_false hq, show (pre x.h (d + 1) % 2 == 1) = true from beq_iff_eq.2 (by omega)]
    rfl
theorem part_eq1 {d p s : Int} {xs : List Ent} (h : rightB d p s xs = true) (h0 : 0 ≤ d) (h8 : d ≤ 8) : partL (d + 1) (2 * p + 1) xs = xs.filter (oneS d) := by
  obtain ⟨_, hok, _⟩ := rightB_iff.1 h
  unfold partL
  refine List.filter_congr (fun x hx => ?_)
  have e1 := okE_pre (hok x hx)
  have e2 := pre_half x.h d h0 h8
  have e3 := (pre_range x.h (d + 1)).1
  unfold oneS
  by_cases hq : pre x.h (d + 1) = 2 * p + 1
  · rw [decide_eq_true hq, show (pre x.h (d + 1) % 2 == 1) = true from beq_iff_eq.2 (by omega)]
  · rw [decide_eq_false hq, show (pre x.h (d + 1) % 2 == 1) = false from beq_eq_false_iff_ne.2 (by omega)]

/-- A bucket's value, its entries read. -/
def BV (d p : Int) (ys : List Ent) (v : Value) (W : World) : Prop := ∃ (a : Option Addr) (c : Nat), v = .agg #[.int .i64 d, .int .i64 p, .slice a ys.length c] ∧ Rds W 4 (.slice a ys.length c) ys.length (entsV ys)
theorem BV.grown {d p : Int} {ys : List Ent} {v : Value} {W W' : World} (h : BV d p ys v W) (hg : W.grownBy W' none) : BV d p ys v W' := by
  obtain ⟨a, c, h1, h2⟩ := h
  exact ⟨a, c, h1, h2.grown hg (by simp)⟩

section
variable {H : Type} {enc : TypeId × Value → H} {r : Reach} {b0 : Nat}
set_option maxRecDepth 100000 in
theorem arg_entry (w : World) {v0 : Value} {d0 : DataW H} {p0 : List MemPlace} (k0 : Value.okWide Try.prog w r b0 44 v0) (h0 : DataW.Trod enc Try.prog w 0 (fun _ => true) true 44 v0 d0 p0) : ∃ x : Ent, v0 = x.val := by
  obtain ⟨v0, v1, v2, v3, y0, y1, y2, y3, n, rfl, _, _, h0, h1, h2, h3⟩ := open_agg4 Try.underlying44 (by kernel_rfl) (by kernel_rfl) k0 h0
  obtain ⟨a0, e0, _, w0⟩ := DataW.trod_int Try.underlying37 h0
  obtain ⟨a1, e1, _, _⟩ := DataW.trod_int Try.underlying3 h1
  obtain ⟨a2, e2, _, _⟩ := DataW.trod_int Try.underlying3 h2
  obtain ⟨a3, e3, _, _⟩ := DataW.trod_int Try.underlying3 h3
  simp at e0 e1 e2 e3
  subst e0 e1 e2 e3
  have hb := bounds_u64 w0
  obtain ⟨x, rfl⟩ := U_ex a0 hb.1 hb.2
  exact ⟨⟨x, a1, a2, a3⟩, rfl⟩
end

end Go.Proofs.Ytddpjfmogjcimaa
