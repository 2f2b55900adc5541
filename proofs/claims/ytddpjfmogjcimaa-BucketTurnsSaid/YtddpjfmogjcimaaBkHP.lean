/- The halves of a bucket: the plain law. -/
import Derived.Test.YtddpjfmogjcimaaBkSplit
import Derived.Test.YtddpjfmogjcimaaRight
namespace Go.Proofs.Ytddpjfmogjcimaa
open Go.RowKit

/-- A bucket: its head; each entry fits; their numbers rise. -/
theorem rightB_iff {d p s : Int} {xs : List Ent} : rightB d p s xs = true ↔ headB d p s xs.length = true ∧ (∀ x ∈ xs, okE d p x = true) ∧ xs.Pairwise (fun x y => U x.h < U y.h) := by
  have hgd : ∀ i, (h : i < xs.length) → xs.getD i Ent.zero = xs[i] := fun i h => by simp [List.getD, h]
  unfold rightB
  rw [Bool.and_eq_true, List.all_eq_true]
  refine and_congr_right fun _ => ⟨fun h => ⟨fun x hx => ?_, ?_⟩, fun h i hi => ?_⟩
  · obtain ⟨i, hi, rfl⟩ := List.mem_iff_getElem.1 hx
    have := h i (List.mem_range.2 hi)
    unfold okI at this
    rw [Bool.and_eq_true, hgd i hi] at this
    exact this.1
  · rw [List.pairwise_iff_getElem]
    intro i j hi hj hij
    have step : ∀ k, (hk : k + 1 < xs.length) → U (xs[k]'(by omega)).h < U xs[k + 1].h := by
      intro k hk
      have := h (k + 1) (List.mem_range.2 hk)
      unfold okI upE at this
      rw [Bool.and_eq_true, Bool.or_eq_true, hgd (k + 1) hk, show k + 1 - 1 = k by omega, hgd k (by omega)] at this
      rcases this.2 with h1 | h1
      · have := of_decide_eq_true h1; omega
      · exact of_decide_eq_true h1
    obtain ⟨m, rfl⟩ : ∃ m, j = i + 1 + m := ⟨j - i - 1, by omega⟩
    clear hij
    induction m with
    | zero => exact step i hj
    | succ m ih => exact Int.lt_trans (ih (by omega) step) (step (i + 1 + m) hj)
  · rw [List.mem_range] at hi
    unfold okI upE
    rw [Bool.and_eq_true, Bool.or_eq_true, hgd i hi]
    refine ⟨h.1 _ (List.getElem_mem hi), ?_⟩
    by_cases h0 : i = 0
    · exact .inl (decide_eq_true h0)
    · right
      rw [hgd (i - 1) (by omega)]
      exact decide_eq_true ((List.pairwise_iff_getElem.1 h.2) (i - 1) i (by omega) hi (by omega))

/-- Parted by what is so from some place on, the parts together are the whole. -/
theorem parts_whole (q : Ent → Bool) : ∀ (xs : List Ent), xs.Pairwise (fun x y => q x = true → q y = true) → xs.filter (fun x => !q x) ++ xs.filter q = xs
  | [], _ => rfl
  | x :: xs, h => by
    rw [List.pairwise_cons] at h
    cases hx : q x
    · rw [List.filter_cons_of_pos (by rw [hx]; rfl), List.filter_cons_of_neg (by rw [hx]; exact Bool.false_ne_true), List.cons_append, parts_whole q xs h.2]
    · have hall : ∀ y ∈ xs, q y = true := fun y hy => h.1 y hy hx
      rw [List.filter_cons_of_neg (by rw [hx]; exact Bool.false_ne_true), List.filter_cons_of_pos hx, List.filter_eq_nil_iff.2 (fun y hy => by rw [hall y hy]; exact Bool.false_ne_true), List.filter_eq_self.2 hall, List.nil_append]

theorem pre_half (x : BitVec 64) (d : Int) (h0 : 0 ≤ d) (h8 : d ≤ 8) : pre x (d + 1) / 2 = pre x d := by
  obtain ⟨n, rfl⟩ := Int.eq_ofNat_of_zero_le h0
  have hlt := U_hi x
  have hge := U_lo x
  unfold pre
  rw [if_neg (by omega)]
  by_cases hn : n = 0
  · subst hn
    rw [if_pos (by omega)]
    simp only [Int.natCast_zero, Int.zero_add]
    rw [show ((64 : Int) - 1).toNat = 63 from rfl]
    have : U x / 2 ^ 63 < 2 := Int.ediv_lt_of_lt_mul (by decide) (by omega)
    have h3 : 0 ≤ U x / 2 ^ 63 := Int.ediv_nonneg hge (by decide)
    omega
  · rw [if_neg (by omega)]
    rw [show ((64 : Int) - (n + 1)).toNat = 63 - n by omega, show ((64 : Int) - n).toNat = (63 - n) + 1 by omega, Int.pow_succ, Int.ediv_ediv_of_nonneg (Int.pow_nonneg (by decide))]
theorem pre_mono (x y : BitVec 64) (d : Int) (h : U x ≤ U y) : pre x d ≤ pre y d := by
  unfold pre
  split
  · exact Int.le_refl _
  · exact Int.ediv_le_ediv (Int.pow_pos (by decide)) h
theorem oneS_up {d p : Int} (h0 : 0 ≤ d) (h8 : d ≤ 8) {x y : Ent} (hx : pre x.h d = p) (hy : pre y.h d = p) (h : U x.h < U y.h) (h1 : oneS d x = true) : oneS d y = true := by
  have e1 := pre_half x.h d h0 h8
  have e2 := pre_half y.h d h0 h8
  have e3 := pre_mono x.h y.h (d + 1) (by omega)
  unfold oneS at *
  rw [beq_iff_eq] at *
  omega

theorem okE_pre {d p : Int} {x : Ent} (h : okE d p x = true) : pre x.h d = p := by
  unfold okE at h
  rw [Bool.and_eq_true] at h
  exact of_decide_eq_true h.2

theorem halves_whole {d p s : Int} {xs : List Ent} (h : rightB d p s xs = true) (h0 : 0 ≤ d) (h8 : d ≤ 8) : xs.filter (fun x => !oneS d x) ++ xs.filter (oneS d) = xs := by
  obtain ⟨_, hok, hp⟩ := rightB_iff.1 h
  refine parts_whole (oneS d) xs (hp.imp_of_mem (fun hx hy hlt h1 => oneS_up h0 h8 (okE_pre (hok _ hx)) (okE_pre (hok _ hy)) hlt h1))

theorem half_ok {d p : Int} {x : Ent} (h : okE d p x = true) (h0 : 0 ≤ d) (h8 : d ≤ 8) : okE (d + 1) (2 * p + (if oneS d x = true then 1 else 0)) x = true := by
  have hp := okE_pre h
  have e1 := pre_half x.h d h0 h8
  have e2 := pre_range x.h (d + 1)
  unfold okE at *
  rw [Bool.and_eq_true] at *
  refine ⟨h.1, decide_eq_true ?_⟩
  unfold oneS
  split
  · rename_i h1; rw [beq_iff_eq] at h1; omega
  · rename_i h1; rw [beq_iff_eq] at h1; omega

theorem head_half {d p s : Int} {n m : Nat} (h : headB d p s n = true) (h8 : d ≠ 8) (hm : m ≤ n) (b : Int) (hb : b = 0 ∨ b = 1) : headB (d + 1) (2 * p + b) s m = true := by
  unfold headB at *
  have := of_decide_eq_true h
  refine decide_eq_true ?_
  have e : (2 : Int) ^ (d + 1).toNat = 2 * 2 ^ d.toNat := by
    rw [show (d + 1).toNat = d.toNat + 1 by omega, Int.pow_succ, Int.mul_comm]
  rw [e]
  omega

theorem half_right (d p s : Int) (xs : List Ent) (h : rightB d p s xs = true) (h8 : d ≠ 8) (hd0 : 0 ≤ d) (hd8 : d ≤ 8) : rightB (d + 1) (2 * p) s (xs.filter fun x => !oneS d x) = true ∧ rightB (d + 1) (2 * p + 1) s (xs.filter (oneS d)) = true := by
  obtain ⟨hh, hok, hp⟩ := rightB_iff.1 h
  refine ⟨rightB_iff.2 ⟨?_, fun x hx => ?_, hp.filter _⟩, rightB_iff.2 ⟨head_half hh h8 (List.length_filter_le _ _) 1 (.inr rfl), fun x hx => ?_, hp.filter _⟩⟩
  · have := head_half hh h8 (List.length_filter_le (fun x => !oneS d x) xs) 0 (.inl rfl)
    rwa [Int.add_zero] at this
  · rw [List.mem_filter] at hx
    have := half_ok (hok x hx.1) hd0 hd8
    have hf : oneS d x = false := by simpa using hx.2
    rw [hf, if_neg Bool.false_ne_true, Int.add_zero] at this
    exact this
  · rw [List.mem_filter] at hx
    have := half_ok (hok x hx.1) hd0 hd8
    rw [hx.2, if_pos rfl] at this
    exact this

end Go.Proofs.Ytddpjfmogjcimaa
