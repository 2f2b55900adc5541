/- package sketch: what marks make of counts, plainly. -/
import Derived.Test.YtfdkncabicmmiaaSkM
namespace Go.Proofs.Ytfdkncabicmmiaa
open Go.RowKit

theorem mk1_ge (D : Nat → Nat) (p ls x : Nat) : D x ≤ mk1 D p ls x := by
  unfold mk1
  split
  · unfold updC
    split
    · rename_i h; rw [h]; omega
    · exact Nat.le_refl _
  · exact Nat.le_refl _
theorem mk1_le (D : Nat → Nat) (p ls x M : Nat) (h : D x ≤ M) (hl : ls + 1 ≤ M) : mk1 D p ls x ≤ M := by
  unfold mk1
  split
  · rename_i hc
    unfold updC
    split
    · omega
    · exact h
  · exact h
theorem mk1_at (D : Nat → Nat) (p ls : Nat) (h : ls ≤ D p) : min (ls + 1) 15 ≤ mk1 D p ls p := by
  unfold mk1
  split
  · unfold updC
    rw [if_pos rfl]
    omega
  · omega
theorem mkL_ge (m : Nat) (q : BitVec 64) (ls : Nat) : ∀ (pre : List (Fin 4)) (C : Nat → Nat) (x : Nat), C x ≤ mkL m C q ls pre x
  | [], _, _ => Nat.le_refl _
  | i :: pre, C, x => Nat.le_trans (mk1_ge C (plC m q i) ls x) (mkL_ge m q ls pre _ x)
theorem mkL_le (m : Nat) (q : BitVec 64) (ls M : Nat) (hl : ls + 1 ≤ M) : ∀ (pre : List (Fin 4)) (C : Nat → Nat) (x : Nat), C x ≤ M → mkL m C q ls pre x ≤ M
  | [], _, _, h => h
  | i :: pre, C, x, h => mkL_le m q ls M hl pre _ x (mk1_le C _ ls x M h hl)
theorem mk1_15 (D : Nat → Nat) (p ls : Nat) (h : ∀ x, D x ≤ 15) (x : Nat) : mk1 D p ls x ≤ 15 := by
  unfold mk1
  split
  · rename_i hc
    unfold updC
    split
    · omega
    · exact h x
  · exact h x
theorem mkL_15 (m : Nat) (q : BitVec 64) (ls : Nat) : ∀ (pre : List (Fin 4)) (C : Nat → Nat), (∀ x, C x ≤ 15) → ∀ x, mkL m C q ls pre x ≤ 15
  | [], _, h => h
  | i :: pre, C, h => mkL_15 m q ls pre _ (mk1_15 C _ ls h)
theorem mkL_at (m : Nat) (q : BitVec 64) (ls : Nat) : ∀ (pre : List (Fin 4)) (C : Nat → Nat) (i : Fin 4), i ∈ pre → (∀ i : Fin 4, ls ≤ C (plC m q i)) → min (ls + 1) 15 ≤ mkL m C q ls pre (plC m q i)
  | [], _, _, h, _ => (by cases h)
  | j :: pre, C, i, h, hl => by
    by_cases e : i = j
    · subst e
      exact Nat.le_trans (mk1_at C _ ls (hl i)) (mkL_ge m q ls pre _ _)
    · have hi : i ∈ pre := by
        rcases List.mem_cons.1 h with h | h
        · exact absurd h e
        · exact h
      exact mkL_at m q ls pre _ i hi (fun k => Nat.le_trans (hl k) (mk1_ge C _ ls _))
theorem mem_first4 (i : Fin 4) : i ∈ first4 4 := by
  revert i
  decide
theorem gs_at (m : Nat) (C : Nat → Nat) (q : BitVec 64) (i : Fin 4) : gs m C q ≤ C (plC m q i) := by
  rw [gs_eq]
  rcases i with ⟨i, hi⟩
  rcases (show i = 0 ∨ i = 1 ∨ i = 2 ∨ i = 3 by omega) with rfl | rfl | rfl | rfl
  · show _ ≤ C (plC m q 0); omega
  · show _ ≤ C (plC m q 1); omega
  · show _ ≤ C (plC m q 2); omega
  · show _ ≤ C (plC m q 3); omega
theorem le_gs (m : Nat) (C : Nat → Nat) (q : BitVec 64) (n : Nat) (h15 : n ≤ 15) (h : ∀ i : Fin 4, n ≤ C (plC m q i)) : n ≤ gs m C q := by
  rw [gs_eq]
  have := h 0
  have := h 1
  have := h 2
  have := h 3
  omega

/-- Behind marks of some numbers, where nothing was halved. -/
structure Marked (m : Nat) (C : Nat → Nat) (ms : List (BitVec 64)) : Prop where
  up : ∀ x, C x ≤ ms.length
  low : ∀ q (i : Fin 4), min (ms.count q) 15 ≤ C (plC m q i)
theorem marked_none (m : Nat) : Marked m (fun _ => 0) [] := ⟨fun _ => by simp, fun _ _ => by simp⟩
theorem Marked.more {m : Nat} {C : Nat → Nat} {ms : List (BitVec 64)} (h : Marked m C ms) (q : BitVec 64) : Marked m (markC m C q) (ms ++ [q]) := by
  have hls : gs m C q ≤ ms.length := Nat.le_trans (gs_at m C q 0) (h.up _)
  refine ⟨fun x => ?_, fun q' i => ?_⟩
  · rw [List.length_append]
    exact mkL_le m q _ _ (by simp; omega) _ C x (by have := h.up x; simp; omega)
  · by_cases e : q' = q
    · subst e
      have h1 := mkL_at m q' (gs m C q') (first4 4) C i (mem_first4 i) (gs_at m C q')
      have h2 : min (ms.count q') 15 ≤ gs m C q' := le_gs m C q' _ (by omega) (h.low q')
      rw [List.count_append]
      simp only [List.count_cons_self, List.count_nil]
      unfold markC
      omega
    · rw [List.count_append, List.count_cons_of_ne (fun h => e h.symm), List.count_nil, Nat.add_zero]
      exact Nat.le_trans (h.low q' i) (mkL_ge m q _ _ C _)

end Go.Proofs.Ytfdkncabicmmiaa
