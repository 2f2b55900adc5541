/- Layer 23: a sketch's bytes read as they were; Admit. -/
import Derived.Test.YtfdkncabicmmiaaSkR4
import Derived.Test.YtfdkncabicmmiaaSkR5
import Derived.Test.YtfdkncabicmmiaaSkUy
import Derived.Test.YtfdkncabicmmiaaSkAw
namespace Go.Proofs.Ytfdkncabicmmiaa
open Go.RowKit

theorem packS_len (m age : Nat) (C : Nat → Nat) : (packS m age C).length = 6 + 2 * m := packK_len m age C (2 * m)
theorem packS_at (m age : Nat) (C : Nat → Nat) (j : Nat) (hj : j < 2 * m) : (packS m age C).getD (6 + j) 0 = twoC C j := by
  unfold packS packK
  rw [List.getD_eq_getElem?_getD, List.getElem?_append_right (by simp [numB_len])]
  simp [numB_len, hj]
theorem packS_width (m age : Nat) (C : Nat → Nat) (hm : m < 65536) : numAt (packS m age C) 0 2 = m := by
  rw [numAt_in (by rw [packS_len]; omega)]
  have e : segB (packS m age C) 0 2 = numB m 2 := by
    unfold segB packS packK
    rw [List.drop_zero, List.append_assoc, List.take_append_of_le_length (by rw [numB_len]; omega), List.take_of_length_le (by rw [numB_len]; omega)]
  rw [e, ofB_numB, Nat.mod_eq_of_lt (by simpa using hm)]
theorem packS_age (m age : Nat) (C : Nat → Nat) (ha : age < 4294967296) : numAt (packS m age C) 2 4 = age := by
  rw [numAt_in (by rw [packS_len]; omega)]
  have e : segB (packS m age C) 2 4 = numB age 4 := by
    unfold segB packS packK
    have h2 : (numB m 2).length = 2 := numB_len m 2
    rw [List.append_assoc, List.drop_append_of_le_length (by omega), List.drop_of_length_le (by omega), List.nil_append, List.take_append_of_le_length (by rw [numB_len]; omega), List.take_of_length_le (by rw [numB_len]; omega)]
  rw [e, ofB_numB, Nat.mod_eq_of_lt (by simpa using ha)]
theorem packS_cnt {m age : Nat} {C : Nat → Nat} (h15 : ∀ k, C k ≤ 15) (k : Nat) (hk : k < 4 * m) : cntAt (packS m age C) k = C k := by
  unfold cntAt
  rw [packS_at _ _ _ (k / 2) (by omega)]
  have h1 := h15 (2 * (k / 2))
  have h2 := h15 (2 * (k / 2) + 1)
  unfold twoC
  by_cases he : k % 2 = 0
  · rw [if_pos he]
    have e : 2 * (k / 2) = k := by omega
    rw [e] at h1 h2 ⊢
    omega
  · rw [if_neg he]
    have e : 2 * (k / 2) + 1 = k := by omega
    rw [e] at h2 ⊢
    omega
theorem packS_reads {m age : Nat} {C : Nat → Nat} (hp : Pow2 m) (ha : age < 10 * m) : kreadB (packS m age C) = true := by
  have hl := pow2_le hp
  rw [kread_iff, packS_width _ _ _ (by omega), packS_age _ _ _ (by omega), packS_len]
  exact ⟨hp, ha, rfl⟩

theorem admit_any (B : Nat) (g : Nat → Nat) (m age : Nat) (C : Nat → Nat) (q r : BitVec 64) (w : World) (hs : SK w B g m age C) :
    Calls Try.prog 15 #[.pointer (some ⟨B, 0, none⟩), .int .u64 (U q), .int .u64 (U r)] w fun e w' => e = .returned (.bool (decide (gs m C r < gs m C q))) ∧ w.grownBy w' none := by
  have HS := Lib.hid hs
  clear hs
  go_enter Try.func15, Try.ntmps15
  go_wp2_with fail
  refine (guess_any B g m age C q _ HS.out).mono ?_
  rintro e w1 ⟨rfl, g1⟩
  have HS1 := Lib.hid (HS.out.grown g1)
  have G1 := Lib.hid g1
  clear g1 HS
  go_wp2_with fail
  refine (guess_any B g m age C r _ HS1.out).mono ?_
  rintro e w2 ⟨rfl, g2⟩
  have G2 := Lib.hid (grownBy_trans G1.out g2)
  clear g2 G1
  obtain ⟨x, hx⟩ : ∃ x, gs m C q = x := ⟨_, rfl⟩
  obtain ⟨y, hy⟩ : ∃ y, gs m C r = y := ⟨_, rfl⟩
  have HX := Lib.hid (And.intro hx hy)
  rw [hx, hy]
  clear hx hy
  go_wp2_with fail
  go_ret
  exact ⟨by rw [HX.out.1, HX.out.2]; simp, G2.out⟩

/-- A sketch and the document's, side by side. -/
structure Play (w w' : World) (B : Nat) (g : Nat → Nat) (m a1 : Nat) (C1 : Nat → Nat) (a2 : Nat) (C2 : Nat → Nat) (Rb G c : Nat) : Prop where
  sk : SK w' B g m a1 C1
  rb : Blk w' Rb 40 [.int .i64 (m : Nat), .int .i64 (a2 : Nat), .slice (some ⟨G, 0, none⟩) (4 * m) c]
  ro : RO w' m C2 G
  ag1 : a1 < 10 * m
  ag2 : a2 < 10 * m
  own : ∀ j, KOwn B g j → w.heap.size ≤ j ∧ j ≠ Rb ∧ j ≠ G
  newR : w.heap.size ≤ Rb
  ne : Rb ≠ G
  grown : w.grownBy w' none
section
variable {w w' w'' : World} {B B' : Nat} {g g' : Nat → Nat} {m a1 a2 a1' a2' : Nat} {C1 C2 C1' C2' : Nat → Nat} {Rb G c G' c' : Nat}
theorem Play.later (h : Play w w' B g m a1 C1 a2 C2 Rb G c) (hg : w'.grownBy w'' none) : Play w w'' B g m a1 C1 a2 C2 Rb G c :=
  ⟨h.sk.grown hg, h.rb.grown hg (by simp), h.ro.grown hg (by simp), h.ag1, h.ag2, h.own, h.newR, h.ne, grownBy_trans h.grown hg⟩
theorem Play.lt (h : Play w w' B g m a1 C1 a2 C2 Rb G c) : ∀ j, KOwn B g j → j < w'.heap.size := fun j hj => by
  rcases hj with rfl | ⟨i, hi, rfl⟩
  · exact h.sk.lt.1
  · exact h.sk.lt.2 i hi
/-- Behind a step of the program's. -/
theorem Play.prog (h : Play w w' B g m a1 C1 a2 C2 Rb G c) (ht : Touch (KOwn B g) w' w'') (hs : SK w'' B g m a1' C1') (ha : a1' < 10 * m) : Play w w'' B g m a1' C1' a2 C2 Rb G c := by
  obtain ⟨rest, hb⟩ := h.ro
  exact ⟨hs, ht.blk h.rb (fun hk => (h.own _ hk).2.1 rfl), ⟨rest, ht.blk hb (fun hk => (h.own _ hk).2.2 rfl)⟩, ha, h.ag2, h.own, h.newR, h.ne, Touch.grown h.grown ht (fun j hj => (h.own j hj).1)⟩
/-- Behind a step of the document's, whose counts are new. -/
theorem Play.ref (h : Play w w' B g m a1 C1 a2 C2 Rb G c) (hg : w'.grownBy w'' none) (hr : RO w'' m C2' G') (hn : w'.heap.size ≤ G') (ha : a2' < 10 * m) :
    Play w (((w''.setCell ⟨Rb, 0, none⟩ (.int .i64 (m : Nat))).setCell ⟨Rb, 1, none⟩ (.int .i64 (a2' : Nat))).setCell ⟨Rb, 2, none⟩ (.slice (some ⟨G', 0, none⟩) (4 * m) c')) B g m a1 C1 a2' C2' Rb G' c' := by
  have hlt := h.rb.lt
  have hgs : w''.grownBy (((w''.setCell ⟨Rb, 0, none⟩ (.int .i64 (m : Nat))).setCell ⟨Rb, 1, none⟩ (.int .i64 (a2' : Nat))).setCell ⟨Rb, 2, none⟩ (.slice (some ⟨G', 0, none⟩) (4 * m) c')) (some Rb) :=
    grownBy_trans (grownBy_trans (grownBy_setCell w'' ⟨Rb, 0, none⟩ _) (grownBy_setCell _ ⟨Rb, 1, none⟩ _)) (grownBy_setCell _ ⟨Rb, 2, none⟩ _)
  refine ⟨(h.sk.grown hg).touch (Touch.of hgs (S := fun k => k = Rb) (fun k e => by cases e; rfl)) (fun e => (h.own B (.inl rfl)).2.1 e) (fun i hi e => (h.own (g i) (.inr ⟨i, hi, rfl⟩)).2.1 e), (((h.rb.grown hg (by simp)).setCell 0 (.int .i64 (m : Nat))).setCell 1 (.int .i64 (a2' : Nat))).setCell 2 (.slice (some ⟨G', 0, none⟩) (4 * m) c'), hr.grown hgs (by simp; omega), h.ag1, ha, fun j hj => ⟨(h.own j hj).1, (h.own j hj).2.1, by have := h.lt j hj; omega⟩, h.newR, by omega, grownBy_base2 (grownBy_trans h.grown hg) hgs h.newR⟩
/-- The program's sketch is another one. -/
theorem Play.swap (h : Play w w' B g m a1 C1 a2 C2 Rb G c) (hg : w'.grownBy w'' none) (hs : SK w'' B' g' m a1 C1) (hB : w'.heap.size ≤ B') (hG : ∀ i, i < 4 → w'.heap.size ≤ g' i) : Play w w'' B' g' m a1 C1 a2 C2 Rb G c := by
  have h1 := h.rb.lt
  have h2 := h.ro.lt
  have h3 := h.grown.size
  refine ⟨hs, h.rb.grown hg (by simp), h.ro.grown hg (by simp), h.ag1, h.ag2, fun j hj => ?_, h.newR, h.ne, grownBy_trans h.grown hg⟩
  have : w'.heap.size ≤ j := by
    rcases hj with rfl | ⟨i, hi, rfl⟩
    · exact hB
    · exact hG i hi
  exact ⟨by omega, by omega, by omega⟩
end

end Go.Proofs.Ytfdkncabicmmiaa
