/- The document's set: Take, All; law07's same. -/
import Derived.Test.YtjbfnnfbdjjjbaaDoorBitsRef
import Derived.Test.YtjbfnnfbdjjjbaaDoorSetCopy
namespace Go.Proofs.YtjbfnnfbdjjjbaaDoor
open Go.RowKit

theorem took_uniq {n hand : Nat} {f : Nat → Bool} {i j : Nat} (hi : Took n hand f i) (hj : Took n hand f j) : i = j := by
  obtain ⟨i1, i2, i3⟩ := hi
  obtain ⟨j1, j2, j3⟩ := hj
  rcases i3 with ⟨i3, i4⟩ | ⟨i3, i4, i5⟩
  · rcases j3 with ⟨j3, j4⟩ | ⟨j3, j4, j5⟩
    · rcases Nat.lt_trichotomy i j with h | h | h
      · rw [j4 i i3 h] at i2; cases i2
      · exact h
      · rw [i4 j j3 h] at j2; cases j2
    · rw [j4 i i3 i1] at i2; cases i2
  · rcases j3 with ⟨j3, j4⟩ | ⟨j3, j4, j5⟩
    · rw [i4 j j3 j1] at j2; cases j2
    · rcases Nat.lt_trichotomy i j with h | h | h
      · rw [j5 i h] at i2; cases i2
      · exact h
      · rw [i5 j h] at j2; cases j2
theorem round_all {n hand : Nat} {f : Nat → Bool} (hh : hand < n) (h : ∀ j, j < n → f ((hand + j) % n) = true) : ∀ j, j < n → f j = true := by
  intro j hj
  by_cases hc : hand ≤ j
  · have := h (j - hand) (by omega)
    rwa [show hand + (j - hand) = j by omega, Nat.mod_eq_of_lt hj] at this
  · have := h (j + n - hand) (by omega)
    rwa [show hand + (j + n - hand) = j + n by omega, Nat.add_mod_right, Nat.mod_eq_of_lt hj] at this
theorem round_took {n hand k : Nat} {f : Nat → Bool} (hh : hand < n) (hk : k < n) (h : ∀ j, j < k → f ((hand + j) % n) = true) (hf : f ((hand + k) % n) = false) : Took n hand f ((hand + k) % n) := by
  have hlt : (hand + k) % n < n := Nat.mod_lt _ (by omega)
  refine ⟨hlt, hf, ?_⟩
  by_cases hc : hand + k < n
  · rw [Nat.mod_eq_of_lt hc] at hf hlt ⊢
    refine .inl ⟨by omega, fun j h1 h2 => ?_⟩
    have := h (j - hand) (by omega)
    rwa [show hand + (j - hand) = j by omega, Nat.mod_eq_of_lt (by omega)] at this
  · have e : (hand + k) % n = hand + k - n := by
      rw [Nat.mod_eq_sub_mod (by omega), Nat.mod_eq_of_lt (by omega)]
    rw [e] at hf hlt ⊢
    refine .inr ⟨by omega, fun j h1 h2 => ?_, fun j h1 => ?_⟩
    · have := h (j - hand) (by omega)
      rwa [show hand + (j - hand) = j by omega, Nat.mod_eq_of_lt h2] at this
    · have := h (j + n - hand) (by omega)
      rwa [show hand + (j + n - hand) = j + n by omega, Nat.add_mod_right, Nat.mod_eq_of_lt (by omega)] at this
def RTake7 (own : Option Nat) (n hand : Nat) (f : Nat → Bool) (w : World) (e : Ending) (w' : World) : Prop :=
  (∃ a c, e = .returned (.tuple #[.agg #[.slice a n c, .int .i64 hand], .int .i64 (-1)]) ∧ Rds w' 1 (.slice a n c) n (boolsV f n) ∧ w.grownBy w' none ∧ (∀ j, j < n → f j = true) ∧ ∀ q, (Value.slice a n c).ownBlock = some q → own = some q ∨ w.heap.size ≤ q) ∨
  (∃ i : Nat, Took n hand f i ∧ ∃ a c, e = .returned (.tuple #[.agg #[.slice a n c, .int .i64 ((i + 1) % n : Nat)], .int .i64 i]) ∧ Rds w' 1 (.slice a n c) n (boolsV (markF n f i) n) ∧ w.grownBy w' none ∧ ∀ q, (Value.slice a n c).ownBlock = some q → own = some q ∨ w.heap.size ≤ q)

set_option maxRecDepth 100000 in
set_option maxHeartbeats 2000000 in
theorem rtake7_any (a : Option Addr) (c n hand : Nat) (f : Nat → Bool) (w : World) (hn : n ≤ 65536) (hh : hand < n) (hr : Rds w 1 (.slice a n c) n (boolsV f n)) :
    Calls Tryd.prog 21 #[.agg #[.slice a n c, .int .i64 hand]] w (RTake7 (Value.slice a n c).ownBlock n hand f w) := by
  obtain ⟨w1, hw1⟩ : ∃ w1, (w.alloc (.cells #[.slice a n c, .int .i64 hand] 37)).alloc (.cells #[.slice none 0 0, .int .i64 0] 37) = w1 := ⟨_, rfl⟩
  have HBX : Hid (Blk w1 w.heap.size 37 [.slice a n c, .int .i64 hand]) := Lib.hid (by rw [← hw1]; exact (Blk.new w _ _).alloc _)
  have HRS : Hid (Blk w1 (w.heap.size + 1) 37 [.slice none 0 0, .int .i64 0]) := Lib.hid (by
    have h := Blk.new (w.alloc (.cells #[.slice a n c, .int .i64 hand] 37)) 37 [.slice none 0 0, .int .i64 0]
    rw [World.size_alloc, hw1] at h
    exact h)
  have HG1 : Hid (w.grownBy w1 none) := Lib.hid (by rw [← hw1]; exact grownBy_trans (World.grownBy_alloc _ _ none) (World.grownBy_alloc _ _ none))
  have HSZ : Hid (w1.heap.size = w.heap.size + 2) := Lib.hid (by rw [← hw1]; simp)
  have HR := Lib.hid (hr.grown HG1.out (by simp))
  have HR0 := Lib.hid hr
  clear hr
  have x0 := HBX.out.cell (j := 0) rfl
  have x1 := HBX.out.cell (j := 1) rfl
  have f0 := HBX.out.frozen 0
  have f1 := HBX.out.frozen 1
  have z0 := HRS.out.cell (j := 0) rfl
  have z1 := HRS.out.cell (j := 1) rfl
  have y0 := HRS.out.frozen 0
  have y1 := HRS.out.frozen 1
  have hnz : ((n : Int) == 0) = false := by rw [beq_eq_false_iff_ne]; omega
  have HMOD : Hid (∀ i : Nat, ((i : Int)) % (n : Int) = ((i % n : Nat) : Int)) := Lib.hid (fun i => by push_cast; rfl)
  obtain ⟨b, o, rfl, hc⟩ := HR.out.at' (by omega)
  have HC := Lib.hid hc
  clear hc
  go_enter Tryd.func21, Tryd.ntmps21
  go_wp2_with fail
  go_loop [4] (fun kv => ∃ k : Nat, k ≤ n ∧ kv = .int .i64 k ∧ ∀ j, j < k → f ((hand + j) % n) = true) (fun kv => n - (intOf kv).toNat)
  case atStart => exact ⟨0, by omega, rfl, fun j h => by omega⟩
  case round =>
    obtain ⟨k, hk, rfl, hall⟩ := hrel
    by_cases hlt : k < n
    · obtain ⟨i, hi⟩ : ∃ i : Nat, (hand + k) % n = i := ⟨_, rfl⟩
      have him : i < n := by rw [← hi]; exact Nat.mod_lt _ (by omega)
      have hmod := HMOD.out (hand + k)
      rw [hi] at hmod
      have hmod2 : ((hand : Int) + (k : Int)) % (n : Int) = (i : Int) := by rw [← hmod]; push_cast; rfl
      have hci := HC.out i _ (boolsV_get f n i him)
      have hkl : decide ((k : Int) < (n : Int)) = true := decide_eq_true (by omega)
      have hil : (i : Int) < (n : Int) := by omega
      cases hf : f i
      · have HT : Hid (Took n hand f i) := Lib.hid (by rw [← hi]; exact round_took hh hlt hall (by rw [hi]; exact hf))
        rw [hf] at hci
        clear hall hmod hf
        have hm3 : ((i : Int) + 1) % (n : Int) = (((i + 1) % n : Nat) : Int) := by rw [← HMOD.out (i + 1)]; push_cast; rfl
        obtain ⟨h2, hh2⟩ : ∃ h2 : Nat, (i + 1) % n = h2 := ⟨_, rfl⟩
        rw [hh2] at hm3
        have HH2 := Lib.hid hh2
        have HF : Hid (∀ e w', (∃ a c, e = .returned (.tuple #[.agg #[.slice a n c, .int .i64 (h2 : Int)], .int .i64 i]) ∧ Rds w' 1 (.slice a n c) n (boolsV (setF f i true) n) ∧ w.grownBy w' none ∧ ∀ q, (Value.slice a n c).ownBlock = some q → w.heap.size ≤ q) → RTake7 (Value.slice (some ⟨b, o, none⟩) n c).ownBlock n hand f w e w') := Lib.hid (fun e w' ⟨a, c, h1, h2, h3, h4⟩ => by
          refine .inr ⟨i, HT.out, a, c, by rw [hh2]; exact h1, ?_, h3, fun q h => .inr (h4 q h)⟩
          have : boolsV (setF f i true) n = boolsV (markF n f i) n := by
            unfold boolsV
            refine List.map_congr_left (fun j hj => ?_)
            unfold setF markF
            rw [show inB n (i : Int) = true from decide_eq_true (by omega), Int.toNat_natCast, Bool.true_and]
            by_cases e : j = i
            · rw [if_pos e, e]; simp
            · have : (j == i) = false := by simpa using e
              rw [if_neg e, this, Bool.or_false]
          rw [← this]
          exact h2)
        clear hh2
        go_wp2_with fail
        refine (with_any (some ⟨b, o, none⟩) c n i hand f true w1 him hn HR.out).mono ?_
        rintro e w2 ⟨a2, c2, rfl, r2, hq2, g2⟩
        have HRS := Lib.hid (HRS.out.grown g2 (by simp))
        have HBX := Lib.hid (HBX.out.grown g2 (by simp))
        have HG2 := Lib.hid (grownBy_trans HG1.out g2)
        have R2 := Lib.hid r2
        have HNE : Hid (∀ q, (Value.slice a2 n c2).ownBlock = some q → w.heap.size + 2 ≤ q) := Lib.hid (fun q e => by have := hq2 _ e; have := HSZ.out; omega)
        clear r2 g2 hq2 z0 z1 y0 y1 x0 x1 f0 f1
        have z0 := HRS.out.cell (j := 0) rfl
        have z1 := HRS.out.cell (j := 1) rfl
        have y0 := HRS.out.frozen 0
        have y1 := HRS.out.frozen 1
        have x0 := HBX.out.cell (j := 0) rfl
        have x1 := HBX.out.cell (j := 1) rfl
        have f0 := HBX.out.frozen 0
        have f1 := HBX.out.frozen 1
        have hbx3 := ((HBX.out.setCell 0 (.slice a2 n c2)).setCell 1 (.int .i64 hand)).setCell 1 (.int .i64 h2)
        have x03 := hbx3.cell (j := 0) rfl
        have x13 := hbx3.cell (j := 1) rfl
        clear hbx3
        go_wp2_with fail
        have hgA := grownBy_trans (grownBy_trans (grownBy_setCell w2 ⟨w.heap.size, 0, none⟩ (.slice a2 n c2)) (grownBy_setCell _ ⟨w.heap.size, 1, none⟩ (.int .i64 hand))) (grownBy_setCell _ ⟨w.heap.size, 1, none⟩ (.int .i64 h2))
        have hres := ((HRS.out.setCell_other (p := ⟨w.heap.size, 0, none⟩) (by simp) (.slice a2 n c2)).setCell_other (p := ⟨w.heap.size, 1, none⟩) (by simp) (.int .i64 hand)).setCell_other (p := ⟨w.heap.size, 1, none⟩) (by simp) (.int .i64 h2)
        have hr5 := (hres.setCell 0 (.slice a2 n c2)).setCell 1 (.int .i64 h2)
        generalize ((w2.setCell ⟨w.heap.size, 0, none⟩ (.slice a2 n c2)).setCell ⟨w.heap.size, 1, none⟩ (.int .i64 hand)).setCell ⟨w.heap.size, 1, none⟩ (.int .i64 h2) = w5 at *
        have hgB := grownBy_trans (grownBy_setCell w5 ⟨w.heap.size + 1, 0, none⟩ (.slice a2 n c2)) (grownBy_setCell _ ⟨w.heap.size + 1, 1, none⟩ (.int .i64 h2))
        clear z0 z1
        have z0 := hr5.cell (j := 0) rfl
        have z1 := hr5.cell (j := 1) rfl
        refine bodyPost_ret (v := .tuple #[.agg #[.slice a2 n c2, .int .i64 h2], .int .i64 i]) (by simp [results, Tryd.results21, go_sem, z0, z1]) rfl (HF.out _ _ ⟨a2, c2, rfl, ?_, ?_, fun q h => by have := HNE.out q h; omega⟩)
        · exact (R2.out.grown hgA (fun q hq e => by cases hq; have := HNE.out _ e; simp only at this; omega)).grown hgB (fun q hq e => by cases hq; have := HNE.out _ e; simp only at this; omega)
        · exact grownBy_base2 (grownBy_base2 HG2.out hgA (Nat.le_refl _)) hgB (by simp)
      · rw [hf] at hci
        have HALL : Hid (∀ j, j < k + 1 → f ((hand + j) % n) = true) := Lib.hid (fun j hj => by
          by_cases e : j = k
          · rw [e, hi]; exact hf
          · exact hall j (by omega))
        clear hall hmod hf
        go_wp2_with fail
        go_round
        case rel => exact ⟨k + 1, by omega, by go_num, HALL.out⟩
        case measure => simp [intOf]; omega
    · obtain rfl : k = n := by omega
      have HA : Hid (∀ j, j < k → f j = true) := Lib.hid (round_all hh hall)
      have hkl : decide ((k : Int) < (k : Int)) = false := decide_eq_false (by omega)
      clear hall
      go_wp2_with fail
      have hr5 := (HRS.out.setCell 0 (.slice (some ⟨b, o, none⟩) k c)).setCell 1 (.int .i64 hand)
      have hgB := grownBy_trans (grownBy_setCell w1 ⟨w.heap.size + 1, 0, none⟩ (.slice (some ⟨b, o, none⟩) k c)) (grownBy_setCell _ ⟨w.heap.size + 1, 1, none⟩ (.int .i64 hand))
      have hg5 := grownBy_base2 HG1.out hgB (by simp)
      clear z0 z1
      have z0 := hr5.cell (j := 0) rfl
      have z1 := hr5.cell (j := 1) rfl
      refine bodyPost_ret (v := .tuple #[.agg #[.slice (some ⟨b, o, none⟩) k c, .int .i64 hand], .int .i64 (-1)]) (by simp [results, Tryd.results21, go_sem, z0, z1]) rfl (.inl ⟨_, c, rfl, HR0.out.grown hg5 (by simp), hg5, HA.out, fun q h => .inl h⟩)

end Go.Proofs.YtjbfnnfbdjjjbaaDoor
