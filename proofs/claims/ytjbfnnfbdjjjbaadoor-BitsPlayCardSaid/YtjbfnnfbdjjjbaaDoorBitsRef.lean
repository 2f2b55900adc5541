/- The document's set: New, with, Has, Mark, Clear. -/
import Derived.Test.YtjbfnnfbdjjjbaaDoorBitsA
namespace Go.Proofs.YtjbfnnfbdjjjbaaDoor
open Go.RowKit

theorem boolsV_len (f : Nat → Bool) (m : Nat) : (boolsV f m).length = m := by simp [boolsV]
theorem boolsV_one (f : Nat → Bool) (m : Nat) : ∀ u ∈ boolsV f m, u.oneCell' = true := by
  intro u hu
  unfold boolsV at hu
  obtain ⟨i, _, rfl⟩ := List.mem_map.1 hu
  rfl
def setF (f : Nat → Bool) (i : Nat) (b : Bool) : Nat → Bool := fun j => if j = i then b else f j
theorem boolsV_setF (f : Nat → Bool) (m i : Nat) (b : Bool) : (boolsV f m).set i (.bool b) = boolsV (setF f i b) m := by
  apply List.ext_getElem?
  intro j
  rw [List.getElem?_set]
  unfold boolsV setF
  by_cases e : i = j
  · subst e
    rw [if_pos rfl]
    by_cases hl : i < m
    · rw [if_pos (by simpa using hl)]
      simp [hl]
    · rw [if_neg (by simpa using hl), List.getElem?_eq_none (by simp; omega)]
  · rw [if_neg e]
    by_cases hj : j < m
    · have e2 : ¬ j = i := fun e' => e e'.symm
      simp [hj, e2]
    · simp [hj]
theorem owns_setAt {w : World} {base : Nat} {e : TypeId} {n : Nat} {v : Value} {xs : List Value} (h : w.ownsRow base e 1 v n xs) (hn : 0 < n) : ∃ g cap, v = .slice (some ⟨g, 0, none⟩) n cap ∧ base ≤ g ∧ (∀ i u, xs[i]? = some u → w.cell? ⟨g, i, none⟩ = some u) ∧ (∀ i, w.frozen? ⟨g, i, none⟩ = false) ∧ ∀ i u, i < n → (w.setCell ⟨g, i, none⟩ u).ownsRow base e 1 v n (xs.set i u) := by
  obtain ⟨hl, ⟨h1, h2⟩ | ⟨g, cap, cur, rfl, hb, hh, hnc, hcap, hs, ht⟩⟩ := h
  · omega
  have hblk : Blk w g e cur.toList := hh
  refine ⟨g, cap, rfl, hb, fun i u hi => ?_, fun i => hblk.frozen i, fun i u hi => ?_⟩
  · have hlt : i < n := by
      have := (List.getElem?_eq_some_iff.1 hi).1
      omega
    refine hblk.cell ?_
    rw [← ht, List.getElem?_take] at hi
    split at hi
    · exact hi
    · cases hi
  · refine owns_of_blk (hblk.setCell i u) hb hnc hcap (by rw [List.length_set]; simpa using hs) ?_ (by rw [List.length_set]; exact hl)
    rw [← ht, ← List.take_set]

theorem rsnew_any (n : Nat) (w : World) (h1 : 1 ≤ n) (h2 : n ≤ 65536) :
    Calls Tryd.prog 16 #[.int .i64 n] w fun e w' => ∃ a c, e = .returned (.agg #[.slice a n c, .int .i64 0]) ∧ Rds w' 1 (.slice a n c) n (boolsV (fun _ => false) n) ∧ (∀ q, (Value.slice a n c).ownBlock = some q → w.heap.size ≤ q) ∧ w.grownBy w' none := by
  obtain ⟨i0, hi, hz0, hz1, hz2⟩ := info_parts infoBool
  have hmk : ∀ W : World, (Instr.makeSlice 32 (.int .i64 n) (.int .i64 n)).run Tryd.prog W = .ok (.slice (some ⟨W.heap.size, 0, none⟩) n n) (W.alloc (.cells (boolsV (fun _ => false) n).toArray 4)) := by
    intro W
    have := run_makeSlice (P := Tryd.prog) W 32 4 i0 (.bool false) Tryd.underlying32 hi hz0 .i64 .i64 n n (by omega) (by omega) (by rw [hz1]; omega) (by rw [hz2]; omega) (by omega)
    rw [this, hz1]
    rw [show (madeCells (Value.bool false).cells ((n : Int).toNat * 1)) = (boolsV (fun _ => false) n).toArray from by rw [Int.toNat_natCast, Nat.mul_one]; exact madeBools n]
    simp
  go_enter Tryd.func16, Tryd.ntmps16
  go_wp2
  have hb := (Blk.new w 37 [.slice (some ⟨w.heap.size + 1, 0, none⟩) n n, .int .i64 0]).alloc (.cells (boolsV (fun _ => false) n).toArray 4)
  have z0 := hb.cell (j := 0) rfl
  have z1 := hb.cell (j := 1) rfl
  have hrow : Rds ((w.alloc (.cells #[.slice (some ⟨w.heap.size + 1, 0, none⟩) n n, .int .i64 0] 37)).alloc (.cells (boolsV (fun _ => false) n).toArray 4)) 1 (.slice (some ⟨w.heap.size + 1, 0, none⟩) n n) n (boolsV (fun _ => false) n) := by
    have h := Blk.new (w.alloc (.cells #[.slice (some ⟨w.heap.size + 1, 0, none⟩) n n, .int .i64 0] 37)) 4 (boolsV (fun _ => false) n)
    rw [World.size_alloc] at h
    exact Rds.of_blk h (by rw [boolsV_len]; omega) (by unfold maxLen; omega)
  refine bodyPost_ret (v := .agg #[.slice (some ⟨w.heap.size + 1, 0, none⟩) n n, .int .i64 0]) (by simp [results, Tryd.results16, go_sem, z0, z1]) rfl ⟨_, _, rfl, hrow, fun q h => by simp [Value.ownBlock] at h; omega, ?_⟩
  exact grownBy_trans (World.grownBy_alloc _ _ none) (World.grownBy_alloc _ _ none)

set_option maxRecDepth 100000 in
set_option maxHeartbeats 2000000 in
theorem with_any (a : Option Addr) (c n i : Nat) (hand : Int) (f : Nat → Bool) (b : Bool) (w : World) (hi : i < n) (hn : n ≤ 65536) (hr : Rds w 1 (.slice a n c) n (boolsV f n)) :
    Calls Tryd.prog 28 #[.agg #[.slice a n c, .int .i64 hand], .int .i64 i, .bool b] w fun e w' => ∃ a' c', e = .returned (.agg #[.slice a' n c', .int .i64 hand]) ∧ Rds w' 1 (.slice a' n c') n (boolsV (setF f i b) n) ∧ (∀ q, (Value.slice a' n c').ownBlock = some q → w.heap.size ≤ q) ∧ w.grownBy w' none := by
  obtain ⟨i0, hii, hz0, hz1, hz2⟩ := info_parts infoBool
  have HR := Lib.hid hr
  clear hr
  obtain ⟨w1, hw1⟩ : ∃ w1, (w.alloc (.cells #[.slice a n c, .int .i64 hand] 37)).alloc (.cells #[.slice none 0 0, .int .i64 0] 37) = w1 := ⟨_, rfl⟩
  have HBX : Hid (Blk w1 w.heap.size 37 [.slice a n c, .int .i64 hand]) := Lib.hid (by rw [← hw1]; exact (Blk.new w _ _).alloc _)
  have HRS : Hid (Blk w1 (w.heap.size + 1) 37 [.slice none 0 0, .int .i64 0]) := Lib.hid (by
    have h := Blk.new (w.alloc (.cells #[.slice a n c, .int .i64 hand] 37)) 37 [.slice none 0 0, .int .i64 0]
    rw [World.size_alloc, hw1] at h
    exact h)
  have HG1 : Hid (w.grownBy w1 none) := Lib.hid (by rw [← hw1]; exact grownBy_trans (World.grownBy_alloc _ _ none) (World.grownBy_alloc _ _ none))
  have HSZ : Hid (w1.heap.size = w.heap.size + 2) := Lib.hid (by rw [← hw1]; simp)
  have x0 := (HBX.out.alloc (.cells #[] 4)).cell (j := 0) rfl
  have hile : (i : Int) < (n : Int) := by omega
  go_enter Tryd.func28, Tryd.ntmps28
  go_wp2_with (at_builtin; refine wpList_append_rds rfl _ _ 32 rfl w1.heap.size 4 i0 (.bool false) 1 1 Tryd.underlying32 hii hz0 hz1 hz2 rfl (by decide) (v := .slice (some ⟨w1.heap.size, 0, none⟩) 0 0) (n := 0) (xs := []) (sv := .slice a n c) rfl (World.ownsRow_made w1 #[] 0 (Nat.le_refl _) (by simp) (by simp)) rfl ((HR.out.grown HG1.out (by simp)).alloc _) (boolsV_one f n) (by unfold maxLen; omega) (by omega) (by simp) ?_; intro vp w2 h1 h2 _; rw [Nat.zero_add, List.nil_append] at h1; obtain ⟨g, cap, rfl, hgb, hgc, hgf, hset⟩ := owns_setAt h1 (by omega); have u1 := hgc i _ (boolsV_get f n i hi); have u2 := hgf i; have hs1 := HSZ.out; have h1' := owns_set h1 ⟨w.heap.size, 0, none⟩ (.slice (some ⟨g, 0, none⟩) n cap) (by simp; omega); obtain ⟨g', cap', e', _, _, _, hset'⟩ := owns_setAt h1' (by omega); cases e'; have HSET := Lib.hid (hset' i (.bool b) hi); have n1 : ¬ g = w.heap.size := (by omega); have n2 : ¬ w.heap.size = g := (by omega); have n3 : ¬ g = w.heap.size + 1 := (by omega); have n4 : ¬ w.heap.size + 1 = g := (by omega); have HB2 := Lib.hid ((HBX.out.alloc (.cells #[] 4)).grown h2 (by simp [Value.ownBlock]; omega)); have HR2 := Lib.hid ((HRS.out.alloc (.cells #[] 4)).grown h2 (by simp [Value.ownBlock]; omega)); have HG2 := Lib.hid (grownBy_base2 (grownBy_trans HG1.out (World.grownBy_alloc w1 (.cells #[] 4) none)) h2 (by have := HG1.out.size; exact this)); have HGB : Hid (w1.heap.size ≤ g) := Lib.hid hgb; clear h1 h1' hset' h2 hgc hgf hset hgb hs1 x0; have b0 := HB2.out.cell (j := 0) rfl; have b1 := HB2.out.cell (j := 1) rfl; have c0 := HB2.out.frozen 0; have z0 := HR2.out.cell (j := 0) rfl; have z1 := HR2.out.cell (j := 1) rfl; have y0 := HR2.out.frozen 0; have y1 := HR2.out.frozen 1)
  have hr5 := (((HR2.out.setCell_other (p := ⟨w.heap.size, 0, none⟩) (by simp) (.slice (some ⟨g, 0, none⟩) n cap)).setCell_other (p := ⟨g, i, none⟩) (by simp; omega) (.bool b)).setCell 0 (.slice (some ⟨g, 0, none⟩) n cap)).setCell 1 (.int .i64 hand)
  clear z0 z1
  have z0 := hr5.cell (j := 0) rfl
  have z1 := hr5.cell (j := 1) rfl
  have ho := Rds.of_owns (owns_set (owns_set HSET.out ⟨w.heap.size + 1, 0, none⟩ (.slice (some ⟨g, 0, none⟩) n cap) (by have := HSZ.out; simp; omega)) ⟨w.heap.size + 1, 1, none⟩ (.int .i64 hand) (by have := HSZ.out; simp; omega))
  rw [boolsV_setF] at ho
  refine bodyPost_ret (v := .agg #[.slice (some ⟨g, 0, none⟩) n cap, .int .i64 hand]) (by simp [results, Tryd.results28, go_sem, z0, z1]) rfl ⟨_, _, rfl, ho, fun q hq => ?_, ?_⟩
  · have := HGB.out
    have := HSZ.out
    simp [Value.ownBlock] at hq
    omega
  have hgw : w.heap.size ≤ g := by have := HGB.out; have := HSZ.out; omega
  exact grownBy_base2 (grownBy_base2 (grownBy_base2 (grownBy_base2 HG2.out (grownBy_setCell _ _ _) (Nat.le_refl _)) (grownBy_setCell _ _ _) hgw) (grownBy_setCell _ _ _) (by simp)) (grownBy_setCell _ _ _) (by simp)

theorem rhasF_any (a : Option Addr) (c n : Nat) (hand : Int) (f : Nat → Bool) (i : Int) (w : World) (hr : Rds w 1 (.slice a n c) n (boolsV f n)) :
    Calls Tryd.prog 19 #[.agg #[.slice a n c, .int .i64 hand], .int .i64 i] w fun e w' => e = .returned (.bool (hasF n f i)) ∧ w.grownBy w' none := by
  have hb := Blk.new w 37 [.slice a n c, .int .i64 hand]
  have x0 := hb.cell (j := 0) rfl
  have HR := Lib.hid (hr.alloc (.cells #[.slice a n c, .int .i64 hand] 37))
  clear hb hr
  rcases (show i < 0 ∨ (0 ≤ i ∧ (n : Int) ≤ i) ∨ (0 ≤ i ∧ i < n) by omega) with h1 | ⟨h1, h2⟩ | ⟨h1, h2⟩
  · have hd : decide (0 ≤ i) = false := decide_eq_false (by omega)
    have e : hasF n f i = false := by
      unfold hasF inB
      rw [decide_eq_false (by omega)]
      rfl
    rw [e]
    clear e h1 HR
    go_enter Tryd.func19, Tryd.ntmps19
    go_wp2_with fail
    go_ret
    exact ⟨rfl, World.grownBy_alloc _ _ none⟩
  · have hd : decide (0 ≤ i) = true := decide_eq_true (by omega)
    have hd2 : decide (i < (n : Int)) = false := decide_eq_false (by omega)
    have e : hasF n f i = false := by
      unfold hasF inB
      rw [decide_eq_false (by omega)]
      rfl
    rw [e]
    clear e h1 h2 HR
    go_enter Tryd.func19, Tryd.ntmps19
    go_wp2_with fail
    go_ret
    exact ⟨rfl, World.grownBy_alloc _ _ none⟩
  · obtain ⟨k, rfl⟩ := Int.eq_ofNat_of_zero_le h1
    have hd2 : decide ((k : Int) < (n : Int)) = true := decide_eq_true (by omega)
    have e : hasF n f k = f k := by
      unfold hasF inB
      rw [decide_eq_true (by omega)]
      rfl
    rw [e]
    obtain ⟨b, o, rfl, hc⟩ := HR.out.at' (by omega)
    have hk := hc k _ (boolsV_get f n k (by omega))
    clear e hc h1 HR
    go_enter Tryd.func19, Tryd.ntmps19
    go_wp2_with fail
    go_ret
    exact ⟨rfl, World.grownBy_alloc _ _ none⟩

/-- What Mark and Clear of the document leave. -/
def RPost7 (own : Option Nat) (n : Nat) (hand : Int) (f' : Nat → Bool) (b : Bool) (w : World) (e : Ending) (w' : World) : Prop :=
  ∃ a' c', e = .returned (.tuple #[.agg #[.slice a' n c', .int .i64 hand], .bool b]) ∧ Rds w' 1 (.slice a' n c') n (boolsV f' n) ∧ w.grownBy w' none ∧ ∀ q, (Value.slice a' n c').ownBlock = some q → own = some q ∨ w.heap.size ≤ q
theorem RPost7.as {own : Option Nat} {n : Nat} {hand : Int} {f f' : Nat → Bool} {b : Bool} {w w' : World} {e : Ending} (h : RPost7 own n hand f b w e w') (hf : ∀ j, j < n → f j = f' j) : RPost7 own n hand f' b w e w' := by
  have : boolsV f n = boolsV f' n := by
    unfold boolsV
    exact List.map_congr_left (fun i hi => by rw [hf i (List.mem_range.1 hi)])
  unfold RPost7 at *
  rw [← this]
  exact h
set_option maxRecDepth 100000 in
set_option maxHeartbeats 2000000 in
theorem rmark_any (a : Option Addr) (c n : Nat) (hand : Int) (f : Nat → Bool) (i : Int) (w : World) (hn : n ≤ 65536) (hr : Rds w 1 (.slice a n c) n (boolsV f n)) :
    Calls Tryd.prog 17 #[.agg #[.slice a n c, .int .i64 hand], .int .i64 i] w (RPost7 (Value.slice a n c).ownBlock n hand (markF n f i) (inB n i && !f i.toNat) w) := by
  obtain ⟨w1, hw1⟩ : ∃ w1, (w.alloc (.cells #[.slice a n c, .int .i64 hand] 37)).alloc (.cells #[.slice none 0 0, .int .i64 0] 37) = w1 := ⟨_, rfl⟩
  have HBX : Hid (Blk w1 w.heap.size 37 [.slice a n c, .int .i64 hand]) := Lib.hid (by rw [← hw1]; exact (Blk.new w _ _).alloc _)
  have HRS : Hid (Blk w1 (w.heap.size + 1) 37 [.slice none 0 0, .int .i64 0]) := Lib.hid (by
    have h := Blk.new (w.alloc (.cells #[.slice a n c, .int .i64 hand] 37)) 37 [.slice none 0 0, .int .i64 0]
    rw [World.size_alloc, hw1] at h
    exact h)
  have HG1 : Hid (w.grownBy w1 none) := Lib.hid (by rw [← hw1]; exact grownBy_trans (World.grownBy_alloc _ _ none) (World.grownBy_alloc _ _ none))
  have HSZ : Hid (w1.heap.size = w.heap.size + 2) := Lib.hid (by rw [← hw1]; simp)
  have HR := Lib.hid (hr.grown HG1.out (by simp))
  have x0 := HBX.out.cell (j := 0) rfl
  have x1 := HBX.out.cell (j := 1) rfl
  have z0 := HRS.out.cell (j := 0) rfl
  have z1 := HRS.out.cell (j := 1) rfl
  have y0 := HRS.out.frozen 0
  have y1 := HRS.out.frozen 1
  have HR0 := Lib.hid hr
  clear hr
  cases hm : inB n i && !f i.toNat
  · have HF : Hid (∀ e w', RPost7 (Value.slice a n c).ownBlock n hand f false w e w' → RPost7 (Value.slice a n c).ownBlock n hand (markF n f i) false w e w') := Lib.hid (fun e w' h => h.as (fun j _ => (markF_no hm j).symm))
    have hcase : i < 0 ∨ (0 ≤ i ∧ (n : Int) ≤ i) ∨ (0 ≤ i ∧ i < n ∧ f i.toNat = true) := by
      rcases (show i < 0 ∨ (0 ≤ i ∧ (n : Int) ≤ i) ∨ (0 ≤ i ∧ i < n) by omega) with h | h | h
      · exact .inl h
      · exact .inr (.inl h)
      · refine .inr (.inr ⟨h.1, h.2, ?_⟩)
        rw [show inB n i = true from decide_eq_true h, Bool.true_and] at hm
        simpa using hm
    clear hm
    rcases hcase with h1 | ⟨h1, h2⟩ | ⟨h1, h2, h3⟩
    · have hd : decide (i < 0) = true := decide_eq_true h1
      clear h1 HR
      go_enter Tryd.func17, Tryd.ntmps17
      go_wp2_with fail
      have hr5 := (HRS.out.setCell 0 (.slice a n c)).setCell 1 (.int .i64 hand)
      have hg5 := grownBy_base2 (grownBy_base2 HG1.out (grownBy_setCell _ ⟨w.heap.size + 1, 0, none⟩ (.slice a n c)) (by simp)) (grownBy_setCell _ ⟨w.heap.size + 1, 1, none⟩ (.int .i64 hand)) (by simp)
      clear z0 z1
      have z0 := hr5.cell (j := 0) rfl
      have z1 := hr5.cell (j := 1) rfl
      refine bodyPost_ret (v := .tuple #[.agg #[.slice a n c, .int .i64 hand], .bool false]) (by simp [results, Tryd.results17, go_sem, z0, z1]) rfl (HF.out _ _ ⟨a, c, rfl, HR0.out.grown hg5 (by simp), hg5, fun q h => .inl h⟩)
    · have hd : decide (i < 0) = false := decide_eq_false (by omega)
      have hd2 : decide ((n : Int) ≤ i) = true := decide_eq_true h2
      clear h1 h2 HR
      go_enter Tryd.func17, Tryd.ntmps17
      go_wp2_with fail
      have hr5 := (HRS.out.setCell 0 (.slice a n c)).setCell 1 (.int .i64 hand)
      have hg5 := grownBy_base2 (grownBy_base2 HG1.out (grownBy_setCell _ ⟨w.heap.size + 1, 0, none⟩ (.slice a n c)) (by simp)) (grownBy_setCell _ ⟨w.heap.size + 1, 1, none⟩ (.int .i64 hand)) (by simp)
      clear z0 z1
      have z0 := hr5.cell (j := 0) rfl
      have z1 := hr5.cell (j := 1) rfl
      refine bodyPost_ret (v := .tuple #[.agg #[.slice a n c, .int .i64 hand], .bool false]) (by simp [results, Tryd.results17, go_sem, z0, z1]) rfl (HF.out _ _ ⟨a, c, rfl, HR0.out.grown hg5 (by simp), hg5, fun q h => .inl h⟩)
    · obtain ⟨k, rfl⟩ := Int.eq_ofNat_of_zero_le h1
      rw [Int.toNat_natCast] at h3
      have hd : decide ((k : Int) < 0) = false := decide_eq_false (by omega)
      have hd2 : decide ((n : Int) ≤ (k : Int)) = false := decide_eq_false (by omega)
      obtain ⟨b, o, rfl, hc⟩ := HR.out.at' (by omega)
      have hk := hc k _ (boolsV_get f n k (by omega))
      rw [h3] at hk
      clear hc h1 HR
      go_enter Tryd.func17, Tryd.ntmps17
      go_wp2_with fail
      have hr5 := (HRS.out.setCell 0 (.slice (some ⟨b, o, none⟩) n c)).setCell 1 (.int .i64 hand)
      have hg5 := grownBy_base2 (grownBy_base2 HG1.out (grownBy_setCell _ ⟨w.heap.size + 1, 0, none⟩ (.slice (some ⟨b, o, none⟩) n c)) (by simp)) (grownBy_setCell _ ⟨w.heap.size + 1, 1, none⟩ (.int .i64 hand)) (by simp)
      clear z0 z1
      have z0 := hr5.cell (j := 0) rfl
      have z1 := hr5.cell (j := 1) rfl
      refine bodyPost_ret (v := .tuple #[.agg #[.slice (some ⟨b, o, none⟩) n c, .int .i64 hand], .bool false]) (by simp [results, Tryd.results17, go_sem, z0, z1]) rfl (HF.out _ _ ⟨_, c, rfl, HR0.out.grown hg5 (by simp), hg5, fun q h => .inl h⟩)
  · rw [Bool.and_eq_true, Bool.not_eq_true'] at hm
    obtain ⟨hib, hfi⟩ := hm
    obtain ⟨q0, q1⟩ := of_decide_eq_true hib
    obtain ⟨k, rfl⟩ := Int.eq_ofNat_of_zero_le q0
    rw [Int.toNat_natCast] at hfi
    have hin : k < n := by omega
    have HF : Hid (∀ e w', RPost7 (Value.slice a n c).ownBlock n hand (setF f k true) true w e w' → RPost7 (Value.slice a n c).ownBlock n hand (markF n f (k : Int)) true w e w') := Lib.hid (fun e w' h => h.as (fun j _ => by
      unfold setF markF
      rw [hib, Int.toNat_natCast, Bool.true_and]
      by_cases e : j = k
      · rw [if_pos e, e]; simp
      · have : (j == k) = false := by simpa using e
        rw [if_neg e, this, Bool.or_false]))
    have hd : decide ((k : Int) < 0) = false := decide_eq_false (by omega)
    have hd2 : decide ((n : Int) ≤ (k : Int)) = false := decide_eq_false (by omega)
    obtain ⟨b, o, rfl, hc⟩ := HR.out.at' (by omega)
    have hk := hc k _ (boolsV_get f n k hin)
    rw [hfi] at hk
    clear hc q0 q1 hib
    go_enter Tryd.func17, Tryd.ntmps17
    go_wp2_with fail
    refine (with_any (some ⟨b, o, none⟩) c n k hand f true w1 hin hn HR.out).mono ?_
    rintro e w2 ⟨a2, c2, rfl, r2, hq2, g2⟩
    have HRS := Lib.hid (HRS.out.grown g2 (by simp))
    have HG2 := Lib.hid (grownBy_trans HG1.out g2)
    have R2 := Lib.hid r2
    have HNE : Hid ((Value.slice a2 n c2).ownBlock ≠ some (w.heap.size + 1)) := Lib.hid (fun e => by have := hq2 _ e; have := HSZ.out; omega)
    have HQ : Hid (∀ q, (Value.slice a2 n c2).ownBlock = some q → w.heap.size ≤ q) := Lib.hid (fun q h => by have := hq2 q h; have := HSZ.out; omega)
    clear r2 g2 hq2 z0 z1 y0 y1 x0 x1
    have z0 := HRS.out.cell (j := 0) rfl
    have z1 := HRS.out.cell (j := 1) rfl
    have y0 := HRS.out.frozen 0
    have y1 := HRS.out.frozen 1
    go_wp2_with fail
    have hr5 := (HRS.out.setCell 0 (.slice a2 n c2)).setCell 1 (.int .i64 hand)
    have hg4 := grownBy_trans (grownBy_setCell w2 ⟨w.heap.size + 1, 0, none⟩ (.slice a2 n c2)) (grownBy_setCell _ ⟨w.heap.size + 1, 1, none⟩ (.int .i64 hand))
    have hg5 := grownBy_base2 HG2.out hg4 (by simp)
    clear z0 z1
    have z0 := hr5.cell (j := 0) rfl
    have z1 := hr5.cell (j := 1) rfl
    refine bodyPost_ret (v := .tuple #[.agg #[.slice a2 n c2, .int .i64 hand], .bool true]) (by simp [results, Tryd.results17, go_sem, z0, z1]) rfl (HF.out _ _ ⟨a2, c2, rfl, R2.out.grown hg4 (fun b hb => by cases hb; exact HNE.out), hg5, fun q h => .inr (HQ.out q h)⟩)

theorem clearF_no {m : Nat} {f : Nat → Bool} {v : Int} (h : hasF m f v = false) (j : Nat) : clearF m f v j = f j := by
  unfold clearF
  unfold hasF at h
  cases hb : inB m v
  · simp
  · rw [hb, Bool.true_and] at h
    by_cases e : j = v.toNat
    · rw [e, h]; simp
    · have : (j == v.toNat) = false := by simpa using e
      rw [this]; simp
set_option maxRecDepth 100000 in
set_option maxHeartbeats 2000000 in
theorem rclear_any (a : Option Addr) (c n : Nat) (hand : Int) (f : Nat → Bool) (i : Int) (w : World) (hn : n ≤ 65536) (hr : Rds w 1 (.slice a n c) n (boolsV f n)) :
    Calls Tryd.prog 18 #[.agg #[.slice a n c, .int .i64 hand], .int .i64 i] w (RPost7 (Value.slice a n c).ownBlock n hand (clearF n f i) (hasF n f i) w) := by
  obtain ⟨w1, hw1⟩ : ∃ w1, (w.alloc (.cells #[.slice a n c, .int .i64 hand] 37)).alloc (.cells #[.slice none 0 0, .int .i64 0] 37) = w1 := ⟨_, rfl⟩
  have HBX : Hid (Blk w1 w.heap.size 37 [.slice a n c, .int .i64 hand]) := Lib.hid (by rw [← hw1]; exact (Blk.new w _ _).alloc _)
  have HRS : Hid (Blk w1 (w.heap.size + 1) 37 [.slice none 0 0, .int .i64 0]) := Lib.hid (by
    have h := Blk.new (w.alloc (.cells #[.slice a n c, .int .i64 hand] 37)) 37 [.slice none 0 0, .int .i64 0]
    rw [World.size_alloc, hw1] at h
    exact h)
  have HG1 : Hid (w.grownBy w1 none) := Lib.hid (by rw [← hw1]; exact grownBy_trans (World.grownBy_alloc _ _ none) (World.grownBy_alloc _ _ none))
  have HSZ : Hid (w1.heap.size = w.heap.size + 2) := Lib.hid (by rw [← hw1]; simp)
  have HR := Lib.hid (hr.grown HG1.out (by simp))
  have x0 := HBX.out.cell (j := 0) rfl
  have x1 := HBX.out.cell (j := 1) rfl
  have z0 := HRS.out.cell (j := 0) rfl
  have z1 := HRS.out.cell (j := 1) rfl
  have y0 := HRS.out.frozen 0
  have y1 := HRS.out.frozen 1
  have HR0 := Lib.hid hr
  clear hr
  go_enter Tryd.func18, Tryd.ntmps18
  go_wp2_with fail
  refine (rhasF_any a c n hand f i w1 HR.out).mono ?_
  rintro e w2 ⟨rfl, g2⟩
  have HR := Lib.hid (HR.out.grown g2 (by simp))
  have HRS := Lib.hid (HRS.out.grown g2 (by simp))
  have HBX := Lib.hid (HBX.out.grown g2 (by simp))
  have HG2 := Lib.hid (grownBy_trans HG1.out g2)
  have HSZ : Hid (w.heap.size + 2 ≤ w2.heap.size) := Lib.hid (by have := HSZ.out; have := g2.size; omega)
  clear g2 x0 x1 z0 z1 y0 y1
  have x0 := HBX.out.cell (j := 0) rfl
  have x1 := HBX.out.cell (j := 1) rfl
  have z0 := HRS.out.cell (j := 0) rfl
  have z1 := HRS.out.cell (j := 1) rfl
  have y0 := HRS.out.frozen 0
  have y1 := HRS.out.frozen 1
  cases hm : hasF n f i
  · have HF : Hid (∀ e w', RPost7 (Value.slice a n c).ownBlock n hand f false w e w' → RPost7 (Value.slice a n c).ownBlock n hand (clearF n f i) (hasF n f i) w e w') := Lib.hid (fun e w' h => by rw [hm]; exact h.as (fun j _ => (clearF_no hm j).symm))
    clear hm
    go_wp2_with fail
    have hg4 := grownBy_trans (grownBy_setCell w2 ⟨w.heap.size + 1, 0, none⟩ (.slice a n c)) (grownBy_setCell _ ⟨w.heap.size + 1, 1, none⟩ (.int .i64 hand))
    have hr5 := (HRS.out.setCell 0 (.slice a n c)).setCell 1 (.int .i64 hand)
    have hg5 := grownBy_base2 HG2.out hg4 (by simp)
    clear z0 z1
    have z0 := hr5.cell (j := 0) rfl
    have z1 := hr5.cell (j := 1) rfl
    refine bodyPost_ret (v := .tuple #[.agg #[.slice a n c, .int .i64 hand], .bool false]) (by simp [results, Tryd.results18, go_sem, z0, z1]) rfl (HF.out _ _ ⟨a, c, rfl, HR0.out.grown hg5 (by simp), hg5, fun q h => .inl h⟩)
  · have hm0 := hm
    unfold hasF at hm
    rw [Bool.and_eq_true] at hm
    obtain ⟨hib, hfi⟩ := hm
    obtain ⟨q0, q1⟩ := of_decide_eq_true hib
    obtain ⟨k, rfl⟩ := Int.eq_ofNat_of_zero_le q0
    have hin : k < n := by omega
    have HF : Hid (∀ e w', RPost7 (Value.slice a n c).ownBlock n hand (setF f k false) true w e w' → RPost7 (Value.slice a n c).ownBlock n hand (clearF n f (k : Int)) (hasF n f (k : Int)) w e w') := Lib.hid (fun e w' h => by rw [hm0]; exact h.as (fun j _ => by
      unfold setF clearF
      rw [hib, Int.toNat_natCast, Bool.true_and]
      by_cases e : j = k
      · rw [if_pos e, e]; simp
      · have : (j == k) = false := by simpa using e
        rw [if_neg e, this, Bool.not_false, Bool.and_true]))
    clear hfi hib hm0
    go_wp2_with fail
    refine (with_any a c n k hand f false w2 hin hn HR.out).mono ?_
    rintro e w3 ⟨a2, c2, rfl, r2, hq2, g2⟩
    have HRS := Lib.hid (HRS.out.grown g2 (by simp))
    have HG2 := Lib.hid (grownBy_trans HG2.out g2)
    have R2 := Lib.hid r2
    have HNE : Hid ((Value.slice a2 n c2).ownBlock ≠ some (w.heap.size + 1)) := Lib.hid (fun e => by have := hq2 _ e; have := HSZ.out; omega)
    have HQ : Hid (∀ q, (Value.slice a2 n c2).ownBlock = some q → w.heap.size ≤ q) := Lib.hid (fun q h => by have := hq2 q h; have := HSZ.out; omega)
    clear r2 g2 hq2 z0 z1 y0 y1 x0 x1
    have z0 := HRS.out.cell (j := 0) rfl
    have z1 := HRS.out.cell (j := 1) rfl
    have y0 := HRS.out.frozen 0
    have y1 := HRS.out.frozen 1
    go_wp2_with fail
    have hr5 := (HRS.out.setCell 0 (.slice a2 n c2)).setCell 1 (.int .i64 hand)
    have hg4 := grownBy_trans (grownBy_setCell w3 ⟨w.heap.size + 1, 0, none⟩ (.slice a2 n c2)) (grownBy_setCell _ ⟨w.heap.size + 1, 1, none⟩ (.int .i64 hand))
    have hg5 := grownBy_base2 HG2.out hg4 (by simp)
    clear z0 z1
    have z0 := hr5.cell (j := 0) rfl
    have z1 := hr5.cell (j := 1) rfl
    refine bodyPost_ret (v := .tuple #[.agg #[.slice a2 n c2, .int .i64 hand], .bool true]) (by simp [results, Tryd.results18, go_sem, z0, z1]) rfl (HF.out _ _ ⟨a2, c2, rfl, R2.out.grown hg4 (fun b hb => by cases hb; exact HNE.out), hg5, fun q h => .inr (HQ.out q h)⟩)

end Go.Proofs.YtjbfnnfbdjjjbaaDoor
