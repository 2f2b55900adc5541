/- Reference 3: Take. -/
import Derived.Test.YtmmkfchijafjeaaReader3
import Derived.Test.YtmmkfchijafjeaaPlan2
namespace Go.Proofs.Ytmmkfchijafjeaa
open Go.RowKit

theorem Rds.dropS {w : World} {b o : Nat} {sp : _} {xs : List Nat} {c n : Nat} (h : Rds w 1 (.slice (some ⟨b, o, sp⟩) xs.length c) xs.length (bytesV xs)) (hn : n ≤ xs.length) (c' : Nat) : Rds w 1 (.slice (some ⟨b, o + n, sp⟩) (xs.drop n).length c') (xs.drop n).length (bytesV (xs.drop n)) := by
  obtain ⟨_, hm, h⟩ := h
  rcases h with ⟨h, _⟩ | ⟨ad', cap, hv, hs, hc⟩
  · simp at h
  · simp at hv
    obtain ⟨rfl, _⟩ := hv
    refine ⟨by simp [bytesV_len], by rw [List.length_drop]; omega, .inr ⟨⟨b, o + n, sp⟩, c', rfl, fun h => hs (by rw [List.length_drop] at h; omega), fun j u hj => ?_⟩⟩
    rw [bytesV_drop, List.getElem?_drop] at hj
    have := hc _ _ hj
    rwa [← Nat.add_assoc] at this
theorem Rds.dropA {w : World} {ad : Addr} {xs : List Nat} {c n : Nat} (h : Rds w 1 (.slice (some ad) xs.length c) xs.length (bytesV xs)) (hn : n ≤ xs.length) (c' : Nat) : Rds w 1 (.slice (some (ad.add n)) (xs.drop n).length c') (xs.drop n).length (bytesV (xs.drop n)) := by
  by_cases hx : xs.length = 0
  · have hx := List.eq_nil_of_length_eq_zero hx
    subst hx
    rw [List.drop_nil]
    exact ⟨by simp [bytesV], by simp, .inr ⟨_, c', rfl, fun h => absurd rfl h, fun j u hj => by simp [bytesV] at hj⟩⟩
  · have hs : ad.spot = none := by
      rcases h.2.2 with ⟨h, _⟩ | ⟨ad', cap, hv, hs, _⟩
      · simp at h
      · simp at hv
        rw [hv.1]
        exact hs hx
    obtain ⟨b, o, sp⟩ := ad
    have hs' : sp = none := hs
    subst hs'
    rw [Addr.add_lit]
    exact h.dropS hn c'
theorem Rds.dropZ {w : World} {ad : Addr} {xs : List Nat} {c n : Nat} (_h : Rds w 1 (.slice (some ad) xs.length c) xs.length (bytesV xs)) (hn : n = xs.length) (c' : Nat) : Rds w 1 (.slice (some ad) 0 c') 0 (bytesV (xs.drop n)) := by
  subst hn
  rw [List.drop_length]
  exact ⟨by simp [bytesV], by simp, .inr ⟨ad, c', rfl, fun h => absurd rfl h, fun j u hj => by simp [bytesV] at hj⟩⟩

/-- What is asked of Take. -/
def KPost (w0 w : World) (xs : List Nat) (bad : Bool) (n : Int) (e : Ending) (w' : World) : Prop :=
  ∃ a1 c1 a2 c2, e = .returned (.tuple #[.agg #[.slice a1 (leftN xs n).length c1, .bool (badN xs bad n)], .slice a2 (takeN xs n).length c2]) ∧ Rds w0 1 (.slice a1 (leftN xs n).length c1) (leftN xs n).length (bytesV (leftN xs n)) ∧ (leftN xs n).length ≤ c1 ∧ Rds w0 1 (.slice a2 (takeN xs n).length c2) (takeN xs n).length (bytesV (takeN xs n)) ∧ w.grownBy w' none

set_option maxRecDepth 100000 in
theorem rtake_bad (xs : List Nat) (bad : Bool) (a : Option Addr) (c : Nat) (n : Int) (w0 w : World) (hf : xs.length ≤ 2000) (hn : n < 0 ∨ (xs.length : Int) < n) :
    Calls Try.prog 20 #[.agg #[.slice a xs.length c, .bool bad], .int .i64 n] w (KPost w0 w xs bad n) := by
  have ho : overB xs n = true := decide_eq_true hn
  have e1 : takeN xs n = [] := by unfold takeN; rw [ho]; simp
  have e2 : leftN xs n = [] := by unfold leftN; rw [ho]; simp
  have e3 : badN xs bad n = true := by unfold badN; rw [ho]; simp
  have HP : Hid (∀ w', w.grownBy w' none → KPost w0 w xs bad n (.returned (.tuple #[.agg #[.slice none 0 0, .bool true], .slice none 0 0])) w') := Lib.hid (fun w' g => ⟨none, 0, none, 0, by rw [e1, e2, e3]; rfl, by rw [e2]; exact Rds.nil _ 1, by rw [e2]; simp, by rw [e1]; exact Rds.nil _ 1, g⟩)
  clear ho e1 e2 e3
  rcases (show n < 0 ∨ (¬ n < 0 ∧ (xs.length : Int) < n) by omega) with h1 | ⟨h1, h2⟩
  all_goals
    clear hn
    go_enter Try.func20, Try.ntmps20
    go_wp2
    have z0 : ((w.alloc (.cells #[.slice a xs.length c, .bool bad] 44)).alloc (.cells #[.slice none 0 0, .bool true] 44)).cell? ⟨w.heap.size + 1, 0, none⟩ = some (.slice none 0 0) := by simp
    have z1 : ((w.alloc (.cells #[.slice a xs.length c, .bool bad] 44)).alloc (.cells #[.slice none 0 0, .bool true] 44)).cell? ⟨w.heap.size + 1, 1, none⟩ = some (.bool true) := by simp
    refine bodyPost_ret (v := .tuple #[.agg #[.slice none 0 0, .bool true], .slice none 0 0]) (by simp [results, Try.results20, go_sem, z0, z1]) rfl (HP.out _ ?_)
    exact grownBy_trans (World.grownBy_alloc _ _ none) (World.grownBy_alloc _ _ none)

set_option maxRecDepth 100000 in
theorem rtake_good (xs : List Nat) (bad : Bool) (a : Option Addr) (c : Nat) (n : Nat) (w0 w : World) (hf : xs.length ≤ 2000) (hr : Rds w0 1 (.slice a xs.length c) xs.length (bytesV xs)) (hc : xs.length ≤ c) (hn : n ≤ xs.length) :
    Calls Try.prog 20 #[.agg #[.slice a xs.length c, .bool bad], .int .i64 n] w (KPost w0 w xs bad n) := by
  have ho : overB xs n = false := decide_eq_false (by omega)
  have e1 : takeN xs n = xs.take n := by unfold takeN; rw [ho]; simp
  have e2 : leftN xs n = xs.drop n := by unfold leftN; rw [ho]; simp
  have e3 : badN xs bad n = bad := by unfold badN; rw [ho]; simp
  have hl : (xs.take n).length = n := by rw [List.length_take]; omega
  have hl2 : (xs.drop n).length = xs.length - n := List.length_drop
  have d1 : decide ((n : Int) < 0) = false := by simp
  have d2 : decide ((xs.length : Int) < (n : Int)) = false := decide_eq_false (by omega)
  have d3 : decide (xs.length < n) = false := decide_eq_false (by omega)
  have HP : Hid (∀ (a1 : Option Addr) (c1 : Nat) (a2 : Option Addr) (c2 : Nat) w', Rds w0 1 (.slice a1 (xs.length - n) c1) (xs.length - n) (bytesV (xs.drop n)) → xs.length - n ≤ c1 → Rds w0 1 (.slice a2 n c2) n (bytesV (xs.take n)) → w.grownBy w' none → KPost w0 w xs bad n (.returned (.tuple #[.agg #[.slice a1 (xs.length - n) c1, .bool bad], .slice a2 n c2])) w') := Lib.hid (fun a1 c1 a2 c2 w' h1 h2 h3 g => by
    refine ⟨a1, c1, a2, c2, ?_, ?_, ?_, ?_, g⟩
    · rw [e1, e2, e3, hl, hl2]
    · rw [e2, hl2]; exact h1
    · rw [e2, hl2]; exact h2
    · rw [e1, hl]; exact h3)
  clear ho e1 e2 e3
  cases a with
  | none =>
    obtain ⟨rfl, rfl⟩ := Rds.none_nil hr
    obtain rfl : n = 0 := by simpa using hn
    clear d1 d2 d3 hl hl2 hr hc
    go_enter Try.func20, Try.ntmps20
    go_wp2_with fail
    obtain ⟨B, hB⟩ : ∃ B, w.heap.size = B := ⟨_, rfl⟩
    obtain ⟨w1, hw1⟩ : ∃ w1, (w.alloc (.cells #[.slice none 0 0, .bool bad] 44)).alloc (.cells #[.slice none 0 0, .bool false] 44) = w1 := ⟨_, rfl⟩
    have b2 : Blk w1 B 44 [.slice none 0 0, .bool bad] := by rw [← hw1, ← hB]; exact (Blk.new w _ _).grown (World.grownBy_alloc _ _ none) (by simp)
    have b4 : Blk w1 (B + 1) 44 [.slice none 0 0, .bool false] := by rw [← hw1, ← hB]; have := Blk.new (w.alloc (.cells #[.slice none 0 0, .bool bad] 44)) 44 [.slice none 0 0, .bool false]; simpa using this
    have hg1 : w.grownBy w1 none := by rw [← hw1]; exact grownBy_trans (World.grownBy_alloc _ _ none) (World.grownBy_alloc _ _ none)
    have hs1 : w.heap.size = B := hB
    rw [hB, hw1]
    clear hw1 hB
    have q0 := b2.cell (j := 0) rfl
    have q1 := b2.cell (j := 1) rfl
    have n0 := b4.frozen 0
    have n1 := b4.frozen 1
    have m0 := b4.cell (j := 0) rfl
    have m1 := b4.cell (j := 1) rfl
    have HB4 := Lib.hid b4
    have HB2 := Lib.hid b2
    have HG1 := Lib.hid hg1
    have HS1 := Lib.hid hs1
    clear b2 b4 hg1 hs1
    refine wp_region_plan (fun w' => w'.cell? ⟨B, 0, none⟩ = some (.slice none 0 0) ∧ w'.cell? ⟨B, 1, none⟩ = some (.bool bad)) 12 [([0, 1, 2, 3, 4, 5, 6, 7, 8, 9, 10], 11), ([], 12)] (by kernel_rfl) (by kernel_rfl) ?_
    refine wpPlan_seg ⟨q0, q1⟩ ?_
    repeat (apply wpRead_step rfl (by rfl); (· intro wS hSw; (try dsimp only at hSw); go_simp; (try with_reducible rfl)); simp only [Act.put, List.setIfInBounds_toArray, List.set_cons_zero, List.set_cons_succ])
    refine wpRead_nil ?_
    refine wpOp_list rfl (fun K hK => ?_)
    go_simp
    refine hK _ _ ?_
    clear hK K
    have h5 := ((HB4.out.setCell 0 (.slice none 0 0)).setCell 1 (.bool bad)).drew
    have h2 := ((HB2.out.setCell_other (p := ⟨B + 1, 0, none⟩) (by simp) (.slice none 0 0)).setCell_other (p := ⟨B + 1, 1, none⟩) (by simp) (.bool bad)).drew
    have g5 : w.grownBy ((w1.setCell ⟨B + 1, 0, none⟩ (.slice none 0 0)).setCell ⟨B + 1, 1, none⟩ (.bool bad)).drew none := grownBy_trans (grownBy_base2 (grownBy_base2 HG1.out (grownBy_setCell _ ⟨B + 1, 0, none⟩ _) (by have := HS1.out; simp; omega)) (grownBy_setCell _ ⟨B + 1, 1, none⟩ _) (by have := HS1.out; simp; omega)) (grownBy_drewN _ 1 none)
    obtain ⟨W5, hW5⟩ : ∃ W5, ((w1.setCell ⟨B + 1, 0, none⟩ (.slice none 0 0)).setCell ⟨B + 1, 1, none⟩ (.bool bad)).drew = W5 := ⟨_, rfl⟩
    rw [hW5] at h5 h2 g5 ⊢
    clear hW5
    have z0 := h5.cell (j := 0) rfl
    have z1 := h5.cell (j := 1) rfl
    have y0 := h2.cell (j := 0) rfl
    have y1 := h2.cell (j := 1) rfl
    have G5 := Lib.hid g5
    clear h5 h2 g5 q0 q1 n0 n1 m0 m1 HB4 HB2 HG1 HS1
    refine wpPlan_seg ⟨y0, y1⟩ ?_
    refine wpRead_nil ?_
    refine wpOp_list rfl (fun K hK => ?_)
    go_simp
    refine hK _ _ ?_
    clear hK K
    refine wpPlan_nil (NoPanic.normal ?_)
    go_wp2
    refine bodyPost_ret (v := .tuple #[.agg #[.slice none 0 0, .bool bad], .slice none 0 0]) (by simp [results, Try.results20, go_sem, z0, z1]) rfl (HP.out none 0 none 0 _ (Rds.nil _ 1) (by simp) (Rds.nil _ 1) G5.out)
  | some ad =>
    obtain ⟨b, o, sp⟩ := ad
    have R1 := Lib.hid (fun c' => hr.takeB hn c')
    have R2 := Lib.hid (fun c' => hr.dropA hn c')
    have HL := Lib.hid hl2
    have hn2 : n ≤ c := by omega
    have hp1 : (0 : Int) ≤ (n : Int) := by omega
    have hp2 : (n : Int) ≤ (c : Int) := by omega
    have hp3 : (n : Int) ≤ (xs.length : Int) := by omega
    by_cases hcn : c = n
    · obtain rfl : n = c := hcn.symm
      have hnl : n = xs.length := by omega
      have HNL := Lib.hid hnl
      have R3 := Lib.hid (fun c' => hr.dropZ hnl c')
      clear hnl hcn
      clear hl hl2 hr
      go_enter Try.func20, Try.ntmps20
      go_wp2_with fail
      obtain ⟨B, hB⟩ : ∃ B, w.heap.size = B := ⟨_, rfl⟩
      obtain ⟨w1, hw1⟩ : ∃ w1, (w.alloc (.cells #[.slice (some ⟨b, o, sp⟩) xs.length n, .bool bad] 44)).alloc (.cells #[.slice none 0 0, .bool false] 44) = w1 := ⟨_, rfl⟩
      have b2 : Blk w1 B 44 [.slice (some ⟨b, o, sp⟩) xs.length n, .bool bad] := by rw [← hw1, ← hB]; exact (Blk.new w _ _).grown (World.grownBy_alloc _ _ none) (by simp)
      have b4 : Blk w1 (B + 1) 44 [.slice none 0 0, .bool false] := by rw [← hw1, ← hB]; have := Blk.new (w.alloc (.cells #[.slice (some ⟨b, o, sp⟩) xs.length n, .bool bad] 44)) 44 [.slice none 0 0, .bool false]; simpa using this
      have hg1 : w.grownBy w1 none := by rw [← hw1]; exact grownBy_trans (World.grownBy_alloc _ _ none) (World.grownBy_alloc _ _ none)
      have hs1 : w.heap.size = B := hB
      rw [hB, hw1]
      clear hw1 hB
      have q0 := b2.cell (j := 0) rfl
      have q1 := b2.cell (j := 1) rfl
      have n0 := b4.frozen 0
      have n1 := b4.frozen 1
      have m0 := b4.cell (j := 0) rfl
      have m1 := b4.cell (j := 1) rfl
      have HB4 := Lib.hid b4
      have HB2 := Lib.hid b2
      have HG1 := Lib.hid hg1
      have HS1 := Lib.hid hs1
      clear b2 b4 hg1 hs1
      refine wp_region_plan (fun w' => w'.cell? ⟨B, 0, none⟩ = some (.slice (some ⟨b, o, sp⟩) xs.length n) ∧ w'.cell? ⟨B, 1, none⟩ = some (.bool bad)) 12 [([0, 1, 2, 3, 4, 5, 6, 7, 8, 9, 10], 11), ([], 12)] (by kernel_rfl) (by kernel_rfl) ?_
      refine wpPlan_seg ⟨q0, q1⟩ ?_
      repeat (apply wpRead_step rfl (by rfl); (· intro wS hSw; (try dsimp only at hSw); go_simp; (try with_reducible rfl)); simp only [Act.put, List.setIfInBounds_toArray, List.set_cons_zero, List.set_cons_succ])
      refine wpRead_nil ?_
      refine wpOp_list rfl (fun K hK => ?_)
      go_simp
      refine hK _ _ ?_
      clear hK K
      have h5 := ((HB4.out.setCell 0 (.slice (some ⟨b, o, sp⟩) 0 0)).setCell 1 (.bool bad)).drew
      have h2 := ((HB2.out.setCell_other (p := ⟨B + 1, 0, none⟩) (by simp) (.slice (some ⟨b, o, sp⟩) 0 0)).setCell_other (p := ⟨B + 1, 1, none⟩) (by simp) (.bool bad)).drew
      have g5 : w.grownBy ((w1.setCell ⟨B + 1, 0, none⟩ (.slice (some ⟨b, o, sp⟩) 0 0)).setCell ⟨B + 1, 1, none⟩ (.bool bad)).drew none := grownBy_trans (grownBy_base2 (grownBy_base2 HG1.out (grownBy_setCell _ ⟨B + 1, 0, none⟩ _) (by have := HS1.out; simp; omega)) (grownBy_setCell _ ⟨B + 1, 1, none⟩ _) (by have := HS1.out; simp; omega)) (grownBy_drewN _ 1 none)
      obtain ⟨W5, hW5⟩ : ∃ W5, ((w1.setCell ⟨B + 1, 0, none⟩ (.slice (some ⟨b, o, sp⟩) 0 0)).setCell ⟨B + 1, 1, none⟩ (.bool bad)).drew = W5 := ⟨_, rfl⟩
      rw [hW5] at h5 h2 g5 ⊢
      clear hW5
      have z0 := h5.cell (j := 0) rfl
      have z1 := h5.cell (j := 1) rfl
      have y0 := h2.cell (j := 0) rfl
      have y1 := h2.cell (j := 1) rfl
      have G5 := Lib.hid g5
      clear h5 h2 g5 q0 q1 n0 n1 m0 m1 HB4 HB2 HG1 HS1
      refine wpPlan_seg ⟨y0, y1⟩ ?_
      refine wpRead_nil ?_
      refine wpOp_list rfl (fun K hK => ?_)
      go_simp
      refine hK _ _ ?_
      clear hK K
      refine wpPlan_nil (NoPanic.normal ?_)
      go_wp2
      refine bodyPost_ret (v := .tuple #[.agg #[.slice (some ⟨b, o, sp⟩) 0 0, .bool bad], .slice (some ⟨b, o, sp⟩) n n]) (by simp [results, Try.results20, go_sem, z0, z1]) rfl (by have := HP.out (some ⟨b, o, sp⟩) 0 (some ⟨b, o, sp⟩) n W5 (by rw [show xs.length - n = 0 by have := HNL.out; omega]; exact R3.out 0) (by have := HNL.out; omega) (R1.out n) G5.out; rw [show xs.length - n = 0 by have := HNL.out; omega] at this; exact this)
    · have hcn2 : ¬ n = c := fun e => hcn e.symm
      clear hl hl2 hr
      go_enter Try.func20, Try.ntmps20
      go_wp2_with fail
      obtain ⟨B, hB⟩ : ∃ B, w.heap.size = B := ⟨_, rfl⟩
      obtain ⟨w1, hw1⟩ : ∃ w1, (w.alloc (.cells #[.slice (some ⟨b, o, sp⟩) xs.length c, .bool bad] 44)).alloc (.cells #[.slice none 0 0, .bool false] 44) = w1 := ⟨_, rfl⟩
      have b2 : Blk w1 B 44 [.slice (some ⟨b, o, sp⟩) xs.length c, .bool bad] := by rw [← hw1, ← hB]; exact (Blk.new w _ _).grown (World.grownBy_alloc _ _ none) (by simp)
      have b4 : Blk w1 (B + 1) 44 [.slice none 0 0, .bool false] := by rw [← hw1, ← hB]; have := Blk.new (w.alloc (.cells #[.slice (some ⟨b, o, sp⟩) xs.length c, .bool bad] 44)) 44 [.slice none 0 0, .bool false]; simpa using this
      have hg1 : w.grownBy w1 none := by rw [← hw1]; exact grownBy_trans (World.grownBy_alloc _ _ none) (World.grownBy_alloc _ _ none)
      have hs1 : w.heap.size = B := hB
      rw [hB, hw1]
      clear hw1 hB
      have q0 := b2.cell (j := 0) rfl
      have q1 := b2.cell (j := 1) rfl
      have n0 := b4.frozen 0
      have n1 := b4.frozen 1
      have m0 := b4.cell (j := 0) rfl
      have m1 := b4.cell (j := 1) rfl
      have HB4 := Lib.hid b4
      have HB2 := Lib.hid b2
      have HG1 := Lib.hid hg1
      have HS1 := Lib.hid hs1
      clear b2 b4 hg1 hs1
      refine wp_region_plan (fun w' => w'.cell? ⟨B, 0, none⟩ = some (.slice (some ⟨b, o, sp⟩) xs.length c) ∧ w'.cell? ⟨B, 1, none⟩ = some (.bool bad)) 12 [([0, 1, 2, 3, 4, 5, 6, 7, 8, 9, 10], 11), ([], 12)] (by kernel_rfl) (by kernel_rfl) ?_
      refine wpPlan_seg ⟨q0, q1⟩ ?_
      repeat (apply wpRead_step rfl (by rfl); (· intro wS hSw; (try dsimp only at hSw); go_simp; (try with_reducible rfl)); simp only [Act.put, List.setIfInBounds_toArray, List.set_cons_zero, List.set_cons_succ])
      refine wpRead_nil ?_
      refine wpOp_list rfl (fun K hK => ?_)
      go_simp
      refine hK _ _ ?_
      clear hK K
      have h5 := ((HB4.out.setCell 0 (.slice (some ((⟨b, o, sp⟩ : Addr).add n)) (xs.length - n) (c - n))).setCell 1 (.bool bad)).drew
      have h2 := ((HB2.out.setCell_other (p := ⟨B + 1, 0, none⟩) (by simp) (.slice (some ((⟨b, o, sp⟩ : Addr).add n)) (xs.length - n) (c - n))).setCell_other (p := ⟨B + 1, 1, none⟩) (by simp) (.bool bad)).drew
      have g5 : w.grownBy ((w1.setCell ⟨B + 1, 0, none⟩ (.slice (some ((⟨b, o, sp⟩ : Addr).add n)) (xs.length - n) (c - n))).setCell ⟨B + 1, 1, none⟩ (.bool bad)).drew none := grownBy_trans (grownBy_base2 (grownBy_base2 HG1.out (grownBy_setCell _ ⟨B + 1, 0, none⟩ _) (by have := HS1.out; simp; omega)) (grownBy_setCell _ ⟨B + 1, 1, none⟩ _) (by have := HS1.out; simp; omega)) (grownBy_drewN _ 1 none)
      obtain ⟨W5, hW5⟩ : ∃ W5, ((w1.setCell ⟨B + 1, 0, none⟩ (.slice (some ((⟨b, o, sp⟩ : Addr).add n)) (xs.length - n) (c - n))).setCell ⟨B + 1, 1, none⟩ (.bool bad)).drew = W5 := ⟨_, rfl⟩
      rw [hW5] at h5 h2 g5 ⊢
      clear hW5
      have z0 := h5.cell (j := 0) rfl
      have z1 := h5.cell (j := 1) rfl
      have y0 := h2.cell (j := 0) rfl
      have y1 := h2.cell (j := 1) rfl
      have G5 := Lib.hid g5
      clear h5 h2 g5 q0 q1 n0 n1 m0 m1 HB4 HB2 HG1 HS1
      refine wpPlan_seg ⟨y0, y1⟩ ?_
      refine wpRead_nil ?_
      refine wpOp_list rfl (fun K hK => ?_)
      go_simp
      refine hK _ _ ?_
      clear hK K
      refine wpPlan_nil (NoPanic.normal ?_)
      go_wp2
      refine bodyPost_ret (v := .tuple #[.agg #[.slice (some ((⟨b, o, sp⟩ : Addr).add n)) (xs.length - n) (c - n), .bool bad], .slice (some ⟨b, o, sp⟩) n c]) (by simp [results, Try.results20, go_sem, z0, z1]) rfl (HP.out _ _ _ _ _ (by have := R2.out (c - n); rw [HL.out] at this; exact this) (by omega) (R1.out c) G5.out)

theorem rtake_any (xs : List Nat) (bad : Bool) (a : Option Addr) (c : Nat) (n : Int) (w0 w : World) (hf : xs.length ≤ 2000) (hr : Rds w0 1 (.slice a xs.length c) xs.length (bytesV xs)) (hc : xs.length ≤ c) :
    Calls Try.prog 20 #[.agg #[.slice a xs.length c, .bool bad], .int .i64 n] w (KPost w0 w xs bad n) := by
  by_cases hn : n < 0 ∨ (xs.length : Int) < n
  · exact rtake_bad xs bad a c n w0 w hf hn
  · obtain ⟨k, rfl⟩ := Int.eq_ofNat_of_zero_le (show 0 ≤ n by omega)
    exact rtake_good xs bad a c k w0 w hf hr hc (by omega)

end Go.Proofs.Ytmmkfchijafjeaa
