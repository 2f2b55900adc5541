/- package bucket: within, right, Right's test. -/
import Derived.Test.YtddpjfmogjcimaaRight
import Derived.Test.YtddpjfmogjcimaaPreW
namespace Go.Proofs.Ytddpjfmogjcimaa
open Go.RowKit

theorem within_any (n h : Int) (w : World) :
    Calls Try.prog 37 #[.int .i64 n, .int .i64 h] w fun e w' => e = .returned (.bool (decide (0 ≤ n ∧ n ≤ h))) ∧ w = w' := by
  have hc : (n < 0 ∧ decide (0 ≤ n ∧ n ≤ h) = false) ∨ (0 ≤ n ∧ ¬ n ≤ h ∧ decide (0 ≤ n ∧ n ≤ h) = false) ∨ (0 ≤ n ∧ n ≤ h ∧ decide (0 ≤ n ∧ n ≤ h) = true) := by
    by_cases h1 : 0 ≤ n
    · by_cases h2 : n ≤ h
      · exact .inr (.inr ⟨h1, h2, decide_eq_true ⟨h1, h2⟩⟩)
      · exact .inr (.inl ⟨h1, h2, decide_eq_false (fun h => h2 h.2)⟩)
    · exact .inl ⟨by omega, decide_eq_false (fun h => h1 h.1)⟩
  rcases hc with ⟨h1, h2⟩ | ⟨h1, h2, h3⟩ | ⟨h1, h2, h3⟩
  · have H := Lib.hid h2
    have d1 : decide (0 ≤ n) = false := decide_eq_false (by omega)
    clear h2 h1
    go_enter Try.func37, Try.ntmps37
    go_wp2
    go_ret
    exact ⟨by rw [H.out]; rfl, rfl⟩
  · have H := Lib.hid h3
    have d1 : decide (0 ≤ n) = true := decide_eq_true h1
    have d2 : decide (n ≤ h) = false := decide_eq_false h2
    clear h1 h2 h3
    go_enter Try.func37, Try.ntmps37
    go_wp2
    go_ret
    exact ⟨by rw [H.out]; rfl, rfl⟩
  · have H := Lib.hid h3
    have d1 : decide (0 ≤ n) = true := decide_eq_true h1
    have d2 : decide (n ≤ h) = true := decide_eq_true h2
    clear h1 h2 h3
    go_enter Try.func37, Try.ntmps37
    go_wp2
    go_ret
    exact ⟨by rw [H.out]; rfl, rfl⟩

/-- Does an entry lie in range? -/
def locE (x : Ent) : Bool := decide (0 ≤ x.r ∧ x.r ≤ 1099511627776 ∧ 0 ≤ x.a ∧ x.a ≤ 65535 ∧ 0 ≤ x.s ∧ x.s ≤ 65535)
theorem okE_eq (d p : Int) (x : Ent) : okE d p x = (locE x && decide (pre x.h d = p)) := rfl
theorem locE_eq (x : Ent) : locE x = (decide (0 ≤ x.r ∧ x.r ≤ 1099511627776) && (decide (0 ≤ x.a ∧ x.a ≤ 65535) && decide (0 ≤ x.s ∧ x.s ≤ 65535))) := by
  unfold locE
  rw [← Bool.decide_and, ← Bool.decide_and]
  exact decide_eq_decide.2 (by constructor <;> intro h <;> omega)

set_option maxRecDepth 100000 in
theorem eright_any (x : Ent) (w : World) :
    Calls Try.prog 41 #[.agg #[.int .u64 (U x.h), .int .i64 x.r, .int .i64 x.a, .int .i64 x.s]] w fun e w' => e = .returned (.bool (locE x)) ∧ w.grownBy w' none := by
  have H := Lib.hid (locE_eq x)
  have K1 := Lib.hid (fun W => within_any x.r 1099511627776 W)
  have K2 := Lib.hid (fun W => within_any x.a 65535 W)
  have K3 := Lib.hid (fun W => within_any x.s 65535 W)
  generalize decide (0 ≤ x.r ∧ x.r ≤ 1099511627776) = b1 at *
  generalize decide (0 ≤ x.a ∧ x.a ≤ 65535) = b2 at *
  generalize decide (0 ≤ x.s ∧ x.s ≤ 65535) = b3 at *
  cases b1
  all_goals cases b2
  all_goals cases b3
  all_goals
    go_enter Try.func41, Try.ntmps41
    go_wp2_with (first | (go_at_call 37; refine (K1.out _).mono ?_; clear K1; rintro e w1 ⟨rfl, rfl⟩) | (go_at_call 37; refine (K2.out _).mono ?_; clear K2; rintro e w1 ⟨rfl, rfl⟩) | (go_at_call 37; refine (K3.out _).mono ?_; clear K3; rintro e w1 ⟨rfl, rfl⟩))
    go_ret
    exact ⟨by rw [H.out]; rfl, World.grownBy_alloc _ _ none⟩

set_option maxRecDepth 100000 in
set_option maxHeartbeats 1000000 in
theorem right1_any (B : Nat) (d p : Int) (x : Ent) (w : World) (h0 : w.cell? ⟨B, 0, none⟩ = some (.int .i64 d)) (h1 : w.cell? ⟨B, 1, none⟩ = some (.int .i64 p)) :
    Calls Try.prog 40 #[.agg #[.int .u64 (U x.h), .int .i64 x.r, .int .i64 x.a, .int .i64 x.s], .pointer (some ⟨B, 0, none⟩)] w fun e w' => e = .returned (.bool (!okE d p x)) ∧ w.grownBy w' none := by
  have hok := okE_eq d p x
  have KR := Lib.hid (fun W => eright_any x W)
  have KP := Lib.hid (fun W => prefix_any x.h d W)
  obtain ⟨w1, hw1⟩ : ∃ w1, w.alloc (.cells #[.int .u64 (U x.h), .int .i64 x.r, .int .i64 x.a, .int .i64 x.s] 41) = w1 := ⟨_, rfl⟩
  have hb : Blk w1 w.heap.size 41 [.int .u64 (U x.h), .int .i64 x.r, .int .i64 x.a, .int .i64 x.s] := by rw [← hw1]; exact Blk.new w _ _
  have hg : w.grownBy w1 none := by rw [← hw1]; exact World.grownBy_alloc _ _ none
  have HG := Lib.hid hg
  have x0 := gw_cell (hb.cell (j := 0) rfl)
  have x1 := gw_cell (hb.cell (j := 1) rfl)
  have x2 := gw_cell (hb.cell (j := 2) rfl)
  have x3 := gw_cell (hb.cell (j := 3) rfl)
  have b0 := gw_cell (hg.cell h0 (by simp))
  have b1 := gw_cell (hg.cell h1 (by simp))
  cases hl : locE x
  · rw [hl] at hok KR
    have H := Lib.hid hok
    clear hok hl hb hg h0 h1
    go_enter Try.func40, Try.ntmps40
    go_wp2_with fail
    refine wp_region_grown (by kernel_rfl) (by kernel_rfl) ?_
    repeat (go_big_quiet_step ((go_at_call 41; exact calls_grown' KR.out _)))
    refine wpQuiet_nil ?_
    rintro _ ⟨g, rfl⟩
    have G4 := Lib.hid (gw_grown g)
    go_wp2
    go_ret
    exact ⟨by rw [H.out]; rfl, grownBy_trans HG.out G4.out⟩
  · cases hp : decide (pre x.h d = p)
    all_goals
      rw [hl, hp] at hok
      have H := Lib.hid hok
      have hne : (pre x.h d != p) = !decide (pre x.h d = p) := by simp [bne]; rfl
      rw [hp] at hne
      have HNE := Lib.hid hne
      rw [hl] at KR
      clear hok hp hl hb hg h0 h1
      go_enter Try.func40, Try.ntmps40
      go_wp2_with fail
      refine wp_region_grown (by kernel_rfl) (by kernel_rfl) ?_
      repeat (go_big_quiet_step (first | (go_at_call 41; exact calls_grown' KR.out _) | (go_at_call 36; exact calls_grown' (fun W => (KP.out W).mono (fun e w' h => ⟨h.1, by rw [← h.2]; exact grownBy_refl _ _⟩)) _)))
      refine wpQuiet_nil ?_
      rintro _ ⟨g, rfl⟩
      have G4 := Lib.hid (gw_grown g)
      go_wp2
      go_ret
      exact ⟨by rw [H.out]; rfl, grownBy_trans HG.out G4.out⟩

end Go.Proofs.Ytddpjfmogjcimaa
