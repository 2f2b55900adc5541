/- package bucket: slices.ContainsFunc with Right's test. -/
import Derived.Test.YtddpjfmogjcimaaBkRight1
namespace Go.Proofs.Ytddpjfmogjcimaa
open Go.RowKit

/-- Is one of them none of the bucket's? -/
def anyBad (d p : Int) (xs : List Ent) : Bool := xs.any fun x => !okE d p x
theorem anyBad_no {d p : Int} {xs : List Ent} (h : ∀ i, i < xs.length → okE d p (xs.getD i Ent.zero) = true) : anyBad d p xs = false := by
  unfold anyBad
  rw [List.any_eq_false]
  intro x hx
  obtain ⟨i, hi, rfl⟩ := List.mem_iff_getElem.1 hx
  have := h i hi
  rw [List.getD_eq_getElem?_getD, List.getElem?_eq_getElem hi, Option.getD_some] at this
  rw [this]
  simp
theorem anyBad_yes {d p : Int} {xs : List Ent} (i : Nat) (hi : i < xs.length) (h : okE d p (xs.getD i Ent.zero) = false) : anyBad d p xs = true := by
  unfold anyBad
  rw [List.any_eq_true]
  refine ⟨xs.getD i Ent.zero, ?_, by rw [h]; rfl⟩
  rw [List.getD_eq_getElem?_getD, List.getElem?_eq_getElem hi, Option.getD_some]
  exact List.getElem_mem hi

set_option maxRecDepth 100000 in
set_option maxHeartbeats 1000000 in
theorem index_right (B : Nat) (d p : Int) (xs : List Ent) (a : Option Addr) (c : Nat) (w : World) (hr : Rds w 4 (.slice a xs.length c) xs.length (entsV xs)) (h0 : w.cell? ⟨B, 0, none⟩ = some (.int .i64 d)) (h1 : w.cell? ⟨B, 1, none⟩ = some (.int .i64 p)) :
    Calls Try.prog 58 #[.slice a xs.length c, .func (.func 40) #[] #[.pointer (some ⟨B, 0, none⟩)]] w fun e w' => ∃ r : Int, e = .returned (.int .i64 r) ∧ decide (0 ≤ r) = anyBad d p xs ∧ w.grownBy w' none := by
  have hm := hr.2.1
  unfold maxLen at hm
  have HR := Lib.hid hr
  have H0 := Lib.hid h0
  have H1 := Lib.hid h1
  clear hr h0 h1
  go_enter Try.func58, Try.ntmps58
  go_wp2
  go_loopw [8] (fun i wr => ∃ k : Nat, k ≤ xs.length ∧ i = .int .i64 k ∧ (∀ j, j < k → okE d p (xs.getD j Ent.zero) = true) ∧ w.grownBy wr none) (fun i _ => xs.length - (intOf i).toNat)
  case atStart => exact ⟨0, by omega, rfl, fun j hj => by omega, grownBy_refl _ _⟩
  case round =>
    obtain ⟨k, hk, rfl, hall, hg⟩ := hrel
    have HG := Lib.hid hg
    have HALL := Lib.hid hall
    clear hall
    by_cases hlt : k < xs.length
    · obtain ⟨b, o, rfl, hc⟩ := HR.out.at' (by omega)
      obtain ⟨e0, e1, e2, e3⟩ := entsV_cells xs k hlt
      have x0 := hg.cell (hc _ _ e0) (by simp)
      have x1 := hg.cell (hc _ _ e1) (by simp)
      have x2 := hg.cell (hc _ _ e2) (by simp)
      have x3 := hg.cell (hc _ _ e3) (by simp)
      simp only [← Nat.add_assoc] at x1 x2 x3
      have HC := Lib.hid (right1_any B d p (xs.getD k Ent.zero) wr (hg.cell H0.out (by simp)) (hg.cell H1.out (by simp)))
      have HN : Hid (okE d p (xs.getD k Ent.zero) = true → ∀ j, j < k + 1 → okE d p (xs.getD j Ent.zero) = true) := Lib.hid (fun h j hj => by
        by_cases hjk : j = k
        · subst hjk; exact h
        · exact HALL.out j (by omega))
      have HY := Lib.hid (anyBad_yes (d := d) (p := p) k hlt)
      clear hc e0 e1 e2 e3 hg
      generalize xs.getD k Ent.zero = x at *
      cases hok : okE d p x
      · rw [hok] at HC
        have HY1 := Lib.hid (HY.out hok)
        clear hok HY HN
        go_wp2_with fail
        refine HC.out.mono ?_
        rintro e w3 ⟨rfl, g3⟩
        have G3 := Lib.hid g3
        clear g3 HC
        go_wp2_with fail
        go_ret
        exact ⟨(k : Int), rfl, by rw [HY1.out]; simp, grownBy_trans HG.out G3.out⟩
      · rw [hok] at HC
        have HN1 := Lib.hid (HN.out hok)
        clear hok HY HN
        go_wp2_with fail
        refine HC.out.mono ?_
        rintro e w3 ⟨rfl, g3⟩
        have G3 := Lib.hid g3
        clear g3 HC
        go_wp2_with fail
        go_roundw
        case rel => exact ⟨k + 1, by omega, by go_num, HN1.out, grownBy_trans HG.out G3.out⟩
        case measure => simp [intOf]; omega
    · obtain rfl : k = xs.length := by omega
      go_wp2_with fail
      go_ret
      exact ⟨-1, rfl, by rw [anyBad_no HALL.out]; rfl, HG.out⟩

theorem contains_right (B : Nat) (d p : Int) (xs : List Ent) (a : Option Addr) (c : Nat) (w : World) (hr : Rds w 4 (.slice a xs.length c) xs.length (entsV xs)) (h0 : w.cell? ⟨B, 0, none⟩ = some (.int .i64 d)) (h1 : w.cell? ⟨B, 1, none⟩ = some (.int .i64 p)) :
    Calls Try.prog 39 #[.slice a xs.length c, .func (.func 40) #[] #[.pointer (some ⟨B, 0, none⟩)]] w fun e w' => e = .returned (.bool (anyBad d p xs)) ∧ w.grownBy w' none := by
  have HI := Lib.hid (index_right B d p xs a c w hr h0 h1)
  clear hr h0 h1
  go_enter Try.func39, Try.ntmps39
  go_wp2_with fail
  refine HI.out.mono ?_
  rintro e w3 ⟨r, rfl, hr, g3⟩
  have HRR := Lib.hid hr
  clear hr
  cases hd : decide (0 ≤ r)
  all_goals
    have HD := Lib.hid hd
    go_wp2_with fail
    go_ret
    exact ⟨by rw [← HRR.out, HD.out]; rfl, g3⟩

end Go.Proofs.Ytddpjfmogjcimaa
