/- package bucket: place (slices.BinarySearchFunc at entries). -/
import Derived.Test.YtddpjfmogjcimaaCmp
namespace Go.Proofs.Ytddpjfmogjcimaa
open Go.RowKit
attribute [local go_sem ↓] Go.wp_at_zero Go.wp_at_succ

/-- Where a number stands, or would. -/
structure Plc (xs : List Ent) (h : Int) (i : Nat) : Prop where
  le : i ≤ xs.length
  lo : ∀ m, m < i → U (xs.getD m Ent.zero).h < h
  hi : ∀ m, i ≤ m → m < xs.length → h ≤ U (xs.getD m Ent.zero).h
def hasB (xs : List Ent) (h : Int) (i : Nat) : Bool := decide (i < xs.length) && decide (U (xs.getD i Ent.zero).h = h)

set_option maxRecDepth 100000 in
theorem place1_any (x : Ent) (h : Int) (W : World) : Calls Try.prog 67 #[x.val, .int .u64 h] W fun e w' => e = .returned (.int .i64 (cmpI (U x.h) h)) ∧ W.grownBy w' none := by
  unfold Ent.val
  generalize U x.h = xh
  go_enter Try.func67, Try.ntmps67
  go_wp2_with fail
  refine (compare_u64 _ _ _).mono ?_
  rintro e w' ⟨rfl, rfl⟩
  go_wp2_with fail
  go_ret
  exact ⟨rfl, World.grownBy_alloc _ _ none⟩

set_option maxRecDepth 100000 in
set_option maxHeartbeats 4000000 in
theorem search_any (xs : List Ent) (h : Int) (a : Option Addr) (c : Nat) (w : World) (hx : xs.length ≤ 300) (hs : xs.Pairwise (fun x y => U x.h < U y.h)) (hr : Rds w 4 (.slice a xs.length c) xs.length (entsV xs)) :
    Calls Try.prog 66 #[.slice a xs.length c, .int .u64 h, .func (.func 67) #[] #[]] w fun e w' => ∃ i, e = .returned (.tuple #[.int .i64 (i : Nat), .bool (hasB xs h i)]) ∧ Plc xs h i ∧ w.grownBy w' none := by
  have HR := Lib.hid hr
  have HS : Hid (∀ i j, i ≤ j → j < xs.length → U (xs.getD i Ent.zero).h ≤ U (xs.getD j Ent.zero).h) := Lib.hid (fun i j hij hj => by
    rcases Nat.eq_or_lt_of_le hij with rfl | h
    · exact Int.le_refl _
    · have := (List.pairwise_iff_getElem.1 hs) i j (by omega) hj h
      simp only [List.getD, List.getElem?_eq_getElem (show i < xs.length by omega), List.getElem?_eq_getElem hj, Option.getD_some]
      omega)
  clear hr hs
  go_enter Try.func66, Try.ntmps66
  go_wp2_with fail
  go_loopw [9, 10] (fun p q wr => ∃ i j : Nat, i ≤ j ∧ j ≤ xs.length ∧ p = .int .i64 i ∧ q = .int .i64 j ∧ (∀ m, m < i → U (xs.getD m Ent.zero).h < h) ∧ (∀ m, j ≤ m → m < xs.length → h ≤ U (xs.getD m Ent.zero).h) ∧ w.grownBy wr none) (fun p q _ => (intOf q).toNat - (intOf p).toNat)
  case atStart => exact ⟨0, xs.length, by omega, Nat.le_refl _, rfl, rfl, fun m hm => by omega, fun m h1 h2 => by omega, grownBy_refl _ _⟩
  case round =>
    obtain ⟨i, j, hij, hj, rfl, rfl, hlo, hhi, hg⟩ := hrel
    have HLO := Lib.hid hlo
    have HHI := Lib.hid hhi
    clear hlo hhi
    by_cases hlt : i < j
    · have hlti : (i : Int) < (j : Int) := by omega
      obtain ⟨b, o, rfl, hc⟩ := HR.out.at' (by omega)
      have hw1 : IntKind.i64.wrap ((i : Int) + j) = ((i + j : Nat) : Int) := by rw [IntWalk.i64_in _ ⟨by omega, by omega⟩]; omega
      have hw2 : IntKind.u64.wrap ((i + j : Nat) : Int) = ((i + j : Nat) : Int) := by rw [IntKind.wrap_u64]; omega
      obtain ⟨m, hm⟩ : ∃ m, (i + j) / 2 = m := ⟨_, rfl⟩
      have hmi : i ≤ m := by omega
      have hmj : m < j := by omega
      obtain ⟨e0, e1, e2, e3⟩ := entsV_cells xs m (by omega)
      have x0 := hg.cell (hc _ _ e0) (by simp)
      have x1 := hg.cell (hc _ _ e1) (by simp)
      have x2 := hg.cell (hc _ _ e2) (by simp)
      have x3 := hg.cell (hc _ _ e3) (by simp)
      simp only [← Nat.add_assoc] at x1 x2 x3
      have hmn : (m : Int) < (xs.length : Int) := by omega
      obtain ⟨x, hxm⟩ : ∃ x, xs.getD m Ent.zero = x := ⟨_, rfl⟩
      rw [hxm] at x0 x1 x2 x3
      have HXM := Lib.hid hxm
      have HG := Lib.hid hg
      clear hxm hc e0 e1 e2 e3 hg
      go_wp2_with fail
      refine (place1_any x h _).mono ?_
      rintro e w1 ⟨rfl, g1⟩
      have HG1 := Lib.hid (grownBy_trans HG.out g1)
      clear g1 HG x0 x1 x2 x3
      rcases (show (cmpI (U x.h) h = -1 ∧ U x.h < h) ∨ (cmpI (U x.h) h = 0 ∧ U x.h = h) ∨ (cmpI (U x.h) h = 1 ∧ h < U x.h) by unfold cmpI; split <;> (try split) <;> simp <;> omega) with ⟨hc1, hc2⟩ | ⟨hc1, hc2⟩ | ⟨hc1, hc2⟩
      · rw [hc1]
        clear hc1
        have HL2 : Hid (∀ q, q < m + 1 → U (xs.getD q Ent.zero).h < h) := Lib.hid (fun q hq => by
          have h1 := HS.out q m (by omega) (by omega)
          rw [HXM.out] at h1
          omega)
        clear hc2
        go_wp2_with fail
        exact ⟨⟨m + 1, j, by omega, by omega, by congr 1; omega, rfl, HL2.out, HHI.out, HG1.out⟩, by simp [intOf]; omega⟩
      all_goals
        rw [hc1]
        clear hc1
        have HH2 : Hid (∀ q, m ≤ q → q < xs.length → h ≤ U (xs.getD q Ent.zero).h) := Lib.hid (fun q hq hq2 => by
          have h1 := HS.out m q hq hq2
          rw [HXM.out] at h1
          omega)
        clear hc2
        go_wp2_with fail
        exact ⟨⟨i, m, by omega, by omega, rfl, by congr 1; omega, HLO.out, HH2.out, HG1.out⟩, by simp [intOf]; omega⟩
    · obtain rfl : i = j := by omega
      have hlti : ¬ (i : Int) < (i : Int) := by omega
      have HPL : Hid (Plc xs h i) := Lib.hid ⟨hj, HLO.out, HHI.out⟩
      by_cases hin : i < xs.length
      · have hini : (i : Int) < (xs.length : Int) := by omega
        obtain ⟨b, o, rfl, hc⟩ := HR.out.at' (by omega)
        obtain ⟨e0, e1, e2, e3⟩ := entsV_cells xs i hin
        have x0 := hg.cell (hc _ _ e0) (by simp)
        have x1 := hg.cell (hc _ _ e1) (by simp)
        have x2 := hg.cell (hc _ _ e2) (by simp)
        have x3 := hg.cell (hc _ _ e3) (by simp)
        simp only [← Nat.add_assoc] at x1 x2 x3
        have hhb : hasB xs h i = decide (U (xs.getD i Ent.zero).h = h) := by unfold hasB; rw [decide_eq_true hin, Bool.true_and]
        obtain ⟨x, hxm⟩ : ∃ x, xs.getD i Ent.zero = x := ⟨_, rfl⟩
        rw [hxm] at x0 x1 x2 x3 hhb
        have HG := Lib.hid hg
        have HHB := Lib.hid hhb
        clear hxm hc e0 e1 e2 e3 hg hhb
        go_wp2_with fail
        refine (place1_any x h _).mono ?_
        rintro e w1 ⟨rfl, g1⟩
        have HG1 := Lib.hid (grownBy_trans HG.out g1)
        clear g1 HG x0 x1 x2 x3
        have hce : decide (U x.h = h) = decide (cmpI (U x.h) h = 0) := by
          rw [decide_eq_decide]
          unfold cmpI
          split <;> (try split) <;> simp <;> omega
        rw [hce] at HHB
        clear hce
        go_wp2_with fail
        go_ret2
        exact ⟨i, by rw [HHB.out]; rfl, HPL.out, HG1.out⟩
      · have hini : ¬ (i : Int) < (xs.length : Int) := by omega
        have HHB : Hid (hasB xs h i = false) := Lib.hid (by unfold hasB; rw [decide_eq_false hin]; rfl)
        have HG := Lib.hid hg
        clear hg
        go_wp2_with fail
        go_ret2
        exact ⟨i, by rw [HHB.out]; rfl, HPL.out, HG.out⟩

set_option maxRecDepth 100000 in
set_option maxHeartbeats 4000000 in
theorem place_any (d p : Int) (xs : List Ent) (h : Int) (a : Option Addr) (c : Nat) (w : World) (hx : xs.length ≤ 300) (hs : xs.Pairwise (fun x y => U x.h < U y.h)) (hr : Rds w 4 (.slice a xs.length c) xs.length (entsV xs)) :
    Calls Try.prog 52 #[.agg #[.int .i64 d, .int .i64 p, .slice a xs.length c], .int .u64 h] w fun e w' => ∃ i, e = .returned (.tuple #[.int .i64 (i : Nat), .bool (hasB xs h i)]) ∧ Plc xs h i ∧ w.grownBy w' none := by
  have HSR := Lib.hid (search_any xs h a c _ hx hs (hr.alloc (.cells #[.int .i64 d, .int .i64 p, .slice a xs.length c] 29)))
  clear hs hr
  go_enter Try.func52, Try.ntmps52
  go_wp2_with fail
  refine HSR.out.mono ?_
  rintro e w1 ⟨i, rfl, hp, g1⟩
  have HE := Lib.hid (show Plc xs h i ∧ w.grownBy w1 none from ⟨hp, grownBy_trans (World.grownBy_alloc _ _ none) g1⟩)
  clear hp g1
  go_wp2_with fail
  go_ret2
  exact ⟨i, rfl, HE.out.1, HE.out.2⟩

end Go.Proofs.Ytddpjfmogjcimaa
