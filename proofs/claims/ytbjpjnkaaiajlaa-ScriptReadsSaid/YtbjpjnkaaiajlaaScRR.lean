/- Layer 20, the document: Has, Right. -/
import Derived.Test.YtbjpjnkaaiajlaaScR
import Derived.Test.YtbjpjnkaaiajlaaStr
namespace Go.Proofs.Ytbjpjnkaaiajlaa
open Go.RowKit

theorem has_form (k : Int) : (formX k).key = (decide (0 ≤ k) && decide (k ≤ 2)) ∧ (formX k).value = (k == 1) ∧ (formX k).num = ((k == 1) || (k == 5) || (k == 6)) := by
  by_cases h : 0 ≤ k ∧ k < 10
  · obtain ⟨m, rfl⟩ := Int.eq_ofNat_of_zero_le h.1
    rcases (show m = 0 ∨ m = 1 ∨ m = 2 ∨ m = 3 ∨ m = 4 ∨ m = 5 ∨ m = 6 ∨ m = 7 ∨ m = 8 ∨ m = 9 by omega) with rfl | rfl | rfl | rfl | rfl | rfl | rfl | rfl | rfl | rfl <;> decide
  · have hk : formX k = noForm := by
      unfold formX
      rw [if_neg (fun h' => h (isK_iff.1 h'))]
    rw [hk]
    have h1 : (k == 1) = false := beq_eq_false_iff_ne.2 (by omega)
    have h5 : (k == 5) = false := beq_eq_false_iff_ne.2 (by omega)
    have h6 : (k == 6) = false := beq_eq_false_iff_ne.2 (by omega)
    rw [h1, h5, h6]
    refine ⟨?_, rfl, rfl⟩
    show false = _
    symm
    rw [Bool.and_eq_false_iff, decide_eq_false_iff_not, decide_eq_false_iff_not]
    omega

theorem rhas_any (k : Int) (w : World) :
    Calls Try.prog 26 #[.int .i64 k] w fun e w' => e = .returned (.agg #[.bool (formX k).key, .bool (formX k).value, .bool (formX k).num]) ∧ w.grownBy w' none := by
  obtain ⟨h1, h2, h3⟩ := has_form k
  rw [h1, h2, h3]
  clear h1 h2 h3
  rcases (show k < 0 ∨ (2 < k ∧ k ≠ 5 ∧ k ≠ 6) ∨ k = 0 ∨ k = 1 ∨ k = 2 ∨ k = 5 ∨ k = 6 by omega) with h | ⟨h, h5, h6⟩ | rfl | rfl | rfl | rfl | rfl
  · have d0 : decide (0 ≤ k) = false := decide_eq_false (by omega)
    have d2 : decide (k ≤ 2) = true := decide_eq_true (by omega)
    have e1 : (k == 1) = false := beq_eq_false_iff_ne.2 (by omega)
    have e5 : (k == 5) = false := beq_eq_false_iff_ne.2 (by omega)
    have e6 : (k == 6) = false := beq_eq_false_iff_ne.2 (by omega)
    rw [d0, d2, e1, e5, e6]
    clear h
    go_enter Try.func26, Try.ntmps26
    go_wp2_with fail
    refine bodyPost_ret (v := .agg #[.bool _, .bool _, .bool _]) (by simp [results, Try.results26, go_sem]) rfl ⟨rfl, World.grownBy_alloc _ _ none⟩
  · have d0 : decide (0 ≤ k) = true := decide_eq_true (by omega)
    have d2 : decide (k ≤ 2) = false := decide_eq_false (by omega)
    have e1 : (k == 1) = false := beq_eq_false_iff_ne.2 (by omega)
    have e5 : (k == 5) = false := beq_eq_false_iff_ne.2 (by omega)
    have e6 : (k == 6) = false := beq_eq_false_iff_ne.2 (by omega)
    rw [d0, d2, e1, e5, e6]
    clear h h5 h6
    go_enter Try.func26, Try.ntmps26
    go_wp2_with fail
    refine bodyPost_ret (v := .agg #[.bool _, .bool _, .bool _]) (by simp [results, Try.results26, go_sem]) rfl ⟨rfl, World.grownBy_alloc _ _ none⟩
  all_goals
    go_enter Try.func26, Try.ntmps26
    go_wp2_with fail
    refine bodyPost_ret (v := .agg #[.bool _, .bool _, .bool _]) (by simp [results, Try.results26, go_sem]) rfl ⟨rfl, World.grownBy_alloc _ _ none⟩

/-- How many numbers a kind wants. -/
def numsT (k : Int) (nl : Nat) : Bool := if k = 7 then decide (nl ≤ 100) else if k = 8 then decide (nl = 3) else decide (nl = 0)
theorem rightB_alt (k : Int) (kl vl nl : Nat) (n : Int) : rightB k kl vl nl n = (isK k && decide (kl ≤ 65535) && decide (vl ≤ 65535) && numsT k nl && ((formX k).key || decide (kl = 0)) && ((formX k).value || decide (vl = 0)) && ((formX k).num || decide (n = 0))) := by
  unfold rightB
  cases hq : isK k
  · simp
  · obtain ⟨h0, h1⟩ := isK_iff.1 hq
    obtain ⟨m, rfl⟩ := Int.eq_ofNat_of_zero_le h0
    have : (decide (nl ≤ (formX (m : Int)).nums) && (!(formX (m : Int)).just || decide (nl = (formX (m : Int)).nums))) = numsT (m : Int) nl := by
      unfold formX numsT
      rw [if_pos hq, Int.toNat_natCast, Bool.eq_iff_iff]
      rcases (show m = 0 ∨ m = 1 ∨ m = 2 ∨ m = 3 ∨ m = 4 ∨ m = 5 ∨ m = 6 ∨ m = 7 ∨ m = 8 ∨ m = 9 by omega) with rfl | rfl | rfl | rfl | rfl | rfl | rfl | rfl | rfl | rfl <;> simp [formOf]
      omega
    rw [← this]
    simp only [Bool.and_assoc]

set_option maxRecDepth 100000 in
set_option maxHeartbeats 4000000 in
theorem rright_str (k n : Int) (s1 s2 : ByteArray) (na : Option Addr) (nl nc : Nat) (w : World) :
    Calls Try.prog 13 #[.agg #[.int .i64 k, .string s1, .string s2, .int .i64 n, .slice na nl nc]] w fun e w' => e = .returned (.bool (rightB k s1.size s2.size nl n)) ∧ w.grownBy w' none := by
  have hrb := rightB_alt k s1.size s2.size nl n
  have HH := Lib.hid (fun W => rhas_any k W)
  have hq : (decide (k < 0) || decide (9 < k)) = !isK k := by
    rw [Bool.eq_iff_iff, Bool.or_eq_true, decide_eq_true_eq, decide_eq_true_eq, Bool.not_eq_true']
    constructor
    · intro h
      rw [Bool.eq_false_iff]
      intro h2
      have := isK_iff.1 h2
      omega
    · intro h
      rw [Bool.eq_false_iff, ne_eq, isK_iff] at h
      omega
  have D1 : decide ((65535 : Int) < (s1.size : Int)) = !decide (s1.size ≤ 65535) := by rw [← decide_not]; exact decide_eq_decide.2 (by omega)
  have D2 : decide ((65535 : Int) < (s2.size : Int)) = !decide (s2.size ≤ 65535) := by rw [← decide_not]; exact decide_eq_decide.2 (by omega)
  have E1 : decide ((0 : Int) < (s1.size : Int)) = !decide (s1.size = 0) := by rw [← decide_not]; exact decide_eq_decide.2 (by omega)
  have E2 : decide ((0 : Int) < (s2.size : Int)) = !decide (s2.size = 0) := by rw [← decide_not]; exact decide_eq_decide.2 (by omega)
  have E1n : decide (0 < s1.size) = !decide (s1.size = 0) := by rw [← decide_not]; exact decide_eq_decide.2 (by omega)
  have E2n : decide (0 < s2.size) = !decide (s2.size = 0) := by rw [← decide_not]; exact decide_eq_decide.2 (by omega)
  have E3 : (n != 0) = !decide (n = 0) := by rw [bne, show (n == 0) = decide (n = 0) by rw [Bool.eq_iff_iff, beq_iff_eq, decide_eq_true_eq]]
  have T7 : k = 7 → decide ((nl : Int) ≤ 100) = numsT k nl := fun h => by
    unfold numsT
    rw [if_pos h]
    exact decide_eq_decide.2 (by omega)
  have T8 : k = 8 → ((nl : Int) == 3) = numsT k nl := fun h => by
    unfold numsT
    rw [if_neg (by omega), if_pos h, Bool.eq_iff_iff, beq_iff_eq, decide_eq_true_eq]
    omega
  have T0 : k ≠ 7 → k ≠ 8 → ((nl : Int) == 0) = numsT k nl := fun h h' => by
    unfold numsT
    rw [if_neg h, if_neg h', Bool.eq_iff_iff, beq_iff_eq, decide_eq_true_eq]
    omega
  obtain ⟨key, hkey⟩ : ∃ b, (formX k).key = b := ⟨_, rfl⟩
  obtain ⟨value, hvalue⟩ : ∃ b, (formX k).value = b := ⟨_, rfl⟩
  obtain ⟨num, hnum⟩ : ∃ b, (formX k).num = b := ⟨_, rfl⟩
  rw [hkey, hvalue, hnum] at HH hrb
  clear hkey hvalue hnum
  obtain ⟨p1, h⟩ : ∃ p, decide (s1.size = 0) = p := ⟨_, rfl⟩
  rw [h] at E1 E1n hrb
  clear h
  obtain ⟨p2, h⟩ : ∃ p, decide (s2.size = 0) = p := ⟨_, rfl⟩
  rw [h] at E2 E2n hrb
  clear h
  obtain ⟨p3, h⟩ : ∃ p, decide (n = 0) = p := ⟨_, rfl⟩
  rw [h] at E3 hrb
  clear h
  obtain ⟨r1, h⟩ : ∃ p, decide (s1.size ≤ 65535) = p := ⟨_, rfl⟩
  rw [h] at D1 hrb
  clear h
  obtain ⟨r2, h⟩ : ∃ p, decide (s2.size ≤ 65535) = p := ⟨_, rfl⟩
  rw [h] at D2 hrb
  clear h
  obtain ⟨t, h⟩ : ∃ p, numsT k nl = p := ⟨_, rfl⟩
  rw [h] at T7 T8 T0 hrb
  clear h
  obtain ⟨q, h⟩ : ∃ p, isK k = p := ⟨_, rfl⟩
  rw [h] at hq hrb
  clear h
  obtain ⟨d0, h⟩ : ∃ p, decide (k < 0) = p := ⟨_, rfl⟩
  rw [h] at hq
  have D0 : decide (k < 0) = d0 := h
  clear h
  obtain ⟨d9, h⟩ : ∃ p, decide (9 < k) = p := ⟨_, rfl⟩
  rw [h] at hq
  have D9 : decide (9 < k) = d9 := h
  clear h
  obtain ⟨rv, h⟩ : ∃ p, rightB k s1.size s2.size nl n = p := ⟨_, rfl⟩
  rw [h] at hrb ⊢
  clear h
  have HRB := Lib.hid hrb
  clear hrb
  rcases (show (d0 = true ∧ q = false) ∨ (d0 = false ∧ d9 = true ∧ q = false) ∨ (d0 = false ∧ d9 = false ∧ q = true ∧ r1 = false) ∨ (d0 = false ∧ d9 = false ∧ q = true ∧ r1 = true ∧ r2 = false) ∨ (d0 = false ∧ d9 = false ∧ q = true ∧ r1 = true ∧ r2 = true) by cases d0 <;> cases d9 <;> cases q <;> cases r1 <;> cases r2 <;> simp_all) with ⟨rfl, rfl⟩ | ⟨rfl, rfl, rfl⟩ | ⟨rfl, rfl, rfl, rfl⟩ | ⟨rfl, rfl, rfl, rfl, rfl⟩ | ⟨rfl, rfl, rfl, rfl, rfl⟩
  iterate 4
    · obtain rfl : rv = false := by rw [HRB.out]; simp
      clear hq HRB T7 T8 T0
      go_enter Try.func13, Try.ntmps13
      go_wp2_with fail
      go_ret
      exact ⟨rfl, World.grownBy_alloc _ _ none⟩
  clear hq
  rcases (show k = 7 ∨ k = 8 ∨ (k ≠ 7 ∧ k ≠ 8) by omega) with hk | hk | ⟨hk, hk'⟩
  · have T := T7 hk
    have K7 : (k == 7) = true := beq_iff_eq.2 hk
    clear hk T7 T8 T0
    go_enter Try.func13, Try.ntmps13
    go_wp2_with fail
    refine (HH.out _).mono ?_
    rintro e w1 ⟨rfl, g1⟩
    have HG1 : Hid (w.grownBy (w1.alloc (.cells #[.bool key, .bool value, .bool num] 60)) none) := Lib.hid (grownBy_trans (grownBy_trans (World.grownBy_alloc _ _ none) g1) (World.grownBy_alloc _ _ none))
    have hb := (Blk.new w 38 [.int .i64 k, .string s1, .string s2, .int .i64 n, .slice na nl nc]).grown g1 (by simp)
    obtain ⟨B, hB⟩ : ∃ B, w.heap.size = B := ⟨_, rfl⟩
    rw [hB] at hb ⊢
    clear hB
    have hb := hb.alloc (.cells #[.bool key, .bool value, .bool num] 60)
    have hh := Blk.new w1 60 [.bool key, .bool value, .bool num]
    have x0 := hb.cell (j := 0) rfl
    have x1 := hb.cell (j := 1) rfl
    have x2 := hb.cell (j := 2) rfl
    have x3 := hb.cell (j := 3) rfl
    have x4 := hb.cell (j := 4) rfl
    have y0 := hh.cell (j := 0) rfl
    have y1 := hh.cell (j := 1) rfl
    have y2 := hh.cell (j := 2) rfl
    clear g1 hb hh HH
    rcases (show key = true ∨ (key = false ∧ p1 = true) ∨ (key = false ∧ p1 = false) by cases key <;> cases p1 <;> simp) with rfl | ⟨rfl, rfl⟩ | ⟨rfl, rfl⟩
    case inr.inr =>
      obtain rfl : rv = false := by rw [HRB.out]; simp
      clear HRB
      go_wp2_with fail
      go_ret
      exact ⟨rfl, HG1.out⟩
    all_goals
      rcases (show value = true ∨ (value = false ∧ p2 = true) ∨ (value = false ∧ p2 = false) by cases value <;> cases p2 <;> simp) with rfl | ⟨rfl, rfl⟩ | ⟨rfl, rfl⟩
      case inr.inr =>
        obtain rfl : rv = false := by rw [HRB.out]; simp
        clear HRB
        go_wp2_with fail
        go_ret
        exact ⟨rfl, HG1.out⟩
      all_goals
        rcases (show num = true ∨ (num = false ∧ p3 = true) ∨ (num = false ∧ p3 = false) by cases num <;> cases p3 <;> simp) with rfl | ⟨rfl, rfl⟩ | ⟨rfl, rfl⟩
        case inr.inr =>
          obtain rfl : rv = false := by rw [HRB.out]; simp
          clear HRB
          go_wp2_with fail
          go_ret
          exact ⟨rfl, HG1.out⟩
        all_goals
          obtain rfl : rv = t := by rw [HRB.out]; simp
          clear HRB
          go_wp2_with fail
          go_ret
          exact ⟨rfl, HG1.out⟩
  · have T := T8 hk
    have K7 : (k == 7) = false := beq_eq_false_iff_ne.2 (by omega)
    have K8 : (k == 8) = true := beq_iff_eq.2 hk
    clear hk T7 T8 T0
    go_enter Try.func13, Try.ntmps13
    go_wp2_with fail
    refine (HH.out _).mono ?_
    rintro e w1 ⟨rfl, g1⟩
    have HG1 : Hid (w.grownBy (w1.alloc (.cells #[.bool key, .bool value, .bool num] 60)) none) := Lib.hid (grownBy_trans (grownBy_trans (World.grownBy_alloc _ _ none) g1) (World.grownBy_alloc _ _ none))
    have hb := (Blk.new w 38 [.int .i64 k, .string s1, .string s2, .int .i64 n, .slice na nl nc]).grown g1 (by simp)
    obtain ⟨B, hB⟩ : ∃ B, w.heap.size = B := ⟨_, rfl⟩
    rw [hB] at hb ⊢
    clear hB
    have hb := hb.alloc (.cells #[.bool key, .bool value, .bool num] 60)
    have hh := Blk.new w1 60 [.bool key, .bool value, .bool num]
    have x0 := hb.cell (j := 0) rfl
    have x1 := hb.cell (j := 1) rfl
    have x2 := hb.cell (j := 2) rfl
    have x3 := hb.cell (j := 3) rfl
    have x4 := hb.cell (j := 4) rfl
    have y0 := hh.cell (j := 0) rfl
    have y1 := hh.cell (j := 1) rfl
    have y2 := hh.cell (j := 2) rfl
    clear g1 hb hh HH
    rcases (show key = true ∨ (key = false ∧ p1 = true) ∨ (key = false ∧ p1 = false) by cases key <;> cases p1 <;> simp) with rfl | ⟨rfl, rfl⟩ | ⟨rfl, rfl⟩
    case inr.inr =>
      obtain rfl : rv = false := by rw [HRB.out]; simp
      clear HRB
      go_wp2_with fail
      go_ret
      exact ⟨rfl, HG1.out⟩
    all_goals
      rcases (show value = true ∨ (value = false ∧ p2 = true) ∨ (value = false ∧ p2 = false) by cases value <;> cases p2 <;> simp) with rfl | ⟨rfl, rfl⟩ | ⟨rfl, rfl⟩
      case inr.inr =>
        obtain rfl : rv = false := by rw [HRB.out]; simp
        clear HRB
        go_wp2_with fail
        go_ret
        exact ⟨rfl, HG1.out⟩
      all_goals
        rcases (show num = true ∨ (num = false ∧ p3 = true) ∨ (num = false ∧ p3 = false) by cases num <;> cases p3 <;> simp) with rfl | ⟨rfl, rfl⟩ | ⟨rfl, rfl⟩
        case inr.inr =>
          obtain rfl : rv = false := by rw [HRB.out]; simp
          clear HRB
          go_wp2_with fail
          go_ret
          exact ⟨rfl, HG1.out⟩
        all_goals
          obtain rfl : rv = t := by rw [HRB.out]; simp
          clear HRB
          go_wp2_with fail
          go_ret
          exact ⟨rfl, HG1.out⟩
  · have T := T0 hk hk'
    have K7 : (k == 7) = false := beq_eq_false_iff_ne.2 hk
    have K8 : (k == 8) = false := beq_eq_false_iff_ne.2 hk'
    clear hk hk' T7 T8 T0
    go_enter Try.func13, Try.ntmps13
    go_wp2_with fail
    refine (HH.out _).mono ?_
    rintro e w1 ⟨rfl, g1⟩
    have HG1 : Hid (w.grownBy (w1.alloc (.cells #[.bool key, .bool value, .bool num] 60)) none) := Lib.hid (grownBy_trans (grownBy_trans (World.grownBy_alloc _ _ none) g1) (World.grownBy_alloc _ _ none))
    have hb := (Blk.new w 38 [.int .i64 k, .string s1, .string s2, .int .i64 n, .slice na nl nc]).grown g1 (by simp)
    obtain ⟨B, hB⟩ : ∃ B, w.heap.size = B := ⟨_, rfl⟩
    rw [hB] at hb ⊢
    clear hB
    have hb := hb.alloc (.cells #[.bool key, .bool value, .bool num] 60)
    have hh := Blk.new w1 60 [.bool key, .bool value, .bool num]
    have x0 := hb.cell (j := 0) rfl
    have x1 := hb.cell (j := 1) rfl
    have x2 := hb.cell (j := 2) rfl
    have x3 := hb.cell (j := 3) rfl
    have x4 := hb.cell (j := 4) rfl
    have y0 := hh.cell (j := 0) rfl
    have y1 := hh.cell (j := 1) rfl
    have y2 := hh.cell (j := 2) rfl
    clear g1 hb hh HH
    rcases (show key = true ∨ (key = false ∧ p1 = true) ∨ (key = false ∧ p1 = false) by cases key <;> cases p1 <;> simp) with rfl | ⟨rfl, rfl⟩ | ⟨rfl, rfl⟩
    case inr.inr =>
      obtain rfl : rv = false := by rw [HRB.out]; simp
      clear HRB
      go_wp2_with fail
      go_ret
      exact ⟨rfl, HG1.out⟩
    all_goals
      rcases (show value = true ∨ (value = false ∧ p2 = true) ∨ (value = false ∧ p2 = false) by cases value <;> cases p2 <;> simp) with rfl | ⟨rfl, rfl⟩ | ⟨rfl, rfl⟩
      case inr.inr =>
        obtain rfl : rv = false := by rw [HRB.out]; simp
        clear HRB
        go_wp2_with fail
        go_ret
        exact ⟨rfl, HG1.out⟩
      all_goals
        rcases (show num = true ∨ (num = false ∧ p3 = true) ∨ (num = false ∧ p3 = false) by cases num <;> cases p3 <;> simp) with rfl | ⟨rfl, rfl⟩ | ⟨rfl, rfl⟩
        case inr.inr =>
          obtain rfl : rv = false := by rw [HRB.out]; simp
          clear HRB
          go_wp2_with fail
          go_ret
          exact ⟨rfl, HG1.out⟩
        all_goals
          obtain rfl : rv = t := by rw [HRB.out]; simp
          clear HRB
          go_wp2_with fail
          go_ret
          exact ⟨rfl, HG1.out⟩
theorem rright_any (k n : Int) (key val : List Nat) (na : Option Addr) (nl nc : Nat) (w : World) :
    Calls Try.prog 13 #[.agg #[.int .i64 k, .string (strN key), .string (strN val), .int .i64 n, .slice na nl nc]] w fun e w' => e = .returned (.bool (rightB k key.length val.length nl n)) ∧ w.grownBy w' none := by
  have := rright_str k n (strN key) (strN val) na nl nc w
  rwa [strN_size, strN_size] at this

end Go.Proofs.Ytbjpjnkaaiajlaa
