/- Layer 20, the document: take and text, as a reader of what is left. -/
import Derived.Test.YtbjpjnkaaiajlaaScRdP
import Derived.Test.YtbjpjnkaaiajlaaStr
import Derived.Test.YtbjpjnkaaiajlaaOfAt
namespace Go.Proofs.Ytbjpjnkaaiajlaa
open Go.RowKit

/-- Where the document stands: at a place, or nowhere. -/
def AtP (ys : List Nat) (p : PS) (q : Int) : Prop := (0 ≤ q ∧ q ≤ ys.length ∧ p = (ys.drop q.toNat, false)) ∨ (q = -1 ∧ p = ([], true))
theorem AtP.bad_iff {ys : List Nat} {p : PS} {q : Int} (h : AtP ys p q) : p.2 = decide (q < 0) := by
  rcases h with ⟨h0, _, rfl⟩ | ⟨rfl, rfl⟩
  · exact (decide_eq_false (by omega)).symm
  · exact (decide_eq_true (by omega)).symm
theorem AtP.whole {ys : List Nat} {p : PS} {q : Int} (h : AtP ys p q) : p = ([], false) ↔ q = ys.length := by
  rcases h with ⟨h0, h1, rfl⟩ | ⟨rfl, rfl⟩
  · obtain ⟨n, rfl⟩ := Int.eq_ofNat_of_zero_le h0
    rw [Int.toNat_natCast]
    constructor
    · intro e
      simp only [Prod.mk.injEq, and_true] at e
      have := congrArg List.length e
      rw [List.length_drop] at this
      simp at this
      omega
    · intro e
      have : n = ys.length := by omega
      rw [this, List.drop_length]
  · constructor
    · intro e; cases e
    · intro e; omega
theorem AtP.begin (ys : List Nat) : AtP ys (ys, false) 0 := .inl ⟨by omega, by omega, rfl⟩
theorem nP_none (k : Nat) : nP k ([], true) = (0, ([], true)) := by
  unfold nP
  dsimp only
  have h1 : takeN [] (k : Int) = [] := by unfold takeN; split <;> simp
  have h2 : leftN [] (k : Int) = [] := by unfold leftN; split <;> simp
  have h3 : badN [] true (k : Int) = true := by unfold badN; simp
  rw [h1, h2, h3]
  rfl
theorem nP_over {ys : List Nat} {n k : Nat} (h : ys.length < n + k) (hk : 1 ≤ k) : nP k (ys.drop n, false) = (0, ([], true)) := by
  have ho := over_at ys n k hk
  rw [decide_eq_true h] at ho
  unfold nP
  dsimp only
  have h1 : takeN (ys.drop n) (k : Int) = [] := by unfold takeN; rw [ho]; rfl
  have h2 : leftN (ys.drop n) (k : Int) = [] := by unfold leftN; rw [ho]; rfl
  have h3 : badN (ys.drop n) false (k : Int) = true := by unfold badN; rw [ho]; rfl
  rw [h1, h2, h3]
  rfl
theorem nP_in {ys : List Nat} {n k : Nat} (h : n + k ≤ ys.length) (hk : 1 ≤ k) : nP k (ys.drop n, false) = (numAt ys n k, (ys.drop (n + k), false)) := by
  have ho := over_at ys n k hk
  rw [decide_eq_false (by omega)] at ho
  unfold nP
  dsimp only
  rw [take_at ys n k hk, left_at ys n k hk]
  have h3 : badN (ys.drop n) false (k : Int) = false := by unfold badN; rw [ho]; rfl
  rw [h3]

set_option maxRecDepth 100000 in
set_option maxHeartbeats 4000000 in
theorem rtk_any (ys : List Nat) (a : Option Addr) (c : Nat) (p : PS) (q : Int) (k : Nat) (w : World) (hk : 1 ≤ k ∧ k ≤ 8) (hl : ys.length ≤ 40000000) (hs : ∀ y ∈ ys, y < 256) (hr : Rds w 1 (.slice a ys.length c) ys.length (bytesV ys)) (hc : ys.length ≤ c) (h : AtP ys p q) :
    Calls Try.prog 34 #[.slice a ys.length c, .int .i64 q, .int .i64 k] w fun e w' => ∃ q2, e = .returned (.tuple #[.int .u64 ((nP k p).1 : Int), .int .i64 q2]) ∧ AtP ys (nP k p).2 q2 ∧ w = w' := by
  rcases h with ⟨h0, h1, rfl⟩ | ⟨rfl, rfl⟩
  · obtain ⟨n, rfl⟩ := Int.eq_ofNat_of_zero_le h0
    rw [Int.toNat_natCast]
    by_cases hov : ys.length < n + k
    · rw [nP_over hov hk.1]
      have hgt : (ys.length : Int) - n < k := by omega
      have hn0 : ¬ ((n : Int) < 0) := by omega
      have hw1 : IntKind.i64.wrap ((ys.length : Int) - n) = (ys.length : Int) - n := IntWalk.i64_in _ ⟨by omega, by omega⟩
      clear hr hs hc h0 h1 hov
      go_enter Try.func34, Try.ntmps34
      go_wp2_with fail
      go_ret2
      exact ⟨-1, rfl, .inr ⟨rfl, rfl⟩, rfl⟩
    · have hin : n + k ≤ ys.length := by omega
      rw [nP_in hin hk.1]
      obtain ⟨b, o, rfl, _⟩ := hr.at' (by omega)
      have HOF := Lib.hid (fun c' => of_at hr hs n k hin hk.2 c')
      have hgt : ¬ (ys.length : Int) - n < k := by omega
      have hn0 : ¬ ((n : Int) < 0) := by omega
      have hn00 : (0 : Int) ≤ (n : Int) := by omega
      have hw1 : IntKind.i64.wrap ((ys.length : Int) - n) = (ys.length : Int) - n := IntWalk.i64_in _ ⟨by omega, by omega⟩
      have hw2 : IntKind.i64.wrap ((n : Int) + k) = (n : Int) + k := IntWalk.i64_in _ ⟨by omega, by omega⟩
      have hnk : (n : Int) ≤ (n : Int) + k := by omega
      have hnc : (n : Int) + k ≤ (c : Int) := by omega
      have hcn : ¬ c = n := by omega
      have htn : ((n : Int) + k).toNat = n + k := by omega
      have hAT : AtP ys (ys.drop (n + k), false) ((n : Int) + k) := .inl ⟨by omega, by omega, by rw [htn]⟩
      have HAT := Lib.hid hAT
      clear hr hs hc h0 h1 hov hin hAT
      go_enter Try.func34, Try.ntmps34
      go_wp2_with (first | (go_at_call 44; (try rw [show n + k - n = k by omega]); refine (HOF.out _).mono ?_; rintro e w' ⟨rfl, rfl⟩))
      go_ret2
      exact ⟨_, rfl, HAT.out, rfl⟩
  · rw [nP_none]
    clear hr hs hc
    go_enter Try.func34, Try.ntmps34
    go_wp2_with fail
    go_ret2
    exact ⟨-1, rfl, .inr ⟨rfl, rfl⟩, rfl⟩

theorem tP_eq (p : PS) : tP p = (takeN (nP 2 p).2.1 ((nP 2 p).1 : Nat), (leftN (nP 2 p).2.1 ((nP 2 p).1 : Nat), badN (nP 2 p).2.1 (nP 2 p).2.2 ((nP 2 p).1 : Nat))) := rfl
theorem nP2_lt (p : PS) (h : ∀ x ∈ p.1, x < 256) : (nP 2 p).1 < 65536 := by
  unfold nP
  have h1 := ofB_lt (takeN p.1 (2 : Nat)) (takeN_small p.1 _ h)
  have h2 : (takeN p.1 ((2 : Nat) : Int)).length ≤ 2 := by
    unfold takeN
    split
    · simp
    · rw [List.length_take]; simp; omega
  refine Nat.lt_of_lt_of_le h1 ?_
  calc 256 ^ (takeN p.1 ((2 : Nat) : Int)).length ≤ 256 ^ 2 := Nat.pow_le_pow_right (by omega) h2
    _ = 65536 := rfl
theorem AtP.small {ys : List Nat} {p : PS} {q : Int} (h : AtP ys p q) (hs : ∀ y ∈ ys, y < 256) : ∀ y ∈ p.1, y < 256 := by
  rcases h with ⟨_, _, rfl⟩ | ⟨_, rfl⟩
  · exact fun y hy => hs y (List.mem_of_mem_drop hy)
  · exact fun y hy => by simp at hy
theorem tP_none (n : Nat) : takeN [] (n : Int) = [] ∧ leftN [] (n : Int) = [] ∧ badN [] true (n : Int) = true := by
  refine ⟨?_, ?_, ?_⟩
  · unfold takeN; split <;> simp
  · unfold leftN; split <;> simp
  · unfold badN; simp

set_option maxRecDepth 100000 in
set_option maxHeartbeats 4000000 in
theorem rtxt_any (ys : List Nat) (a : Option Addr) (c : Nat) (p : PS) (q : Int) (w : World) (hl : ys.length ≤ 40000000) (hs : ∀ y ∈ ys, y < 256) (hr : Rds w 1 (.slice a ys.length c) ys.length (bytesV ys)) (hc : ys.length ≤ c) (h : AtP ys p q) :
    Calls Try.prog 35 #[.slice a ys.length c, .int .i64 q] w fun e w' => ∃ q2, e = .returned (.tuple #[.string (strN (tP p).1), .int .i64 q2]) ∧ AtP ys (tP p).2 q2 ∧ w = w' := by
  have htk := rtk_any ys a c p q 2 w (by omega) hl hs hr hc h
  have hlt := nP2_lt p (h.small hs)
  rw [tP_eq]
  obtain ⟨nq, hnq⟩ : ∃ nq, nP 2 p = nq := ⟨_, rfl⟩
  rw [hnq] at htk hlt ⊢
  obtain ⟨n, p1⟩ := nq
  dsimp only at htk hlt ⊢
  have HTK := Lib.hid htk
  have hwn : wrap64 (n : Int) = n := by unfold wrap64; omega
  clear htk hnq h
  obtain ⟨T1, hT1⟩ : ∃ t, takeN p1.1 (n : Int) = t := ⟨_, rfl⟩
  obtain ⟨T2, hT2⟩ : ∃ t, leftN p1.1 (n : Int) = t := ⟨_, rfl⟩
  obtain ⟨T3, hT3⟩ : ∃ t, badN p1.1 p1.2 (n : Int) = t := ⟨_, rfl⟩
  rw [hT1, hT2, hT3]
  have HT1 := Lib.hid hT1
  have HT2 := Lib.hid hT2
  have HT3 := Lib.hid hT3
  clear hT1 hT2 hT3
  go_enter Try.func35, Try.ntmps35
  go_wp2_with fail
  refine HTK.out.mono ?_
  rintro e w' ⟨q2, rfl, hat, rfl⟩
  clear HTK
  rcases hat with ⟨h0, h1, rfl⟩ | ⟨rfl, rfl⟩
  · obtain ⟨m, rfl⟩ := Int.eq_ofNat_of_zero_le h0
    rw [Int.toNat_natCast] at HT1 HT2 HT3
    dsimp only at HT1 HT2 HT3
    have hm0 : ¬ ((m : Int) < 0) := by omega
    have hw1 : IntKind.i64.wrap ((ys.length : Int) - m) = (ys.length : Int) - m := IntWalk.i64_in _ ⟨by omega, by omega⟩
    by_cases hov : ys.length < m + n
    · have ho : overB (ys.drop m) (n : Int) = true := decide_eq_true (by rw [List.length_drop]; omega)
      have e1 : takeN (ys.drop m) (n : Int) = [] := by unfold takeN; rw [ho]; rfl
      have e2 : leftN (ys.drop m) (n : Int) = [] := by unfold leftN; rw [ho]; rfl
      have e3 : badN (ys.drop m) false (n : Int) = true := by unfold badN; rw [ho]; rfl
      obtain ⟨rfl, rfl, rfl⟩ : [] = T1 ∧ [] = T2 ∧ true = T3 := ⟨e1.symm.trans HT1.out, e2.symm.trans HT2.out, e3.symm.trans HT3.out⟩
      have hgt : (ys.length : Int) - m < n := by omega
      clear hr hs hc h0 h1 hov ho e1 e2 e3 HT1 HT2 HT3
      go_wp2_with fail
      go_ret2
      exact ⟨-1, rfl, .inr ⟨rfl, rfl⟩, rfl⟩
    · have ho : overB (ys.drop m) (n : Int) = false := decide_eq_false (by rw [List.length_drop]; omega)
      have e1 : takeN (ys.drop m) (n : Int) = (ys.drop m).take n := by unfold takeN; rw [ho]; simp
      have e2 : leftN (ys.drop m) (n : Int) = ys.drop (m + n) := by unfold leftN; rw [ho]; simp
      have e3 : badN (ys.drop m) false (n : Int) = false := by unfold badN; rw [ho]; rfl
      rw [e1] at HT1
      rw [e2] at HT2
      rw [e3] at HT3
      have hgt : ¬ (ys.length : Int) - m < n := by omega
      have hm00 : (0 : Int) ≤ (m : Int) := by omega
      have hw2 : IntKind.i64.wrap ((m : Int) + n) = (m : Int) + n := IntWalk.i64_in _ ⟨by omega, by omega⟩
      have hnk : (m : Int) ≤ (m : Int) + n := by omega
      have hnc : (m : Int) + n ≤ (c : Int) := by omega
      have htn : ((m : Int) + n).toNat = m + n := by omega
      have HAT : Hid (AtP ys (ys.drop (m + n), false) ((m : Int) + n)) := Lib.hid (.inl ⟨by omega, by omega, by rw [htn]⟩)
      have hlk : ((ys.drop m).take n).length = n := by rw [List.length_take, List.length_drop]; omega
      have HCV : Hid (∀ (ad : Option Addr) (c' : Nat), Rds w 1 (.slice ad n c') n (bytesV ((ys.drop m).take n)) → (convert 24 9 (.slice ad n c')).run Try.prog w = .ok (.string (strN T1)) w) := Lib.hid (fun ad c' hrd => by
        have hrd' : Rds w 1 (.slice ad ((ys.drop m).take n).length c') ((ys.drop m).take n).length (bytesV ((ys.drop m).take n)) := by rw [hlk]; exact hrd
        have := conv_rds hrd'
        rw [hlk, HT1.out] at this
        exact this)
      have HRD : Hid (∀ b o, a = some ⟨b, o, none⟩ → ∀ c', Rds w 1 (.slice (some ⟨b, o + m, none⟩) n c') n (bytesV ((ys.drop m).take n))) := Lib.hid (fun b o ha c' => by
        subst ha
        have h3 := Rds.dropB hr (n := m) (by omega) c'
        exact Rds.takeB h3 (n := n) (by rw [List.length_drop]; omega) c')
      have hE : T2 = ys.drop (m + n) ∧ T3 = false := ⟨HT2.out.symm, HT3.out.symm⟩
      obtain ⟨rfl, rfl⟩ := hE
      by_cases hz : n = 0
      · subst hz
        have hcv : ∀ (a' : Option Addr) (c' : Nat), (convert 24 9 (.slice a' 0 c')).run Try.prog w = .ok (.string (strN T1)) w := fun a' c' => by
          have := HT1.out
          rw [List.take_zero] at this
          subst this
          exact Go.Proofs.run_convert_bytes_zero w 24 5 Try.underlying24 Try.underlying5 a' c' 9 Try.underlying9
        simp only [Int.natCast_zero, Int.add_zero] at hw2 hnk hnc HAT hgt hwn ⊢
        clear hr hs h0 h1 hov ho e1 e2 e3 HT1 HT2 HT3 HRD hlk HCV
        by_cases hcm : c = m
        · subst hcm
          cases a with
          | none =>
            go_wp2_with fail
            go_ret2
            exact ⟨_, rfl, HAT.out, rfl⟩
          | some ad =>
            go_wp2_with fail
            go_ret2
            exact ⟨_, rfl, HAT.out, rfl⟩
        · cases a with
          | none =>
            go_wp2_with fail
            go_ret2
            exact ⟨_, rfl, HAT.out, rfl⟩
          | some ad =>
            go_wp2_with fail
            go_ret2
            exact ⟨_, rfl, HAT.out, rfl⟩
      · obtain ⟨b, o, rfl, _⟩ := hr.at' (by omega)
        have HRD2 := Lib.hid (HRD.out b o rfl)
        have hcm : ¬ c = m := by omega
        clear hr hs hc h0 h1 hov ho e1 e2 e3 HT1 HT2 HT3 HRD hlk
        have hcv := fun c' => HCV.out (some ⟨b, o + m, none⟩) c' (HRD2.out c')
        go_wp2_with fail
        go_ret2
        exact ⟨_, rfl, HAT.out, rfl⟩
  · obtain ⟨e1, e2, e3⟩ := tP_none n
    obtain ⟨rfl, rfl, rfl⟩ : [] = T1 ∧ [] = T2 ∧ true = T3 := ⟨e1.symm.trans HT1.out, e2.symm.trans HT2.out, e3.symm.trans HT3.out⟩
    clear e1 e2 e3 hr hs hc HT1 HT2 HT3
    go_wp2_with fail
    go_ret2
    exact ⟨-1, rfl, .inr ⟨rfl, rfl⟩, rfl⟩

end Go.Proofs.Ytbjpjnkaaiajlaa
