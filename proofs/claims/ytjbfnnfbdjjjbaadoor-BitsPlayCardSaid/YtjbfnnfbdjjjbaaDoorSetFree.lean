/- package bits: free, Take. -/
import Derived.Test.YtjbfnnfbdjjjbaaDoorSet
import Derived.WalkMore
namespace Go.Proofs.YtjbfnnfbdjjjbaaDoor
open Go.RowKit

/- The lowest bit. -/
theorem low_spec (x : Nat) (h0 : x ≠ 0) (hx : x < 18446744073709551616) : ∃ m, x = 2 ^ Lib.ctz 64 x * (2 * m + 1) ∧ Lib.ctz 64 x < 64 := by
  have h := Lib.ctzFrom_spec 64 x (by omega) hx
  have e : Lib.ctz 64 x = Lib.ctzFrom 64 x := by simp [Lib.ctz, h0]
  rw [e]
  exact h
theorem low_bit (x : BitVec 64) (h0 : x ≠ 0#64) : x.getLsbD (Lib.ctz 64 x.toNat) = true ∧ (∀ b, b < Lib.ctz 64 x.toNat → x.getLsbD b = false) ∧ Lib.ctz 64 x.toNat < 64 := by
  have hn : x.toNat ≠ 0 := fun h => h0 (BitVec.eq_of_toNat_eq h)
  obtain ⟨m, hm, hk⟩ := low_spec x.toNat hn x.isLt
  generalize Lib.ctz 64 x.toNat = t at *
  have hb : ∀ b, x.getLsbD b = if b < t then false else (2 * m + 1).testBit (b - t) := fun b => by
    unfold BitVec.getLsbD
    rw [hm]
    have := Nat.testBit_two_pow_mul_add (i := t) (b := 0) (2 * m + 1) (Nat.two_pow_pos t) b
    rw [Nat.add_zero] at this
    rw [this]
    simp
  refine ⟨?_, fun b h => ?_, hk⟩
  · rw [hb, if_neg (by omega), Nat.sub_self, Nat.testBit_zero]
    simp
  · rw [hb, if_pos h]
theorem low_off (x : BitVec 64) (h0 : x ≠ 0#64) (b : Nat) : (x &&& (x - 1#64)).getLsbD b = (x.getLsbD b && !(b == Lib.ctz 64 x.toNat)) := by
  have hn : x.toNat ≠ 0 := fun h => h0 (BitVec.eq_of_toNat_eq h)
  obtain ⟨m, hm, hk⟩ := low_spec x.toNat hn x.isLt
  generalize Lib.ctz 64 x.toNat = t at *
  have hp : 0 < 2 ^ t := Nat.two_pow_pos t
  have hs : (x - 1#64).toNat = 2 ^ t * (2 * m) + (2 ^ t - 1) := by
    have h1 : (x - 1#64).toNat = x.toNat - 1 := by
      rw [BitVec.toNat_sub]
      have := x.isLt
      simp
      omega
    rw [h1, hm, Nat.mul_add]
    omega
  have hx : x.getLsbD b = if b < t then false else (2 * m + 1).testBit (b - t) := by
    unfold BitVec.getLsbD
    rw [hm]
    have := Nat.testBit_two_pow_mul_add (i := t) (b := 0) (2 * m + 1) (Nat.two_pow_pos t) b
    rw [Nat.add_zero] at this
    rw [this]
    simp
  have hy : (x - 1#64).getLsbD b = if b < t then (2 ^ t - 1).testBit b else (2 * m).testBit (b - t) := by
    unfold BitVec.getLsbD
    rw [hs, Nat.testBit_two_pow_mul_add (i := t) (b := 2 ^ t - 1) (2 * m) (by omega) b]
  rw [BitVec.getLsbD_and, hx, hy]
  by_cases h : b < t
  · rw [if_pos h, if_pos h]
    simp
  · rw [if_neg h, if_neg h]
    by_cases e : b = t
    · subst e
      rw [Nat.sub_self, Nat.testBit_zero, Nat.testBit_zero]
      simp
    · have e2 : (b == t) = false := by simpa using e
      obtain ⟨d, hd⟩ : ∃ d, b - t = d + 1 := ⟨b - t - 1, by omega⟩
      rw [e2, hd, Nat.testBit_add_one, Nat.testBit_add_one]
      have e3 : (2 * m + 1) / 2 = 2 * m / 2 := by omega
      rw [e3]
      simp
theorem low_less (x : BitVec 64) (h0 : x ≠ 0#64) : (x &&& (x - 1#64)).toNat < x.toNat := by
  have hn : x.toNat ≠ 0 := fun h => h0 (BitVec.eq_of_toNat_eq h)
  have h1 : (x - 1#64).toNat = x.toNat - 1 := by
    rw [BitVec.toNat_sub]
    have := x.isLt
    simp
    omega
  rw [BitVec.toNat_and, h1]
  have := Nat.and_le_right (n := x.toNat) (m := x.toNat - 1)
  omega

/-- What free tells. -/
def FreeAt (n : Nat) (f : Nat → Bool) (from_ : Nat) (r : Int) : Prop :=
  (r = -1 ∧ ∀ j, from_ ≤ j → j < n → f j = true) ∨ ∃ i : Nat, r = i ∧ from_ ≤ i ∧ i < n ∧ f i = false ∧ ∀ j, from_ ≤ j → j < i → f j = true

theorem not_bit (x : BitVec 64) : bits BinOp.xor IntKind.u64 IntKind.u64.max (U x) = U (~~~x) := by
  have e : IntKind.u64.max = U (BitVec.allOnes 64) := by decide +kernel
  rw [e, U_xor, BitVec.allOnes_xor]
def LeftAt (ws : List (BitVec 64)) (p q : Nat) (x : BitVec 64) (m : Nat) : Prop := m ≤ 64 ∧ (∀ b, b < 64 → x.getLsbD b = (decide (m ≤ b) && !(wd ws q).getLsbD b)) ∧ ∀ j, p ≤ j → j < 64 * q + m → tk ws j = true
theorem tk_at (ws : List (BitVec 64)) (q b : Nat) (hb : b < 64) : tk ws (64 * q + b) = (wd ws q).getLsbD b := by
  unfold tk
  rw [show (64 * q + b) / 64 = q by omega, show (64 * q + b) % 64 = b by omega]
theorem left_start (ws : List (BitVec 64)) (p q : Nat) (h : ∀ j, p ≤ j → j < 64 * q → tk ws j = true) : LeftAt ws p q (~~~(wd ws q)) 0 :=
  ⟨by omega, fun b hb => by rw [BitVec.getLsbD_not]; simp [hb], fun j h1 h2 => h j h1 (by omega)⟩
theorem left_none {ws : List (BitVec 64)} {p q : Nat} {x : BitVec 64} {m : Nat} (h : LeftAt ws p q x m) (h0 : x = 0#64) : ∀ j, p ≤ j → j < 64 * (q + 1) → tk ws j = true := by
  intro j h1 h2
  by_cases hj : j < 64 * q + m
  · exact h.2.2 j h1 hj
  · obtain ⟨b, rfl⟩ : ∃ b, j = 64 * q + b := ⟨j - 64 * q, by have := h.1; omega⟩
    have hb : b < 64 := by omega
    rw [tk_at ws q b hb]
    have := h.2.1 b hb
    rw [h0, BitVec.getLsbD_zero, decide_eq_true (show m ≤ b by omega)] at this
    simpa using this.symm
theorem left_low {ws : List (BitVec 64)} {p q : Nat} {x : BitVec 64} {m : Nat} (h : LeftAt ws p q x m) (h0 : x ≠ 0#64) : Lib.ctz 64 x.toNat < 64 ∧ tk ws (64 * q + Lib.ctz 64 x.toNat) = false ∧ (∀ j, p ≤ j → j < 64 * q + Lib.ctz 64 x.toNat → tk ws j = true) ∧ (64 * q + Lib.ctz 64 x.toNat < p → LeftAt ws p q (x &&& (x - 1#64)) (Lib.ctz 64 x.toNat + 1)) := by
  obtain ⟨h1, h2, h3⟩ := low_bit x h0
  have hoff := low_off x h0
  generalize Lib.ctz 64 x.toNat = t at *
  have h4 := h.2.1 t h3
  rw [h1] at h4
  have h5 : m ≤ t ∧ (wd ws q).getLsbD t = false := by simpa using h4.symm
  have hall : ∀ j, p ≤ j → j < 64 * q + t → tk ws j = true := by
    intro j k1 k2
    by_cases hj : j < 64 * q + m
    · exact h.2.2 j k1 hj
    · obtain ⟨b, rfl⟩ : ∃ b, j = 64 * q + b := ⟨j - 64 * q, by omega⟩
      have hb : b < t := by omega
      rw [tk_at ws q b (by omega)]
      have := h.2.1 b (by omega)
      rw [h2 b hb, decide_eq_true (show m ≤ b by omega)] at this
      simpa using this.symm
  refine ⟨h3, by rw [tk_at ws q t h3]; exact h5.2, hall, fun hlt => ⟨by omega, fun b hb => ?_, fun j k1 k2 => hall j k1 (by omega)⟩⟩
  rw [hoff b, h.2.1 b hb]
  by_cases hbt : b < t
  · have h6 := h.2.1 b hb
    rw [h2 b hbt] at h6
    rw [← h6, decide_eq_false (show ¬ t + 1 ≤ b by omega)]
    rfl
  · by_cases e : b = t
    · subst e
      rw [decide_eq_false (show ¬ b + 1 ≤ b by omega)]
      simp
    · rw [decide_eq_true (show m ≤ b by omega), decide_eq_true (show t + 1 ≤ b by omega)]
      have : (b == t) = false := by simpa using e
      rw [this]
      simp

theorem dle {n q t : Nat} (h : n ≤ 64 * q + t) : decide ((n : Int) ≤ (q : Int) * 64 + (t : Int)) = true := decide_eq_true (by omega)
theorem dnle {n q t : Nat} (h : 64 * q + t < n) : decide ((n : Int) ≤ (q : Int) * 64 + (t : Int)) = false := decide_eq_false (by omega)
theorem three (n p i : Nat) : n ≤ i ∨ (i < n ∧ p ≤ i) ∨ (i < n ∧ i < p) := by omega
theorem sum64 (q t : Nat) : (q : Int) * 64 + (t : Int) = ((64 * q + t : Nat) : Int) := by omega
theorem U_ne (x : BitVec 64) (h0 : x ≠ 0#64) : (U x == 0) = false := by
  have hxn : x.toNat ≠ 0 := fun h => h0 (BitVec.eq_of_toNat_eq h)
  rw [beq_eq_false_iff_ne]
  unfold U
  omega
theorem bne_of {a b : Int} {t : Bool} (h : (a == b) = t) : (a != b) = !t := by unfold bne; rw [h]
theorem sub_bit (x : BitVec 64) : bits BinOp.and IntKind.u64 (U x) (IntKind.u64.wrap (U x - 1)) = U (x &&& (x - 1#64)) := by
  rw [show (1 : Int) = U 1#64 from rfl, U_sub, U_and]
set_option maxHeartbeats 400000 in
theorem free_any (B g c n hand : Nat) (ws : List (BitVec 64)) (p : Nat) (w : World) (h : ST w B g c n hand ws) (hp : p < n) :
    Calls Tryd.prog 24 #[.pointer (some ⟨B, 0, none⟩), .int .i64 p] w fun e w' => (∃ r, e = .returned (.int .i64 r) ∧ FreeAt n (tk ws) p r) ∧ w = w' := by
  have hl := h.len
  have hn := h.n2
  have k0 := h.blk.cell (j := 0) rfl
  have k2 := h.blk.cell (j := 2) rfl
  have HW := Lib.hid (fun q hq => h.word q hq)
  have HT := Lib.hid h.tab
  clear h
  have hq0 : p / 64 ≤ ws.length := by omega
  have hw0 : ws.length ≤ 1024 := by omega
  have HL : Hid (n ≤ 64 * ws.length) := Lib.hid (by omega)
  clear hl
  have ew : wrap64 ((p / 64 : Nat) : Int) = ((p / 64 : Nat) : Int) := by unfold wrap64; omega
  go_enter Tryd.func24, Tryd.ntmps24
  go_wp2_with fail
  go_step3
  go_wp2_with fail
  go_step3
  go_wp2_with fail
  go_loop [5] (fun qv => ∃ q : Nat, qv = .int .i64 q ∧ q ≤ ws.length ∧ ∀ j, p ≤ j → j < 64 * q → tk ws j = true) (fun qv => ws.length - (intOf qv).toNat)
  case atStart => exact ⟨p / 64, rfl, hq0, fun j h1 h2 => by omega⟩
  case round =>
    obtain ⟨q, rfl, hq, hall⟩ := hrel
    by_cases hlt : q < ws.length
    · have hw := HW.out q hlt
      have HS := Lib.hid (left_start ws p q hall)
      have hx := not_bit (wd ws q)
      clear hall
      go_wp2_with fail
      go_loop [6] (fun lv => ∃ (x : BitVec 64) (m : Nat), lv = .int .u64 (U x) ∧ LeftAt ws p q x m) (fun lv => (intOf lv).toNat)
      case atStart => exact ⟨_, 0, rfl, HS.out⟩
      case round =>
        obtain ⟨x, m, rfl, hla⟩ := hrel
        by_cases h0 : x = 0#64
        · have HN := Lib.hid (left_none hla h0)
          have hb : (U x == 0) = true := by subst h0; rfl
          have hb2 : (U x != 0) = false := by subst h0; rfl
          clear hla
          go_wp2_with fail
          go_round
          case rel => exact ⟨q + 1, by go_num, by omega, HN.out⟩
          case measure => simp [intOf]; omega
        · obtain ⟨k1, k2', k3, k4⟩ := left_low hla h0
          have hless := Lib.hid (low_less x h0)
          have hxn : x.toNat ≠ 0 := fun h => h0 (BitVec.eq_of_toNat_eq h)
          have hb : (U x == 0) = false := U_ne x h0
          have hb2 : (U x != 0) = true := bne_of hb
          have hsub := sub_bit x
          have HTZ := Lib.hid (tz_any x.toNat x.isLt hxn w HT.out)
          have K2 := Lib.hid k2'
          have K3 := Lib.hid k3
          have K4 := Lib.hid k4
          clear hla h0 k2' k3 k4 hxn
          have hU : Value.int IntKind.u64 (U x) = .int .u64 (x.toNat : Int) := rfl
          generalize hy : x &&& (x - 1#64) = y at *
          clear hy
          generalize Lib.ctz 64 x.toNat = t at *
          go_wp2_with fail
          refine HTZ.out.mono ?_
          rintro e w1 ⟨rfl, rfl⟩
          have HI := Lib.hid (sum64 q t)
          rcases three n p (64 * q + t) with hc | ⟨hc, hc2⟩ | ⟨hc, hc2⟩
          · have c1 := dle hc
            have hend : Hid (∀ j, p ≤ j → j < n → tk ws j = true) := Lib.hid (fun j h1 h2 => K3.out j h1 (Nat.lt_of_lt_of_le h2 hc))
            clear hc
            go_wp2_with fail
            (try simp only [Exit.noGoto_ret])
            go_ret
            exact ⟨⟨_, rfl, .inl ⟨rfl, hend.out⟩⟩, rfl⟩
          · have c1 := dnle hc
            have c2 := dle hc2
            have hret : Hid (FreeAt n (tk ws) p ((q : Int) * 64 + (t : Int))) := Lib.hid (by rw [HI.out]; exact .inr ⟨_, rfl, hc2, hc, K2.out, K3.out⟩)
            clear hc hc2
            go_wp2_with fail
            (try simp only [Exit.noGoto_ret])
            go_ret
            exact ⟨⟨_, rfl, hret.out⟩, rfl⟩
          · have c1 := dnle hc
            have c2 := dnle hc2
            have hk4 := Lib.hid (K4.out hc2)
            clear hc hc2
            go_wp2_with fail
            exact ⟨⟨y, t + 1, rfl, hk4.out⟩, by have := hless.out; simp only [intOf, U, Int.toNat_natCast]; exact this⟩
    · have hfin : Hid (∀ j, p ≤ j → j < n → tk ws j = true) := Lib.hid (fun j h1 h2 => hall j h1 (by have := HL.out; omega))
      obtain rfl : q = ws.length := by omega
      clear hall hlt
      go_wp2_with fail
      go_ret
      exact ⟨⟨_, rfl, .inl ⟨rfl, hfin.out⟩⟩, rfl⟩

end Go.Proofs.YtjbfnnfbdjjjbaaDoor
