/- package wire: the Reader's Number, Text. -/
import Derived.Test.YtbjpjnkaaiajlaaReader2
import Derived.Laws.Bits64b
namespace Go.Proofs.Ytbjpjnkaaiajlaa
open Go.RowKit

def askN (k : Int) : Int := if mayB k = true then k else -1

theorem or_step (q x j : Nat) (hq : q < 256 ^ j) (hx : x < 256) (hj : j < 8) : bits BinOp.or IntKind.u64 (q : Int) (IntKind.u64.wrap ((x : Int) * 2 ^ (8 * j))) = ((q + x * 256 ^ j : Nat) : Int) := by
  have e : (2 : Nat) ^ (8 * j) = 256 ^ j := by rw [Nat.pow_mul]
  have e2 : ((x : Int) * 2 ^ (8 * j)) = ((x * 256 ^ j : Nat) : Int) := by rw [← e]; push_cast; rfl
  have h1 : 256 ^ j * 256 ≤ 18446744073709551616 := by
    have := pow256 (j + 1) (by omega)
    rwa [Nat.pow_succ] at this
  have h2 : x * 256 ^ j < 18446744073709551616 := by
    have : x * 256 ^ j ≤ 255 * 256 ^ j := Nat.mul_le_mul_right _ (by omega)
    omega
  have h3 : 0 < 256 ^ j := Nat.pow_pos (by omega)
  have h5 : ((x * 256 ^ j : Nat) : Int) % 18446744073709551616 = ((x * 256 ^ j : Nat) : Int) := Int.emod_eq_of_lt (by omega) (by omega)
  rw [e2, IntKind.wrap_u64, h5, bits_or_u64_nat _ _ (by omega) h2]
  have h4 : q ||| x * 256 ^ j = q + x * 256 ^ j := by
    have := Nat.two_pow_add_eq_or_of_lt (i := 8 * j) (b := q) (by rw [e]; exact hq) x
    rw [e] at this
    rw [Nat.or_comm, Nat.mul_comm x, ← this]
    omega
  rw [h4]

theorem takeN_small (xs : List Nat) (n : Int) (h : ∀ x ∈ xs, x < 256) : ∀ x ∈ takeN xs n, x < 256 := by
  intro x hx
  unfold takeN at hx
  split at hx
  · simp at hx
  · exact h x (List.mem_of_mem_take hx)
theorem askN_no {k : Int} (h : mayB k = false) : askN k = -1 := by unfold askN; rw [h]; rfl
theorem askN_yes {k : Int} (h : mayB k = true) : askN k = k := by unfold askN; rw [h]; rfl
theorem ask_len (xs : List Nat) (k : Int) : (takeN xs (askN k)).length ≤ 8 := by
  cases hm : mayB k
  · rw [askN_no hm, takeN, show overB xs (-1) = true from decide_eq_true (.inl (by omega))]
    simp
  · rw [askN_yes hm, takeN]
    have := of_decide_eq_true hm
    split
    · simp
    · rw [List.length_take]
      omega

/-- What is asked of a call that reads a number. -/
def NPost (w : World) (B : Nat) (v : Value) (xs : List Nat) (bad : Bool) (k : Int) (e : Ending) (w' : World) : Prop :=
  ∃ v', e = .returned (.int .u64 ((ofB (takeN xs (askN k)) : Nat) : Int)) ∧ RR w' B v' (leftN xs (askN k)) (badN xs bad (askN k)) ∧ (∀ b, v'.ownBlock = some b → v.ownBlock = some b) ∧ w.grownBy w' (some B)

set_option maxRecDepth 100000 in
set_option maxHeartbeats 1000000 in
theorem rnum_any (B : Nat) (v : Value) (xs : List Nat) (bad : Bool) (k : Int) (w : World) (h : RR w B v xs bad) :
    Calls Try.prog 30 #[.pointer (some ⟨B, 0, none⟩), .int .i64 k] w (NPost w B v xs bad k) := by
  have HM := Lib.hid (fun W => may_any k W)
  have hsm := takeN_small xs (askN k) h.small
  have hl8 := ask_len xs k
  have HRAW := Lib.hid (rraw_any B v xs bad (askN k) w h)
  clear h
  cases hm : mayB k
  all_goals
    rw [hm] at HM
    first | have HA := Lib.hid (askN_no hm) | have HA := Lib.hid (askN_yes hm)
    clear hm
    go_enter Try.func30, Try.ntmps30
    go_wp2_with fail
    refine (HM.out _).mono ?_
    rintro e w1 ⟨rfl, rfl⟩
    go_wp2_with fail
    have hraw := HRAW.out
    rw [HA.out] at hraw
    refine hraw.mono ?_
    rintro e w2 ⟨a, c, v', rfl, o2, r2, hv, g2⟩
    have R2 := Lib.hid r2
    have G2 := Lib.hid g2
    have HV := Lib.hid hv
    have RO := Lib.hid (Rds.of_owns o2)
    rw [HA.out] at hsm hl8
    have HT : Hid (ofB (takeN xs (askN k)) = ofB (takeN xs (askN k))) := Lib.hid rfl
    rw [HA.out] at HT
    have HSM := Lib.hid hsm
    clear hraw r2 g2 hv o2 hsm HRAW HM
    generalize hys : takeN xs _ = ys at *
    have HYS := Lib.hid hys
    clear hys HT
    have hpw : Hid (∀ j, ofB (ys.take j) < 256 ^ j ∨ ys.length < j) := Lib.hid (fun j => by
      by_cases hj : ys.length < j
      · exact .inr hj
      · have h1 := ofB_lt (ys.take j) (fun x hx => HSM.out x (List.mem_of_mem_take hx))
        rw [List.length_take, Nat.min_eq_left (by omega)] at h1
        exact .inl h1)
    go_wp2
    go_loop [5, 15] (fun m i => ∃ j q : Nat, j ≤ ys.length ∧ i = .int .i64 j ∧ m = .int .u64 q ∧ q = ofB (ys.take j)) (fun _ i => ys.length - (intOf i).toNat)
    case atStart => exact ⟨0, 0, by omega, rfl, rfl, rfl⟩
    case round =>
      obtain ⟨j, q, hj, rfl, rfl, hq⟩ := hrel
      by_cases hlt : j < ys.length
      · obtain ⟨b, o, rfl, hc⟩ := RO.out.at' (by omega)
        have hcell := hc j _ (bytesV_get ys j hlt)
        have hx := HSM.out (ys.getD j 0) (by simp [List.getD, hlt])
        have hq1 : q < 256 ^ j := by
          rw [hq]
          rcases hpw.out j with h | h
          · exact h
          · omega
        have hor := or_step q (ys.getD j 0) j hq1 hx (by omega)
        have hst : q + ys.getD j 0 * 256 ^ j = ofB (ys.take (j + 1)) := by rw [hq, ofB_take ys j hlt]
        rw [hst] at hor
        have hq2 : q < 18446744073709551616 := Nat.lt_of_lt_of_le hq1 (pow256 j (by omega))
        have hjb : j < 8 := by omega
        clear hc hq hst hq1
        generalize ys.getD j 0 = x at *
        generalize hr : ofB (ys.take (j + 1)) = r at *
        have HREL := Lib.hid hr
        clear hr
        go_wp2
        go_round
        case rel => exact ⟨j + 1, r, by omega, by go_num, rfl, HREL.out.symm⟩
        case measure => simp [intOf]; omega
      · obtain rfl : j = ys.length := by omega
        rw [List.take_length] at hq
        have HQ := Lib.hid hq
        clear hq
        go_wp2
        go_ret
        refine ⟨v', ?_, ?_, HV.out, G2.out⟩
        · rw [HA.out, HYS.out, ← HQ.out]
          rfl
        · rw [HA.out]
          exact R2.out

end Go.Proofs.Ytbjpjnkaaiajlaa
