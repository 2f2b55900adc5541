/- Layer 2: MixSlots. -/
import Derived.Test.YtnlcjelmdfjkcaaMixB
namespace Go.Proofs.Ytnlcjelmdfjkcaa
open Go.RowKit Go.WideShapes Go.ChangeShapes Go.ChangeAt

theorem getD_map_int (xs : List Int) (k : Nat) (h : k < xs.length) : (xs.map (Value.int .i64))[k]? = some (.int .i64 (xs.getD k 0)) := by simp [h, List.getD]

theorem rslots_any (p b d : Int) (w : World) (hp : p ≤ 9223372036854775807) :
    Calls Try.prog 9 #[.int .i64 p, .int .i64 b, .int .i64 d] w fun e w' => ∃ v, e = .returned v ∧ Rds w' 1 v (slotsL p b d).length ((slotsL p b d).map (Value.int .i64)) ∧ w.grownBy w' none := by
  by_cases h : b < 0 ∨ d < b ∨ 20 < d ∨ p < 0
  · refine (rslots_no p b d w h).mono ?_
    rintro e w' ⟨rfl, rfl⟩
    have hL : slotsL p b d = [] := if_neg (fun hok => by
      obtain ⟨h1, h2, h3, h4, _⟩ := hok
      omega)
    rw [hL]
    exact ⟨_, rfl, Rds.nil _ _, grownBy_refl _ _⟩
  · obtain ⟨pn, rfl⟩ := Int.eq_ofNat_of_zero_le (show 0 ≤ p by omega)
    obtain ⟨bn, rfl⟩ := Int.eq_ofNat_of_zero_le (show 0 ≤ b by omega)
    obtain ⟨dn, rfl⟩ := Int.eq_ofNat_of_zero_le (show 0 ≤ d by omega)
    refine (rslots_yes pn bn dn w (by omega) (by omega) hp).mono ?_
    rintro e w' ⟨v, he, ho, hg⟩
    exact ⟨v, he, Rds.of_owns ho, hg⟩

set_option maxHeartbeats 1000000 in
theorem mixSlots_walk0 (p b d : Int) (w : World) (hp : p ≤ 9223372036854775807) :
    Calls Try.prog 3 #[.int .i64 p, .int .i64 b, .int .i64 d] w fun e w' => e = .returned (.bool true) ∧ Below w.heap.size w w' := by
  by_cases hd : 12 < d ∧ d ≤ 20
  · obtain ⟨h1, h2⟩ := hd
    go_enter Try.func3, Try.ntmps3
    go_wp2
    go_ret
    exact ⟨rfl, Below.refl _ _⟩
  · obtain ⟨c, hc⟩ : ∃ c : Bool, c = decide (12 < d) := ⟨_, rfl⟩
    have hdd : d ≤ 12 ∨ (12 < d ∧ 20 < d) := by omega
    have HR := Lib.hid (rslots_any p b d · hp)
    have HS := Lib.hid (slotsl_any p b d ·)
    clear hd hc
    rcases hdd with hd | ⟨hd1, hd⟩
    all_goals
      go_enter Try.func3, Try.ntmps3
      go_wp2_with fail
      refine (HS.out _).mono ?_
      rintro e w1 ⟨v1, rfl, o1, g1⟩
      go_wp2_with fail
      refine (HR.out _).mono ?_
      rintro e w2 ⟨v2, rfl, r2, g2⟩
      have r1 := Rds.grown (Rds.of_owns o1) g2 (by simp)
      have G2 := Lib.hid (grownBy_trans g1 g2)
      clear o1 g1 g2 HS HR
      generalize slotsL p b d = L at *
      have hm := r1.2.1
      unfold maxLen at hm
      obtain ⟨a1, c1, rfl⟩ := r1.slice
      obtain ⟨a2, c2, rfl⟩ := r2.slice
      have R1 := Lib.hid r1
      have R2 := Lib.hid r2
      have hne : ((L.length : Int) != (L.length : Int)) = false := by simp
      clear r1 r2
      go_wp2
      go_loopw [9] (fun i wr => ∃ k n : Nat, k ≤ L.length ∧ i = .int .i64 k ∧ wr = w2.drewN n) (fun i _ => L.length - (intOf i).toNat)
      case atStart => exact ⟨0, 0, Nat.zero_le _, rfl, rfl⟩
      case round =>
        obtain ⟨k, n, hk, rfl, rfl⟩ := hrel
        by_cases hlt : k < L.length
        · obtain ⟨b1, o1, rfl, hc1⟩ := R1.out.at' (by omega)
          obtain ⟨b2, o2, rfl, hc2⟩ := R2.out.at' (by omega)
          have hx := hc1 k _ (getD_map_int L k hlt)
          have hy := hc2 k _ (getD_map_int L k hlt)
          clear hc1 hc2
          generalize L.getD k 0 = r at *
          have hb : (r != r) = false := by simp
          go_wp2
          go_quiet (fail)
          go_wp2
          go_roundw
          case rel => exact ⟨k + 1, _, by omega, by go_num, rfl⟩
          case measure => simp [intOf]; omega
        · obtain rfl : k = L.length := by omega
          go_wp2_with (go_at_call 10; refine (awake_any _).mono ?_; rintro e w3 ⟨rfl, g3⟩)
          go_ret
          exact ⟨rfl, below_grownBy (grownBy_trans (grownBy_trans G2.out (grownBy_drewN _ n none)) g3)⟩

section
variable {H : Type} {enc : TypeId × Value → H} {r : Reach} {b0 : Nat}
theorem mixSlots_walk (w : World) {v0 v1 v2 : Value} {d0 d1 d2 : DataW H} {p0 p1 p2 : List MemPlace} (k0 : Value.okWide Try.prog w r b0 3 v0) (k1 : Value.okWide Try.prog w r b0 3 v1) (k2 : Value.okWide Try.prog w r b0 3 v2)
    (h0 : DataW.Trod enc Try.prog w 0 (fun _ => true) true 3 v0 d0 p0) (h1 : DataW.Trod enc Try.prog w 0 (fun _ => true) true 3 v1 d1 p1) (h2 : DataW.Trod enc Try.prog w 0 (fun _ => true) true 3 v2 d2 p2) :
    Calls Try.prog 3 #[v0, v1, v2] w fun e w' => e = .returned (.bool true) ∧ Below w.heap.size w w' := by
  obtain ⟨x, rfl, _, hx⟩ := arg_int w k0 h0
  obtain ⟨y, rfl, _⟩ := arg_int w k1 h1
  obtain ⟨z, rfl, _⟩ := arg_int w k2 h2
  exact mixSlots_walk0 x y z w hx
end

end Go.Proofs.Ytnlcjelmdfjkcaa
