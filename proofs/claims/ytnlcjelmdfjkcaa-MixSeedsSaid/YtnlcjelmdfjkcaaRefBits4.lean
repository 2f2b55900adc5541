/- The reference's scramble, hash and prefix. -/
import Derived.Test.YtnlcjelmdfjkcaaRefBits3
import Derived.Test.YtnlcjelmdfjkcaaMixHash
import Derived.Deep.RegionWith
import Derived.WalkSmall
namespace Go.Proofs.Ytnlcjelmdfjkcaa
open Go.RowKit

def RB (x : BitVec 64) : Array Value := rowB (bitsL x)
theorem ofR (x : BitVec 64) (w : World) : Calls Try.prog 24 #[.int .u64 (U x)] w fun e w' => e = .returned (.agg (RB x)) ∧ w.grownBy w' none := of_any x w
theorem downR (x : BitVec 64) (p : Nat) (hp0 : 1 ≤ p) (hp : p ≤ 63) (w : World) : Calls Try.prog 23 #[.agg (RB x), .int .i64 p] w fun e w' => e = .returned (.agg (RB (fwd p x))) ∧ w.grownBy w' none := down_any x p hp0 hp w
theorem down30 (x : BitVec 64) (w : World) : Calls Try.prog 23 #[.agg (RB x), .int .i64 30] w fun e w' => e = .returned (.agg (RB (fwd 30 x))) ∧ w.grownBy w' none := downR x 30 (by omega) (by omega) w
theorem down27 (x : BitVec 64) (w : World) : Calls Try.prog 23 #[.agg (RB x), .int .i64 27] w fun e w' => e = .returned (.agg (RB (fwd 27 x))) ∧ w.grownBy w' none := downR x 27 (by omega) (by omega) w
theorem down31 (x : BitVec 64) (w : World) : Calls Try.prog 23 #[.agg (RB x), .int .i64 31] w fun e w' => e = .returned (.agg (RB (fwd 31 x))) ∧ w.grownBy w' none := downR x 31 (by omega) (by omega) w
theorem numberR (x : BitVec 64) (w : World) : Calls Try.prog 22 #[.agg (RB x)] w fun e w' => e = .returned (.int .u64 (U x)) ∧ w.grownBy w' none := number_any x w
theorem apartR (a b : BitVec 64) (w : World) : Calls Try.prog 27 #[.agg (RB a), .agg (RB b)] w fun e w' => e = .returned (.agg (RB (a ^^^ b))) ∧ w.grownBy w' none := apart_any a b w
attribute [irreducible] RB


set_option maxHeartbeats 4000000 in
theorem rscramble_any (x : BitVec 64) (w : World) :
    Calls Try.prog 14 #[.int .u64 (U x)] w fun e w' => e = .returned (.int .u64 (U (scr x))) ∧ w.grownBy w' none := by
  have e := scr_ref x
  rw [← e]
  clear e
  have h0 := U_c1 (fwd 30 x)
  have h1 := U_c2 (fwd 27 (fwd 30 x * c1))
  go_enter Try.func14, Try.ntmps14
  go_wp2_with fail
  refine (ofR _ _).mono ?_; rintro e w1 ⟨rfl, g1⟩
  go_wp2_with fail
  refine (down30 _ _).mono ?_; rintro e w2 ⟨rfl, g2⟩
  go_wp2_with fail
  refine (numberR _ _).mono ?_; rintro e w3 ⟨rfl, g3⟩
  go_wp2_with fail
  refine (ofR _ _).mono ?_; rintro e w4 ⟨rfl, g4⟩
  go_wp2_with fail
  refine (down27 _ _).mono ?_; rintro e w5 ⟨rfl, g5⟩
  go_wp2_with fail
  refine (numberR _ _).mono ?_; rintro e w6 ⟨rfl, g6⟩
  go_wp2_with fail
  refine (ofR _ _).mono ?_; rintro e w7 ⟨rfl, g7⟩
  go_wp2_with fail
  refine (down31 _ _).mono ?_; rintro e w8 ⟨rfl, g8⟩
  go_wp2_with fail
  refine (numberR _ _).mono ?_; rintro e w9 ⟨rfl, g9⟩
  go_wp2
  go_ret
  exact ⟨rfl, grownBy_trans (grownBy_trans (grownBy_trans g1 (grownBy_trans g2 g3)) (grownBy_trans g4 (grownBy_trans g5 g6))) (grownBy_trans g7 (grownBy_trans g8 g9))⟩

theorem U_hb (n : BitVec 64) (x : Nat) : IntKind.u64.wrap (U (n ^^^ BitVec.ofNat 64 x) * 1099511628211) = U (hb n x) := U_mul _ 1099511628211#64

theorem begB_eq (s : BitVec 64) : s ^^^ 14695981039346656037#64 = begB s := rfl
theorem foldB_zero (n : BitVec 64) (xs : List Nat) : foldB n (xs.take 0) = n := rfl

attribute [local irreducible] Calls
theorem toGrown {w wr wr' wa : World} (h : w.grownBy wr none) (g : wr'.grownBy wa none) (e : wr' = wr ∨ ∃ n, wr' = wr.drewN n := by first | exact .inl rfl | exact .inr ⟨1, rfl⟩) : w.grownBy wa none := by
  rcases e with rfl | ⟨n, rfl⟩
  · exact grownBy_trans h g
  · exact grownBy_trans (grownBy_trans h (grownBy_drewN _ n _)) g

set_option maxHeartbeats 2500000 in
theorem rhash_any (s : BitVec 64) (xs : List Nat) (a : Option Addr) (c : Nat) (w : World) (hg : ∀ x ∈ xs, x < 256) (hr : Rds w 1 (.slice a xs.length c) xs.length (bytesV xs)) :
    Calls Try.prog 16 #[.int .u64 (U s), .slice a xs.length c] w fun e w' => e = .returned (.int .u64 (U (hashB s xs))) ∧ w.grownBy w' none := by
  have hm := hr.2.1
  unfold maxLen at hm
  have HBEG : Hid (∀ W, Calls Try.prog 24 #[.int .u64 14695981039346656037] W fun e w' => e = .returned (.agg (RB 14695981039346656037#64)) ∧ W.grownBy w' none) := Lib.hid fun W => ofR 14695981039346656037#64 W
  have HBX : Hid (∀ x : Nat, x < 256 → ∀ W, Calls Try.prog 24 #[.int .u64 (x : Int)] W fun e w' => e = .returned (.agg (RB (BitVec.ofNat 64 x))) ∧ W.grownBy w' none) := Lib.hid fun x hx W => by
    rw [U_byte x hx]
    exact ofR _ W
  have HR := Lib.hid hr
  have HGD := Lib.hid (getD_small xs hg)
  have hlen : (xs.length : Int) = U (BitVec.ofNat 64 xs.length) := by
    unfold U
    rw [BitVec.toNat_ofNat]
    omega
  have hadd : IntKind.u64.wrap (U (foldB (begB s) xs) + (xs.length : Int)) = U (foldB (begB s) xs + BitVec.ofNat 64 xs.length) := by
    rw [hlen, U_add]
  have HADD := Lib.hid hadd
  clear hr hg hlen hadd
  go_enter Try.func16, Try.ntmps16
  go_wp2_with fail
  refine (ofR _ _).mono ?_; rintro e w1 ⟨rfl, g1⟩
  go_wp2_with fail
  refine (HBEG.out _).mono ?_; rintro e w2 ⟨rfl, g2⟩
  go_wp2_with fail
  refine (apartR _ _ _).mono ?_; rintro e w3 ⟨rfl, g3⟩
  go_wp2_with fail
  refine (numberR _ _).mono ?_; rintro e w4 ⟨rfl, g4⟩
  have HG := Lib.hid (grownBy_trans (grownBy_trans g1 g2) (grownBy_trans g3 g4))
  clear g1 g2 g3 g4
  rw [begB_eq]
  go_wp2
  go_loopw [5, 6] (fun q i wr => ∃ k : Nat, k ≤ xs.length ∧ i = .int .i64 k ∧ q = .int .u64 (U (foldB (begB s) (xs.take k))) ∧ w.grownBy wr none) (fun _ i _ => xs.length - (intOf i).toNat)
  case atStart => exact ⟨0, by omega, rfl, by rw [foldB_zero], HG.out⟩
  case round =>
    obtain ⟨k, hk, rfl, rfl, hgr⟩ := hrel
    by_cases hlt : k < xs.length
    · obtain ⟨b, o, rfl, hc⟩ := HR.out.at' (by omega)
      have hx := hc k _ (bytesV_get xs k hlt)
      have hx2 : wr.cell? ⟨b, o + k, none⟩ = some (.int .u8 ((xs.getD k 0 : Nat) : Int)) := hgr.cell hx (by simp)
      have HN := Lib.hid (foldB_next (begB s) xs k hlt)
      have HGR := Lib.hid hgr
      have hsm := HGD.out k
      have hbl : b < wr.heap.size := by
        by_cases hb : b < wr.heap.size
        · exact hb
        · have : wr.heap[b]? = none := Array.getElem?_eq_none (by omega)
          simp [World.cell?, this] at hx2
      have HX := Lib.hid hx2
      have hxx : wr.drew.cell? ⟨b, o + k, none⟩ = some (.int .u8 ((xs.getD k 0 : Nat) : Int)) := hx2
      clear hc hx hgr
      generalize xs.getD k 0 = x at *
      generalize foldB (begB s) (xs.take k) = n at *
      have hxw := U_wrap x
      have hmul := U_hb n x
      clear hsm
      go_wp2_with fail
      go_region_with (first
        | (go_at_call 24; refine (ofR _ _).mono ?_; rintro e wa ⟨rfl, ga⟩; replace HGR := Lib.hid (toGrown HGR.out ga); try have hx3 := ga.cell HX.out (by simp))
        | (go_at_call 27; refine (apartR _ _ _).mono ?_; rintro e wa ⟨rfl, ga⟩; replace HGR := Lib.hid (toGrown HGR.out ga))
        | (go_at_call 22; refine (numberR _ _).mono ?_; rintro e wa ⟨rfl, ga⟩; replace HGR := Lib.hid (toGrown HGR.out ga)))
      all_goals
        go_wp2
        go_roundw
        case rel => exact ⟨k + 1, by omega, by go_num, by rw [HN.out], HGR.out⟩
        case measure => simp [intOf]; omega
    · obtain rfl : k = xs.length := by omega
      rw [List.take_length]
      have HGR := Lib.hid hgr
      have hadd := HADD.out
      clear hgr
      go_wp2_with fail
      refine (rscramble_any _ _).mono ?_; rintro e w5 ⟨rfl, g5⟩
      go_wp2
      go_ret
      exact ⟨rfl, grownBy_trans HGR.out g5⟩

end Go.Proofs.Ytnlcjelmdfjkcaa
