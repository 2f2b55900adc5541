/- Layer 23: the walk of SketchAges. -/
import Derived.Test.YtfdkncabicmmiaaSkMath
import Derived.Test.YtfdkncabicmmiaaSkAw
import Derived.Test.YtfdkncabicmmiaaArgB
namespace Go.Proofs.Ytfdkncabicmmiaa
open Go.RowKit Go.WideShapes Go.ChangeShapes Go.ChangeAt

theorem pow_up {a j : Nat} (ha : 1 ≤ a) (h : a + j ≤ 12) : Pow2 (2 ^ (a + j)) := ⟨a + j, by omega, h, rfl⟩
theorem pow_step (a j : Nat) : ((2 ^ (a + j) : Nat) : Int) * 2 = ((2 ^ (a + (j + 1)) : Nat) : Int) := by
  rw [show a + (j + 1) = (a + j) + 1 from rfl, Nat.pow_succ]; omega

/-- Behind k marks: the age is k, or, behind the last of ten times the width, all is halved. -/
structure Aged (w w' : World) (B : Nat) (g : Nat → Nat) (m k : Nat) : Prop where
  sk : ∃ (age : Nat) (C : Nat → Nat), SK w' B g m age C ∧ ((k < 10 * m ∧ age = k) ∨ (k = 10 * m ∧ age = 0 ∧ ∀ x, C x ≤ 7))
  newB : w.heap.size ≤ B
  newG : ∀ i, i < 4 → w.heap.size ≤ g i
  grown : w.grownBy w' none
theorem Aged.own {w w' : World} {B : Nat} {g : Nat → Nat} {m k : Nat} (h : Aged w w' B g m k) : ∀ j, KOwn B g j → w.heap.size ≤ j := fun j hj => by
  rcases hj with rfl | ⟨i, hi, rfl⟩
  · exact h.newB
  · exact h.newG i hi

set_option maxRecDepth 100000 in
set_option maxHeartbeats 1000000 in
theorem sketchAges_walk0 (q : BitVec 64) (b : Nat) (hb : b ≤ 255) (w : World) :
    Calls Try.prog 4 #[.int .u64 (U q), .int .u8 (b : Int)] w fun e w' => e = .returned (.bool true) ∧ Below w.heap.size w w' := by
  have hw8 : IntKind.i64.wrap (b : Int) = b := IntWalk.i64_in _ ⟨by omega, by omega⟩
  obtain ⟨t, ht⟩ : ∃ t, b % 5 = t := ⟨_, rfl⟩
  have ht5 : t < 5 := by omega
  have hti : (b : Int) % 5 = (t : Int) := by omega
  have HT := Lib.hid hti
  clear ht hti
  go_enter Try.func4, Try.ntmps4
  go_wp2_with fail
  go_loop [5, 6] (fun wd i => ∃ j : Nat, j ≤ t ∧ i = .int .i64 j ∧ wd = .int .i64 ((2 ^ (1 + j) : Nat) : Int)) (fun _ i => t - (intOf i).toNat)
  case atStart => exact ⟨0, by omega, rfl, rfl⟩
  case round =>
    obtain ⟨j, hj, rfl, rfl⟩ := hrel
    have hps := pow_step 1 j
    have hpl := pow2_le (pow_up (a := 1) (j := j) (by omega) (by omega))
    have HPS := Lib.hid hps
    have ht' := HT.out
    by_cases hlt : j < t
    · have hd : decide ((j : Int) < (b : Int) % 5) = true := decide_eq_true (by omega)
      clear hps
      generalize hP : 2 ^ (1 + j) = P at *
      go_wp2_with fail
      exact ⟨⟨j + 1, by omega, by go_num, by rw [HPS.out]⟩, by simp [intOf]; omega⟩
    · obtain rfl : t = j := by omega
      have hd : decide ((t : Int) < (b : Int) % 5) = false := decide_eq_false (by omega)
      have hpw := pow_up (a := 1) (j := t) (by omega) (by omega)
      clear hps HPS
      generalize hP : 2 ^ (1 + t) = m at *
      clear hP
      have HPW := Lib.hid hpw
      clear hpw
      go_wp2_with fail
      refine (knew_any m HPW.out _).mono ?_
      rintro e w1 ⟨B, g, rfl, s1, hB, hg, g1⟩
      have A0 : Hid (Aged w w1 B g m 0) := Lib.hid ⟨⟨0, _, s1, .inl ⟨by omega, rfl⟩⟩, hB, hg, g1⟩
      clear s1 hB hg g1
      go_wp2_with fail
      go_loopw [8] (fun i wr => ∃ k : Nat, k ≤ 10 * m ∧ i = .int .i64 k ∧ Aged w wr B g m k) (fun i _ => 10 * m - (intOf i).toNat)
      case atStart => exact ⟨0, by omega, rfl, A0.out⟩
      case round =>
        clear A0
        obtain ⟨k, hk, rfl, hA⟩ := hrel
        have HA := Lib.hid hA
        clear hA
        by_cases hlk : k < 10 * m
        · obtain ⟨age, C, hs, hc⟩ := HA.out.sk
          obtain ⟨hk', rfl⟩ : k < 10 * m ∧ age = k := by
            rcases hc with h | h
            · exact h
            · omega
          have HS := Lib.hid hs
          clear hc hs
          go_wp2_with fail
          refine (age_any B g m age C _ HS.out).mono ?_
          rintro e w2 ⟨rfl, rfl⟩
          obtain ⟨r3, hr3⟩ : ∃ r3, age % 3 = r3 := ⟨_, rfl⟩
          have hrem : (age : Int).tmod 3 = (r3 : Int) := by rw [Int.tmod_eq_emod_of_nonneg (by omega)]; omega
          have hrem2 : (age : Int) % 3 = (r3 : Int) := by omega
          have hw3 : IntKind.u64.wrap (r3 : Int) = U (BitVec.ofNat 64 r3) := U_wrap _
          have hadd := U_add q (BitVec.ofNat 64 r3)
          generalize q + BitVec.ofNat 64 r3 = q2 at *
          generalize BitVec.ofNat 64 r3 = q3 at *
          clear hr3
          go_wp2_with fail
          refine (mark_any B g m age C q2 _ HS.out hk').mono ?_
          rintro e w3 ⟨rfl, s3, t3⟩
          have hA2 : Aged w w3 B g m (age + 1) := ⟨⟨_, _, s3, by
            unfold markA markD
            by_cases hf : age + 1 = 10 * m
            · rw [if_pos hf, if_pos hf]
              refine .inr ⟨hf, rfl, fun x => ?_⟩
              have h15 := s3.le x
              unfold markD at h15
              rw [if_pos hf] at h15
              have := mkL_15 m q2 (gs m C q2) (first4 4) C HS.out.le x
              unfold halfC markC
              omega
            · rw [if_neg hf, if_neg hf]
              exact .inl ⟨by omega, rfl⟩⟩, HA.out.newB, HA.out.newG, Touch.grown HA.out.grown t3 HA.out.own⟩
          have HA2 := Lib.hid hA2
          clear hA2 s3 t3 hrem hrem2 hw3 hadd
          go_wp2_with fail
          exact ⟨⟨age + 1, by omega, by go_num, HA2.out⟩, by simp [intOf]; omega⟩
        · obtain rfl : k = 10 * m := by omega
          obtain ⟨age, C, hs, hc⟩ := HA.out.sk
          obtain ⟨_, rfl, h7⟩ : 10 * m = 10 * m ∧ age = 0 ∧ ∀ x, C x ≤ 7 := by
            rcases hc with h | h
            · omega
            · exact h
          have HS := Lib.hid hs
          have H7 := Lib.hid h7
          have HG := Lib.hid HA.out.grown
          have hq : IntKind.u64.wrap (U q + 1) = U (q + 1#64) := U_add q 1#64
          clear hc hs h7 HA
          go_wp2_with fail
          refine (age_any B g m 0 C _ HS.out).mono ?_
          rintro e w2 ⟨rfl, rfl⟩
          go_wp2_with fail
          have hg0 : gs m C q ≤ 7 := Nat.le_trans (gs_at m C q 0) (H7.out _)
          have hg1 : gs m C (q + 1#64) ≤ 7 := Nat.le_trans (gs_at m C (q + 1#64) 0) (H7.out _)
          refine (guess_any B g m 0 C q _ HS.out).mono ?_
          rintro e w3 ⟨rfl, g3⟩
          generalize gs m C q = ga at *
          have hga : decide ((ga : Int) ≤ 7) = true := decide_eq_true (by omega)
          have HS3 := Lib.hid (HS.out.grown g3)
          have HG3 := Lib.hid (grownBy_trans HG.out g3)
          clear g3 HS HG
          go_wp2_with fail
          refine (guess_any B g m 0 C (q + 1#64) _ HS3.out).mono ?_
          rintro e w4 ⟨rfl, g4⟩
          generalize gs m C (q + 1#64) = gb at *
          have hgb : decide ((gb : Int) ≤ 7) = true := decide_eq_true (by omega)
          have HG4 := Lib.hid (grownBy_trans HG3.out g4)
          clear g4 HS3 HG3
          go_wp2_with fail
          refine (kawake_any _).mono ?_
          rintro e w5 ⟨rfl, g5⟩
          have HG5 := Lib.hid (below_grownBy (grownBy_trans HG4.out g5))
          clear g5 HG4
          go_wp2_with fail
          go_ret
          exact ⟨rfl, HG5.out⟩

section
variable {H : Type} {enc : TypeId × Value → H} {r : Reach} {b0 : Nat}
theorem sketchAges_walk (w : World) {v0 v1 : Value} {d0 d1 : DataW H} {p0 p1 : List MemPlace} (k0 : Value.okWide Try.prog w r b0 26 v0) (k1 : Value.okWide Try.prog w r b0 5 v1) (h0 : DataW.Trod enc Try.prog w 0 (fun _ => true) true 26 v0 d0 p0) (h1 : DataW.Trod enc Try.prog w 0 (fun _ => true) true 5 v1 d1 p1) :
    Calls Try.prog 4 #[v0, v1] w fun e w' => e = .returned (.bool true) ∧ Below w.heap.size w w' := by
  obtain ⟨x, rfl⟩ := arg_u64 w k0 h0
  obtain ⟨b, rfl, hb⟩ := arg_u8 w k1 h1
  exact sketchAges_walk0 x b hb w
end

end Go.Proofs.Ytfdkncabicmmiaa
