/- Layer 2: MixHalves. -/
import Derived.Test.YtnlcjelmdfjkcaaMixC
namespace Go.Proofs.Ytnlcjelmdfjkcaa
open Go.RowKit Go.WideShapes Go.ChangeShapes Go.ChangeAt

theorem upto_add {α : Type} (f : Nat → α) (n m : Nat) : upto f (n + m) = upto f n ++ upto (fun i => f (n + i)) m := by
  unfold upto
  rw [List.range_add, List.map_append, List.map_map]
  rfl

/-- The slots of a prefix: those of it with 0, then with 1 behind it. -/
theorem slotsL_halves (p b d : Nat) (hb : b < d) (hd : d ≤ 20) (hp : p < 2 ^ b) : slotsL p b d = slotsL (2 * p) (b + 1) d ++ slotsL (2 * p + 1) (b + 1) d := by
  have e1 : ((d : Int) - b).toNat = (d - b - 1) + 1 := by omega
  have e2 : ((d : Int) - (b + 1)).toNat = d - b - 1 := by omega
  have e3 : ((b : Int) + 1).toNat = b + 1 := by omega
  have hp2 : 2 * p + 1 < 2 ^ (b + 1) := by rw [Nat.pow_succ]; omega
  unfold slotsL
  rw [if_pos ⟨by omega, by omega, by omega, by omega, by rw [Int.toNat_natCast]; exact_mod_cast hp⟩,
    if_pos ⟨by omega, by omega, by omega, by omega, by rw [e3]; exact_mod_cast (by omega : 2 * p < 2 ^ (b + 1))⟩,
    if_pos ⟨by omega, by omega, by omega, by omega, by rw [e3]; exact_mod_cast hp2⟩, e1, e2]
  generalize hM : 2 ^ (d - b - 1) = M
  rw [show 2 ^ (d - b - 1 + 1) = M + M by rw [Nat.pow_succ, hM]; omega, upto_add]
  congr 1
  · unfold upto
    apply List.map_congr_left
    intro i _
    unfold slotF
    rw [e1, e2]
    have : (2 : Int) ^ (d - b - 1 + 1) = 2 * 2 ^ (d - b - 1) := by rw [Int.pow_succ]; omega
    rw [this, Int.mul_left_comm, Int.mul_assoc]
  · unfold upto
    apply List.map_congr_left
    intro i _
    unfold slotF
    rw [e1, e2]
    have h2 : (2 : Int) ^ (d - b - 1 + 1) = 2 * 2 ^ (d - b - 1) := by rw [Int.pow_succ]; omega
    have h3 : (2 : Int) ^ (d - b - 1) = M := by rw [← hM]; norm_cast
    rw [h2, h3, Int.add_mul, Int.mul_left_comm, Int.mul_assoc]
    push_cast
    omega

theorem slotsL_len (p b d : Nat) (hb : b ≤ d) (hd : d ≤ 20) (hp : p < 2 ^ b) : (slotsL p b d).length = 2 ^ (d - b) := by
  unfold slotsL
  rw [if_pos ⟨by omega, by omega, by omega, by omega, by rw [Int.toNat_natCast]; exact_mod_cast hp⟩, upto_length]
  congr 1
  omega

/-- The highest bits as a number, of a count of them. -/
def preN (x : BitVec 64) (b : Nat) : Nat := x.toNat / 2 ^ (64 - b)
theorem pre_preN (x : BitVec 64) (b : Nat) (h : b ≤ 30) : pre x b = preN x b := by
  unfold pre preN
  by_cases h0 : b = 0
  · subst h0
    rw [if_pos (by omega)]
    have := x.isLt
    rw [Nat.div_eq_of_lt (by simpa using this)]
    rfl
  · rw [if_neg (by omega), show ((64 : Int) - b).toNat = 64 - b by omega]
    unfold U
    norm_cast
theorem preN_lt (x : BitVec 64) (b : Nat) (h : b ≤ 64) : preN x b < 2 ^ b := by
  unfold preN
  apply Nat.div_lt_of_lt_mul
  rw [← Nat.pow_add, show 64 - b + b = 64 by omega]
  exact x.isLt
theorem preN_div (x : BitVec 64) (b k : Nat) (h : b + k ≤ 64) : preN x (b + k) / 2 ^ k = preN x b := by
  unfold preN
  rw [Nat.div_div_eq_div_mul, ← Nat.pow_add]
  congr 2
  omega

theorem preN_mem (x : BitVec 64) (b d : Nat) (hb : b ≤ d) (hd : d ≤ 20) : (preN x d : Int) ∈ slotsL (preN x b) b d := by
  unfold slotsL
  have hp := preN_lt x b (by omega)
  rw [if_pos ⟨by omega, by omega, by omega, by omega, by rw [Int.toNat_natCast]; exact_mod_cast hp⟩]
  unfold upto
  rw [List.mem_map]
  have h1 := preN_div x b (d - b) (by omega)
  rw [show b + (d - b) = d by omega] at h1
  have e : ((d : Int) - b).toNat = d - b := by omega
  refine ⟨preN x d % 2 ^ (d - b), ?_, ?_⟩
  · rw [e]
    simp
    exact Nat.mod_lt _ (Nat.two_pow_pos _)
  · unfold slotF
    rw [e, ← h1]
    have := Nat.div_add_mod (preN x d) (2 ^ (d - b))
    rw [Nat.mul_comm] at this
    exact_mod_cast this

theorem any_take_succ (L : List Int) (q : Int) (k : Nat) (hk : k < L.length) : (L.take (k + 1)).any (· == q) = ((L.take k).any (· == q) || L.getD k 0 == q) := by
  rw [List.take_succ_eq_append_getElem hk, List.any_append]
  simp [List.getD, hk]

theorem pow_small (n k : Nat) (h : n ≤ k) : 2 ^ n ≤ 2 ^ k := Nat.pow_le_pow_right (by omega) h
theorem wrap_pow (n N : Nat) (h : 2 ^ n = N) (hN : N ≤ 1024) : wrap64 ((2 : Int) ^ n) = (N : Int) ∧ IntKind.i64.wrap ((2 : Int) ^ n) = (N : Int) := by
  have hNi : (2 : Int) ^ n = (N : Int) := by rw [← h]; norm_cast
  rw [hNi]
  clear hNi h
  exact ⟨IntWalk.wrap64_in _ ⟨by omega, by omega⟩, IntWalk.i64_in _ ⟨by omega, by omega⟩⟩

theorem mixHalves_walk0 (h : BitVec 64) (bits depth : Nat) (hbits : bits ≤ 255) (hdepth : depth ≤ 255) (w : World) :
    Calls Try.prog 5 #[.int .u64 (U h), .int .u8 bits, .int .u8 depth] w fun e w' => e = .returned (.bool true) ∧ Below w.heap.size w w' := by
  obtain ⟨i0, hi, hz0, hz1, hz2⟩ := info_parts infoInt
  have hh0 := U_lo h
  have hh1 := U_hi h
  obtain ⟨d, hd⟩ : ∃ d : Nat, d = depth % 10 + 1 := ⟨_, rfl⟩
  have hd1 : 1 ≤ d := by omega
  have hd2 : d ≤ 10 := by omega
  obtain ⟨b, hb⟩ : ∃ b : Nat, b = bits % d := ⟨_, rfl⟩
  have hb1 : b < d := by rw [hb]; exact Nat.mod_lt _ (by omega)
  have HD : Hid ((depth : Int) % 10 + 1 = d) := Lib.hid (by rw [hd]; norm_cast)
  have HB : Hid ((bits : Int) % (d : Int) = b) := Lib.hid (by rw [hb]; norm_cast)
  clear hd hb
  go_enter Try.func5, Try.ntmps5
  go_wp2_with fail
  rw [HD.out, HB.out]
  have hpb := pre_preN h b (by omega)
  have hpd := pre_preN h d (by omega)
  have hpb1 := pre_preN h (b + 1) (by omega)
  have hplt := preN_lt h b (by omega)
  have hpdiv := preN_div h b 1 (by omega)
  have hpmem := preN_mem h b d (by omega) (by omega)
  have hL := slotsL_halves (preN h b) b d hb1 (by omega) hplt
  have hlen := slotsL_len (preN h b) b d (by omega) (by omega) hplt
  have hpow2 : (2 : Nat) ^ (d - b) ≤ 1024 := pow_small (d - b) 10 (by omega)
  have hcp := fun W => prefix_any h b W
  have hcd := fun W => prefix_any h d W
  have hcb1 := fun W => prefix_any h (b + 1) W
  rw [hpb] at hcp
  rw [hpd] at hcd
  rw [show ((b : Int) + 1) = ((b + 1 : Nat) : Int) by norm_cast, hpb1] at hcb1
  have HCP := Lib.hid hcp
  have HCD := Lib.hid hcd
  have HCB1 := Lib.hid hcb1
  have HDIV := Lib.hid hpdiv
  have HMEM := Lib.hid hpmem
  have HLL := Lib.hid hL
  have HLEN := Lib.hid hlen
  clear hcp hcd hcb1 hpb hpd hpb1 hpdiv hpmem hL hlen
  refine (HCP.out _).mono ?_
  rintro e w1 ⟨rfl, rfl⟩
  generalize preN h b = p at *
  generalize preN h d = q at *
  generalize preN h (b + 1) = q1 at *
  have hp9 : p < 512 := Nat.lt_of_lt_of_le hplt (pow_small b 9 (by omega))
  go_wp2_with fail
  refine (slotsl_any p b d w).mono ?_
  rintro e w1 ⟨v1, rfl, o1, g1⟩
  go_wp2_with fail
  refine (slotsl_any (2 * p) (b + 1) d w1).mono ?_
  rintro e w2 ⟨v2, rfl, o2, g2⟩
  go_wp2_with fail
  refine (slotsl_any (2 * p + 1) (b + 1) d w2).mono ?_
  rintro e w3 ⟨v3, rfl, o3, g3⟩
  have g23 := (grownBy_trans g2 g3).size
  have O2 := Lib.hid (owns_grown o2 g3)
  have R3 := Lib.hid (Rds.of_owns o3)
  have R1 := Lib.hid (Rds.grown (Rds.grown (Rds.of_owns o1) g2 (by simp)) g3 (by simp))
  have G3 := Lib.hid (grownBy_trans (grownBy_trans g1 g2) g3)
  have g1s := g1.size
  obtain ⟨N, hN⟩ : ∃ N : Nat, 2 ^ (d - b) = N := ⟨_, rfl⟩
  have hNb : N ≤ 1024 := by rw [← hN]; exact hpow2
  obtain ⟨e1, e2⟩ := wrap_pow (d - b) N hN hNb
  clear hpow2
  have HLEN2 : Hid ((slotsL p b d).length = N) := Lib.hid (HLEN.out.trans hN)
  have hl12 : (slotsL (2 * p) (b + 1) d).length + (slotsL (2 * p + 1) (b + 1) d).length = N := by
    have h1 := HLEN2.out
    rw [HLL.out, List.length_append] at h1
    exact h1
  have E1 := Lib.hid e1
  have E2 := Lib.hid e2
  have hlt1 : Hid (∀ k, v1.ownBlock = some k → k < w1.heap.size) := Lib.hid (fun k hk => (o1.lt k hk).2)
  have hge2 : Hid (∀ k, v2.ownBlock = some k → w1.heap.size ≤ k) := Lib.hid (fun k hk => (o2.lt k hk).1)
  clear o1 o2 o3 g1 g2 g3 hN HLEN e1 e2
  generalize hA : slotsL (2 * p) (b + 1) d = A at *
  generalize hB : slotsL (2 * p + 1) (b + 1) d = B at *
  generalize slotsL p b d = L at *
  clear hA hB
  go_wp2_with (at_builtin; refine wpList_append_rds rfl _ _ 22 rfl w1.heap.size 3 i0 (.int .i64 0) 1 8 Try.underlying22 hi hz0 hz1 hz2 rfl (by decide) (v := v2) (sv := v3) rfl O2.out rfl R3.out (by simp [Value.oneCell']) (by unfold maxLen; omega) (by omega) (by omega) ?_; intro v4 w4 h4 g4 _; have HB4 : Hid (w4.ownsRow w1.heap.size 3 1 v4 L.length (L.map (Value.int .i64))) := Lib.hid (by rw [HLL.out, List.length_append, List.map_append]; exact h4); have G4 := Lib.hid g4; clear h4 g4; rw [HLEN2.out] at HB4; have r1 := Rds.grown R1.out G4.out (fun k hk hk2 => by have h1 := hlt1.out k hk2; have h2 := hge2.out k hk; omega); rw [HLEN2.out] at r1; have r4 := Rds.of_owns HB4.out; obtain ⟨a1, c1, rfl⟩ := r1.slice; obtain ⟨a4, c4, rfl⟩ := r4.slice; have RR1 := Lib.hid r1; have RR4 := Lib.hid r4; clear r1 r4; have e1 := E1.out; have e2 := E2.out; have hne : ((N : Int) != (N : Int)) = false := by simp)
  clear e1 e2 hne
  have G5 := Lib.hid (grownBy_own2 (v := v2) G3.out O2.out (by omega) G4.out)
  go_loopw [12, 13] (fun c i wr => ∃ k n : Nat, k ≤ N ∧ i = .int .i64 k ∧ c = .bool ((L.take k).any (· == (q : Int))) ∧ wr = w4.drewN n) (fun _ i _ => N - (intOf i).toNat)
  case atStart => exact ⟨0, 0, Nat.zero_le _, rfl, by simp, rfl⟩
  case round =>
    obtain ⟨k, n, hk, rfl, rfl, rfl⟩ := hrel
    by_cases hlt : k < N
    · have hkL : k < L.length := by rw [HLEN2.out]; exact hlt
      obtain ⟨b1, o1, rfl, hc1⟩ := RR1.out.at' (by omega)
      obtain ⟨b4, o4, rfl, hc4⟩ := RR4.out.at' (by omega)
      have hx := hc1 k _ (getD_map_int L k hkL)
      have hy := hc4 k _ (getD_map_int L k hkL)
      have hstep := any_take_succ L q k hkL
      have HSTEP := Lib.hid hstep
      have hcd2 : ∀ (W : World) (j : Nat), Calls Try.prog 13 #[.int .u64 (U h), .int .i64 d] (W.drewN j) fun e w' => e = .returned (.int .i64 q) ∧ w' = W.drewN j := fun W j => (HCD.out _).mono fun e w' hh => ⟨hh.1, hh.2.symm⟩
      have HC := Lib.hid hcd2
      clear hc1 hc4 hstep hkL hcd2
      generalize L.getD k 0 = r at *
      generalize (L.take k).any (· == (q : Int)) = c at *
      have hb : (r != r) = false := by simp
      cases c
      · cases hrq : (r == (q : Int))
        all_goals
          rw [hrq] at HSTEP
          go_wp2
          go_quiet (fail)
          have hx' : ((w4.drewN n).drewN nq).cell? ⟨b1, o1 + k, none⟩ = some (.int .i64 r) := hx
          have HWZ : Hid ((w4.drewN n).drewN nq = w4.drewN (n + nq)) := Lib.hid (drewN_drewN _ _ _)
          clear hx hy
          generalize (w4.drewN n).drewN nq = wz at *
          go_wp2
          go_quiet ((go_at_call 13; exact Calls.quiet_of_same (HC.out _ _)))
          go_wp2
          go_roundw
          case rel => exact ⟨k + 1, _, by omega, by go_num, by rw [HSTEP.out]; rfl, by rw [HWZ.out]; exact drewN_drewN _ _ _⟩
          case measure => simp [intOf]; omega
      · go_wp2
        go_quiet (fail)
        have hx' : ((w4.drewN n).drewN nq).cell? ⟨b1, o1 + k, none⟩ = some (.int .i64 r) := hx
        have HWZ : Hid ((w4.drewN n).drewN nq = w4.drewN (n + nq)) := Lib.hid (drewN_drewN _ _ _)
        clear hx hy
        generalize (w4.drewN n).drewN nq = wz at *
        go_wp2
        go_quiet (fail)
        go_wp2
        go_roundw
        case rel => exact ⟨k + 1, _, by omega, by go_num, by rw [HSTEP.out]; rfl, by rw [HWZ.out]; exact drewN_drewN _ _ _⟩
        case measure => simp [intOf]; omega
    · obtain rfl : k = N := by omega
      have hany : (L.take k).any (· == (q : Int)) = true := by
        rw [List.take_of_length_le (by rw [HLEN2.out]; exact Nat.le_refl _), List.any_eq_true]
        exact ⟨q, HMEM.out, by simp⟩
      have hdv : (q1 : Int) / 2 = p := by
        have := HDIV.out
        rw [← this]
        norm_cast
      have hq1 : (q1 : Int) ≤ 2000 := by omega
      rw [hany]
      clear hany
      go_wp2_with fail
      refine (HCB1.out _).mono ?_
      rintro e w5 ⟨rfl, rfl⟩
      go_wp2_with (go_at_call 10; refine (awake_any _).mono ?_; rintro e w6 ⟨rfl, g6⟩)
      go_ret
      exact ⟨rfl, below_grownBy (grownBy_trans (grownBy_trans G5.out (grownBy_drewN _ n none)) g6)⟩

section
variable {H : Type} {enc : TypeId × Value → H} {r : Reach} {b0 : Nat}
theorem mixHalves_walk (w : World) {v0 v1 v2 : Value} {d0 d1 d2 : DataW H} {p0 p1 p2 : List MemPlace} (k0 : Value.okWide Try.prog w r b0 26 v0) (k1 : Value.okWide Try.prog w r b0 5 v1) (k2 : Value.okWide Try.prog w r b0 5 v2)
    (h0 : DataW.Trod enc Try.prog w 0 (fun _ => true) true 26 v0 d0 p0) (h1 : DataW.Trod enc Try.prog w 0 (fun _ => true) true 5 v1 d1 p1) (h2 : DataW.Trod enc Try.prog w 0 (fun _ => true) true 5 v2 d2 p2) :
    Calls Try.prog 5 #[v0, v1, v2] w fun e w' => e = .returned (.bool true) ∧ Below w.heap.size w w' := by
  obtain ⟨x, rfl⟩ := arg_u64 w k0 h0
  obtain ⟨y, rfl, hy⟩ := arg_u8 w k1 h1
  obtain ⟨z, rfl, hz⟩ := arg_u8 w k2 h2
  exact mixHalves_walk0 x y z hy hz w
end

end Go.Proofs.Ytnlcjelmdfjkcaa
