/- package sketch: Unpack, of a sketch's bytes. -/
import Derived.Test.YtfdkncabicmmiaaSkUn
namespace Go.Proofs.Ytfdkncabicmmiaa
open Go.RowKit Go.Shelf

theorem kread_iff (xs : List Nat) : kreadB xs = true ↔ Pow2 (numAt xs 0 2) ∧ numAt xs 2 4 < 10 * numAt xs 0 2 ∧ xs.length = 6 + 2 * numAt xs 0 2 := by
  unfold kreadB
  rw [Bool.and_eq_true, Bool.and_eq_true, pow2_iff, decide_eq_true_eq, decide_eq_true_eq]

theorem lo_bits (b : Nat) (h : b < 256) : bits BinOp.and IntKind.u8 (b : Int) 15 = ((b % 16 : Nat) : Int) := by
  have key : ∀ b : Fin 256, bits BinOp.and IntKind.u8 (b.val : Int) 15 = ((b.val % 16 : Nat) : Int) := by decide +kernel
  exact key ⟨b, h⟩

/-- What an Unpack of a sketch's bytes leaves. -/
def KYes (w : World) (xs : List Nat) (e : Ending) (w' : World) : Prop :=
  ∃ B g, e = .returned (.tuple #[.pointer (some ⟨B, 0, none⟩), .int .i64 0]) ∧ SK w' B g (numAt xs 0 2) (numAt xs 2 4) (cntAt xs) ∧ w.heap.size ≤ B ∧ (∀ i, i < 4 → w.heap.size ≤ g i) ∧ w.grownBy w' none

/-- Under way: the sketch's counts up to some pair, the reader at their byte. -/
structure UK (w wr : World) (N1 R : Nat) (v : Value) (xs : List Nat) (B : Nat) (g : Nat → Nat) (m age N : Nat) : Prop where
  pr : PR w wr R v xs (6 + N)
  sk : SK wr B g m age (fillC xs (2 * N))
  newV : ∀ b, v.ownBlock = some b → b < N1
  newR : R < N1
  newB : N1 ≤ B
  newG : ∀ i, i < 4 → N1 ≤ g i
  n1 : w.heap.size ≤ N1

set_option maxRecDepth 100000 in
set_option maxHeartbeats 4000000 in
theorem kunpack_yes (xs : List Nat) (a : Option Addr) (c : Nat) (w : World) (hx : xs.length ≤ 50000000) (hsm : ∀ x ∈ xs, x < 256) (hr : Rds w 1 (.slice a xs.length c) xs.length (bytesV xs)) (hyes : kreadB xs = true) :
    Calls Try.prog 17 #[.slice a xs.length c] w (KYes w xs) := by
  obtain ⟨hp, hage, hlen⟩ := (kread_iff xs).1 hyes
  have h2 : numAt xs 0 2 < 65536 := numAt_lt hsm 0 2
  have h4 : numAt xs 2 4 < 4294967296 := numAt_lt hsm 2 4
  have HLEN := Lib.hid hlen
  have HN := Lib.hid (newReader_any xs a c w hx hsm hr)
  have HSM := Lib.hid hsm
  have HYES := Lib.hid hyes
  clear hsm hr hx hyes hlen
  unfold KYes
  go_enter Try.func17, Try.ntmps17
  go_wp2_with fail
  go_step3
  go_wp2_with fail
  refine HN.out.mono ?_
  rintro e w1 ⟨R, v0, rfl, hr1, hR, hv0, g1⟩
  have hvl : ∀ b, v0.ownBlock = some b → b < w1.heap.size := fun b hb => by
    exact hr1.rds.lt (fun e => by have := HLEN.out; rw [show xs = [] from List.eq_nil_of_length_eq_zero (by rw [← bytesV_len xs, e]; rfl)] at this; simp at this; omega) b hb
  have HVL := Lib.hid hvl
  have P0 : Hid (PR w w1 R v0 xs 0) := Lib.hid ⟨by rw [List.drop_zero, show pastB xs 0 = false from decide_eq_false (by omega)]; exact hr1, hR, hv0, g1⟩
  clear hr1 hR hv0 g1 hvl
  go_wp2_with fail
  refine (P0.out.num 2 (by decide)).mono ?_
  rintro e w2 ⟨v2, rfl, p2, o2, g12⟩
  have P2 := Lib.hid p2
  have HV2 : Hid (∀ b, v2.ownBlock = some b → b < w1.heap.size) := Lib.hid (fun b hb => HVL.out b (o2 b hb))
  have HN1 : Hid (R < w1.heap.size ∧ w.heap.size ≤ w1.heap.size ∧ w1.heap.size ≤ w2.heap.size) := Lib.hid ⟨P0.out.rr.blk.lt, P0.out.grown.size, g12.size⟩
  clear p2 P0 o2 HVL g12
  obtain ⟨m, hm⟩ : ∃ m, numAt xs 0 2 = m := ⟨_, rfl⟩
  rw [hm] at hp hage h2 HLEN ⊢
  have HM := Lib.hid hm
  clear hm
  have hl := pow2_le hp
  have hwm : IntKind.i64.wrap (m : Int) = m := IntWalk.i64_in _ ⟨by omega, by omega⟩
  go_wp2_with fail
  refine (knew_any m hp _).mono ?_
  rintro e w3 ⟨B, g, rfl, hs3, hB3, hg3, g3⟩
  have HS3 := Lib.hid hs3
  have P3 := Lib.hid (P2.out.later g3)
  have HNB : Hid (w1.heap.size ≤ B ∧ ∀ i, i < 4 → w1.heap.size ≤ g i) := Lib.hid ⟨by have := HN1.out; omega, fun i hi => by have := HN1.out; have := hg3 i hi; omega⟩
  have HP := Lib.hid hp
  clear hs3 hB3 hg3 g3 P2 hp
  go_wp2_with fail
  refine (P3.out.num 4 (by decide)).mono ?_
  rintro e w4 ⟨v4, rfl, p4, o4, g4⟩
  have hs4 := HS3.out.touch (Touch.of g4 (S := fun k => k = R) (fun k e => by cases e; rfl)) (by have := HN1.out; have := HNB.out.1; omega) (fun i hi => by have := HN1.out; have := HNB.out.2 i hi; omega)
  rw [← fillC_zero xs] at hs4
  have hu4 : UK w w4 w1.heap.size R v4 xs B g m 0 0 := ⟨p4, hs4, fun b hb => HV2.out b (o4 b hb), HN1.out.1, HNB.out.1, HNB.out.2, HN1.out.2.1⟩
  have HU4 := Lib.hid hu4
  have b0 := hs4.blk.cell (j := 0) rfl
  rw [show 0 + 2 = 2 from rfl]
  obtain ⟨ag, hag⟩ : ∃ ag, numAt xs 2 4 = ag := ⟨_, rfl⟩
  rw [hag] at hage h4 ⊢
  have HA := Lib.hid hag
  clear hag
  have hwa : IntKind.i64.wrap (ag : Int) = ag := IntWalk.i64_in _ ⟨by omega, by omega⟩
  have q10 : IntKind.i64.wrap (10 * (m : Int)) = 10 * (m : Int) := IntWalk.i64_in _ ⟨by omega, by omega⟩
  have q4 : IntKind.i64.wrap (4 * (m : Int)) = 4 * (m : Int) := IntWalk.i64_in _ ⟨by omega, by omega⟩
  have q2 : IntKind.i64.wrap ((4 * (m : Int)).tdiv 2) = 2 * (m : Int) := by
    rw [Int.tdiv_eq_ediv_of_nonneg (by omega), show (4 * (m : Int)) / 2 = 2 * (m : Int) by omega]
    exact IntWalk.i64_in _ ⟨by omega, by omega⟩
  clear p4 P3 HS3 g4 o4 hs4 hu4 HV2
  go_wp2_with fail
  have d1 : decide ((ag : Int) ≥ 10 * (m : Int)) = false := decide_eq_false (by omega)
  refine wp_region_planD (fun w' => w'.cell? ⟨B, 0, none⟩ = some (.int .i64 (m : Int))) [([0, 1, 2, 3, 4, 5, 6, 7, 8, 9, 10, 11, 12, 15, 16, 17, 18, 19, 20], 13, true), ([14, 21], 22, false)] (by kernel_rfl) (by kernel_rfl) ?_
  refine wpPlanD_seg b0 ?_
  repeat ((first | (apply wpReadD_step rfl (by rfl); (· intro wS hSw; (try have hSw := hSw rfl); (try dsimp only at hSw); go_simp; (try with_reducible rfl))) | (apply wpReadD_skip rfl (by rfl))); (try simp only [Act.put, List.setIfInBounds_toArray, List.set_cons_zero, List.set_cons_succ]))
  refine wpReadD_nil ?_
  refine wpOp_list rfl (fun K hK => ?_)
  go_simp
  have hp4 : PR w w4.drew R v4 xs 6 := HU4.out.pr.later (grownBy_drewN w4 1 none)
  refine (rrest_any R v4 _ _ w4.drew hp4.rr).mono ?_
  rintro e w5 ⟨a5, c5, rfl, _, g5⟩
  dsimp only
  have b5 := g5.cell (show w4.drew.cell? ⟨B, 0, none⟩ = some (.int .i64 (m : Int)) from b0) (by simp)
  refine hK _ _ ⟨fun _ => b5, ?_⟩
  have g45 := grownBy_trans (grownBy_drewN w4 1 none) g5
  have HU5 : Hid (UK w w5 w1.heap.size R v4 xs B g m 0 0) := Lib.hid ⟨HU4.out.pr.later g45, HU4.out.sk.grown g45, HU4.out.newV, HU4.out.newR, HU4.out.newB, HU4.out.newG, HU4.out.n1⟩
  clear hK K hp4 g5 g45 HU4
  try simp only [Act.put, List.setIfInBounds_toArray, List.set_cons_zero, List.set_cons_succ]
  have hdl : (xs.drop 6).length = 2 * m := by have := HLEN.out; rw [List.length_drop]; omega
  rw [hdl]
  clear hdl
  obtain ⟨m2, hm2⟩ : ∃ m2, 2 * m = m2 := ⟨_, rfl⟩
  have hne : (((m2 : Nat) : Int) != 2 * (m : Int)) = false := by rw [bne_eq_false_iff_eq]; omega
  have HM2 := Lib.hid hm2
  rw [hm2]
  clear hm2
  refine wpPlanD_seg b5 ?_
  repeat ((first | (apply wpReadD_step rfl (by rfl); (· intro wS hSw; (try have hSw := hSw rfl); (try dsimp only at hSw); go_simp; (try with_reducible rfl))) | (apply wpReadD_skip rfl (by rfl))); (try simp only [Act.put, List.setIfInBounds_toArray, List.set_cons_zero, List.set_cons_succ]))
  refine wpReadD_nil ?_
  refine wpOp_list rfl (fun K hK => ?_)
  go_simp
  refine hK _ _ ⟨fun hf => (by cases hf), ?_⟩
  clear hK K b0 q10 q4 q2 d1 b5 hne
  refine wpPlanD_nil (NoPanic.normal ?_)
  have f1 := HU5.out.sk.blk.frozen 1
  have e1 := HU5.out.sk.blk.cell (j := 1) rfl
  have g6 : w5.grownBy (w5.setCell ⟨B, 1, none⟩ (.int .i64 (ag : Int))) (some B) := grownBy_setCell w5 ⟨B, 1, none⟩ _
  have HU6 : Hid (UK w (w5.setCell ⟨B, 1, none⟩ (.int .i64 (ag : Int))) w1.heap.size R v4 xs B g m ag 0) := Lib.hid (by
    have hd := HU5.out.sk
    have hpd := HU5.out.pr
    have hBw : w.heap.size ≤ B := Nat.le_trans HU5.out.n1 HU5.out.newB
    refine ⟨hpd.touch (S := fun k => k = B) (Touch.of g6 (fun k e => by cases e; rfl)) (fun k hk e => ?_) (grownBy_base2 hpd.grown g6 hBw), hd.aged ag (by omega), HU5.out.newV, HU5.out.newR, HU5.out.newB, HU5.out.newG, HU5.out.n1⟩
    subst e
    rcases hk with h | h
    · have := HU5.out.newR; have := HU5.out.newB; omega
    · have := HU5.out.newV _ h; have := HU5.out.newB; omega)
  clear HU5 g6
  have c2 := HU6.out.sk.blk.cell (j := 2) rfl
  have c3 := HU6.out.sk.blk.cell (j := 3) rfl
  have c4 := HU6.out.sk.blk.cell (j := 4) rfl
  have c5 := HU6.out.sk.blk.cell (j := 5) rfl
  go_wp2_with fail
  clear c2 c3 c4 c5 f1 e1
  generalize hwx : w5.setCell ⟨B, 1, none⟩ (.int .i64 (ag : Int)) = w6 at *
  clear hwx
  go_step3
  have c2 := HU6.out.sk.blk.cell (j := 2) rfl
  have c3 := HU6.out.sk.blk.cell (j := 3) rfl
  have c4 := HU6.out.sk.blk.cell (j := 4) rfl
  have c5 := HU6.out.sk.blk.cell (j := 5) rfl
  obtain ⟨q, hq, hq1⟩ := pow2_even HP.out
  have HQ := Lib.hid hq
  clear hq
  go_wp2_with fail
  clear c2 c3 c4 c5
  go_loopw [51] (fun i wr => ∃ (k : Nat) (v : Value), k ≤ 4 ∧ i = .int .i64 k ∧ UK w wr w1.heap.size R v xs B g m ag (k * q)) (fun i _ => 4 - (intOf i).toNat)
  case atStart => exact ⟨0, _, by omega, rfl, by rw [Nat.zero_mul]; exact HU6.out⟩
  case round =>
    obtain ⟨k, v, hk, rfl, hu⟩ := hrel
    have HU := Lib.hid hu
    clear hu HU6
    by_cases hlt : k < 4
    · have hd4 : decide ((k : Int) < 4) = true := decide_eq_true (by omega)
      have hidx : ∀ W : World, (Instr.index 53 (.agg #[slV (g 0) m, slV (g 1) m, slV (g 2) m, slV (g 3) m]) (.int .i64 (k : Int))).run Try.prog W = .ok (.slice (some ⟨g k, 0, none⟩) m m) W := by
        intro W
        rcases (show k = 0 ∨ k = 1 ∨ k = 2 ∨ k = 3 by omega) with rfl | rfl | rfl | rfl <;> kernel_rfl
      go_wp2_with fail
      clear hidx
      generalize hwo : wr = wo at *
      clear hwo
      go_loopw [9] (fun i wr => ∃ (j : Nat) (v : Value), j ≤ q ∧ i = .int .i64 ((2 * j : Nat) : Int) ∧ UK w wr w1.heap.size R v xs B g m ag (k * q + j)) (fun i _ => m - (intOf i).toNat)
      case atStart => exact ⟨0, _, by omega, rfl, HU.out⟩
      case round =>
        clear HU
        obtain ⟨j, v, hj, rfl, hu⟩ := hrel
        have HU := Lib.hid hu
        clear hu
        by_cases hjt : j < q
        · have h2j : 2 * j + 1 < m := by have := HQ.out; omega
          have e0 : k * m + 2 * j = 2 * (k * q + j) := by rw [HQ.out, Nat.mul_left_comm, Nat.mul_add]
          have hkq : k * q ≤ 3 * q := Nat.mul_le_mul_right q (by omega)
          have hin : 6 + (k * q + j) < xs.length := by have := HLEN.out; have := HQ.out; omega
          obtain ⟨N, hN⟩ : ∃ N, k * q + j = N := ⟨_, rfl⟩
          rw [hN] at HU e0 hin
          have HN := Lib.hid hN
          have HE0 := Lib.hid e0
          have hb := numAt_one hin
          have hb8 := getD_small xs HSM.out (6 + N)
          have hf2 := fillC_two xs N
          have hpast : pastB xs (6 + N + 1) = false := decide_eq_false (by omega)
          obtain ⟨bt, hbt⟩ : ∃ bt, xs.getD (6 + N) 0 = bt := ⟨_, rfl⟩
          rw [hbt] at hb hb8 hf2
          have hlo := lo_bits bt hb8
          have HF2 := Lib.hid hf2
          have HB := Lib.hid hb
          have HPA := Lib.hid hpast
          clear hN e0 hkq hin hbt hb hf2 hpast
          obtain ⟨i2, hi2⟩ : ∃ i2, 2 * j = i2 := ⟨_, rfl⟩
          rw [hi2] at h2j ⊢
          have HI2 := Lib.hid hi2
          clear hi2
          go_wp2_with fail
          refine (HU.out.pr.num 1 (by decide)).mono ?_
          rintro e y1 ⟨v', rfl, p1, o1, gr1⟩
          rw [HB.out]
          have hwb : IntKind.u8.wrap (bt : Int) = bt := IntWalk.u8_in _ ⟨by omega, by omega⟩
          have hR1 := HU.out.newR
          have hB1 := HU.out.newB
          have hG1 := HU.out.newG
          have HS1 := Lib.hid (HU.out.sk.touch (S := fun k => k = R) (Touch.of gr1 (fun k e => by cases e; rfl)) (by omega) (fun i hi => by have := hG1 i hi; omega))
          have P1 := Lib.hid p1
          have HV1 : Hid (∀ b, v'.ownBlock = some b → b < w1.heap.size) := Lib.hid (fun b hb => HU.out.newV b (o1 b hb))
          have HU1 := Lib.hid (And.intro HU.out.newG HU.out.n1)
          clear p1 o1 gr1 HU hG1
          go_wp2_with fail
          refine (rbad_any R v' _ _ y1 P1.out.rr).mono ?_
          rintro e y2 ⟨rfl, rfl⟩
          rw [HPA.out]
          have r0 := (HS1.out.row k hlt).cell (rowV_at m _ k i2 (by omega))
          have r1 := (HS1.out.row k hlt).cell (rowV_at m _ k (i2 + 1) h2j)
          have f0 := (HS1.out.row k hlt).frozen i2
          have f1 := (HS1.out.row k hlt).frozen (i2 + 1)
          have hlt2 : (bt % 16 : Nat) ≤ 15 := by omega
          have hlt3 : (bt / 16 : Nat) ≤ 15 := by omega
          have hS2 := (HS1.out.put k i2 (bt % 16) hlt (by omega) hlt2).put k (i2 + 1) (bt / 16) hlt h2j hlt3
          rw [← Nat.add_assoc, show k * m + i2 = 2 * N by rw [← HE0.out, HI2.out], HF2.out] at hS2
          have hd2 : IntKind.u8.wrap ((bt : Int) / 2 ^ 4) = ((bt / 16 : Nat) : Int) := by
            rw [show (2 : Int) ^ 4 = 16 from rfl, show (bt : Int) / 16 = ((bt / 16 : Nat) : Int) by omega]
            exact IntWalk.u8_in _ ⟨by omega, by omega⟩
          have HS2 := Lib.hid hS2
          clear hS2 hlt2 hlt3 hwb
          unfold u8V at r0 r1 HS2
          rw [show ((bt % 16 : Nat) : Int) = (bt : Int) % 16 by omega, show ((bt / 16 : Nat) : Int) = (bt : Int) / 16 by omega] at HS2
          go_wp2
          have HT1 : Touch (RowsAt g) y1 ((y1.setCell ⟨g k, i2, none⟩ (.int .u8 ((bt : Int) % 16))).setCell ⟨g k, i2 + 1, none⟩ (.int .u8 ((bt : Int) / 16))) :=
            (Touch.of (grownBy_setCell _ _ _) (fun k' e => ⟨k, hlt, by cases e; rfl⟩)).trans (Touch.of (grownBy_setCell _ _ _) (fun k' e => ⟨k, hlt, by cases e; rfl⟩))
          have hpr := P1.out.touch HT1 (fun k' hk' ⟨i', hi', e'⟩ => by
            have hgi := HU1.out.1 i' hi'
            rcases hk' with h | h
            · omega
            · have := HV1.out _ h; omega) (Touch.grown P1.out.grown HT1 (fun k' ⟨i', hi', e'⟩ => by have := HU1.out.1 i' hi'; have := HU1.out.2; omega))
          refine ⟨⟨j + 1, v', by omega, by rw [show ((2 * (j + 1) : Nat) : Int) = (i2 : Int) + 2 by have := HI2.out; omega], ?_⟩, by simp [intOf]; omega⟩
          rw [show k * q + (j + 1) = N + 1 by have := HN.out; omega]
          exact ⟨hpr, HS2.out, HV1.out, hR1, hB1, HU1.out.1, HU1.out.2⟩
        · obtain rfl : q = j := by omega
          have e2 : (2 * q : Nat) = m := HQ.out.symm
          rw [e2]
          go_wp2_with fail
          go_roundw
          case rel => exact ⟨k + 1, _, by omega, by go_num, by rw [Nat.succ_mul]; exact HU.out⟩
          case measure => simp [intOf]; omega
    · obtain rfl : k = 4 := by omega
      have hfin := HU.out.sk
      have hfin2 := hfin.as (C' := cntAt xs) (fun x hx => by unfold fillC; rw [if_pos (by have := HQ.out; omega)]) (cntAt_le HSM.out)
      have HFIN := Lib.hid hfin2
      have HG := Lib.hid HU.out.pr.grown
      have HW : Hid (w.heap.size ≤ B ∧ ∀ i, i < 4 → w.heap.size ≤ g i) := Lib.hid ⟨Nat.le_trans HU.out.n1 HU.out.newB, fun i hi => Nat.le_trans HU.out.n1 (HU.out.newG i hi)⟩
      clear hfin hfin2 HU
      go_wp2_with fail
      rw [Exit.noGoto_ret]
      go_ret2
      exact ⟨_, _, rfl, by rw [HM.out, HA.out]; exact HFIN.out, HW.out.1, HW.out.2, HG.out⟩

end Go.Proofs.Ytfdkncabicmmiaa
