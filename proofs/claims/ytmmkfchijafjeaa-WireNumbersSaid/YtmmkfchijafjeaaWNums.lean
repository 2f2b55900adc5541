/- Layer 03: the walk of WireNumbers. -/
import Derived.Test.YtmmkfchijafjeaaRNumbers
import Derived.Test.YtmmkfchijafjeaaWAwake
import Derived.Test.YtmmkfchijafjeaaStr
import Derived.Test.YtmmkfchijafjeaaArgI
import Derived.Test.YtmmkfchijafjeaaArgBc
import Derived.Test.YtmmkfchijafjeaaPlan3
import Derived.Test.YtmmkfchijafjeaaWTake
namespace Go.Proofs.Ytmmkfchijafjeaa
open Go.RowKit Go.WideShapes Go.ChangeShapes Go.ChangeAt

theorem rnumbers_all (R : Nat) (v : Value) (xs : List Nat) (k : Int) (m : Nat) (w : World) (hm2 : m ≤ 255) (hx : xs.length ≤ 1000) (hr : RR w R v xs false) (hv : xs ≠ [] → ∀ b, v.ownBlock = some b → b < w.heap.size) :
    Calls Try.prog 27 #[.pointer (some ⟨R, 0, none⟩), .int .i64 k, .int .i64 m] w fun e w' => ∃ u, e = .returned u ∧ w'.ownsRow w.heap.size 29 1 u (min (numQ xs k) m) (u64N (numsK xs k.toNat (min (numQ xs k) m))) ∧ (∃ v2, RR w' R v2 (xs.drop (min (numQ xs k) m * k.toNat)) false) ∧ Touch (fun j => j = R) w w' := by
  by_cases hm : 1 ≤ m
  · exact rnumbers_any R v xs k m w hm hm2 hx hr hv
  · obtain rfl : m = 0 := by omega
    refine (rnumbers_zero R k w).mono ?_
    rintro e w' ⟨rfl, g⟩
    refine ⟨_, rfl, ?_, ⟨v, ?_⟩, Touch.of_none g⟩
    · rw [Nat.min_zero]
      exact World.ownsRow_nil _ _ _ _
    · rw [Nat.min_zero, Nat.zero_mul]
      exact hr.grown g

/-- A reader's bytes lie in no reader. -/
theorem RR.not_in {w : World} {R1 R2 : Nat} {v1 v2 : Value} {xs ys : List Nat} {b1 b2 : Bool} (h1 : RR w R1 v1 xs b1) (h2 : RR w R2 v2 ys b2) (hne : xs ≠ []) : ∀ b, v1.ownBlock = some b → b ≠ R2 := by
  intro b hb e
  subst e
  have hlen : 0 < xs.length := List.length_pos_iff.2 hne
  obtain ⟨a, c, rfl⟩ := h1.slice
  obtain ⟨b', o', rfl, hc⟩ := h1.rds.at' hlen
  simp [Value.ownBlock] at hb
  subst hb
  have h3 := hc 0 _ (bytesV_get xs 0 hlen)
  have h4 := h2.blk.cell? (o' + 0)
  rw [h3] at h4
  obtain ⟨a2, c2, rfl⟩ := h2.slice
  match o', h4 with
  | 0, h4 => simp at h4
  | 1, h4 => simp at h4
  | n + 2, h4 => simp at h4

set_option maxRecDepth 100000 in
set_option maxHeartbeats 8000000 in
theorem wireNumbers_walk0 (xs : List Nat) (a : Option Addr) (c : Nat) (k : Int) (m : Nat) (w : World) (hm : m ≤ 255) (hcap : xs.length ≤ c) (hs : ∀ x ∈ xs, x < 256) (hr : Rds w 1 (.slice a xs.length c) xs.length (bytesV xs)) :
    Calls Try.prog 8 #[.slice a xs.length c, .int .i64 k, .int .u8 m] w fun e w' => e = .returned (.bool true) ∧ Below w.heap.size w w' := by
  have hml := hr.2.1
  unfold maxLen at hml
  by_cases hbig : 1000 < xs.length
  · have hbi : decide ((1000 : Int) < (xs.length : Int)) = true := decide_eq_true (by omega)
    go_enter Try.func8, Try.ntmps8
    go_wp2_with fail
    go_ret
    exact ⟨rfl, Below.refl _ _⟩
  have hx : xs.length ≤ 1000 := by omega
  have hbi : decide ((1000 : Int) < (xs.length : Int)) = false := decide_eq_false (by omega)
  have HSM := Lib.hid hs
  have HR := Lib.hid hr
  have hwm : IntKind.i64.wrap (m : Int) = m := IntWalk.i64_in _ ⟨by omega, by omega⟩
  clear hs hr hbig
  go_enter Try.func8, Try.ntmps8
  go_wp2_with fail
  refine (newReader_any xs a c w (by omega) HSM.out HR.out).mono ?_
  rintro e w1 ⟨R1, v1, rfl, r1, hR1, hv1, g1⟩
  have H1 := Lib.hid r1
  have G1 := Lib.hid g1
  have HB1 : Hid (w.heap.size ≤ R1 ∧ R1 < w1.heap.size ∧ ∀ b, v1.ownBlock = some b → w.heap.size ≤ b) := Lib.hid ⟨hR1, r1.blk.lt, hv1⟩
  clear r1 hR1 hv1 g1
  go_wp2_with fail
  refine (newReader_any xs a c w1 (by omega) HSM.out (HR.out.grown G1.out (by simp))).mono ?_
  rintro e w2 ⟨R2, v2, rfl, r2, hR2, hv2, g2⟩
  have H1 := Lib.hid (H1.out.grown g2)
  have H2 := Lib.hid r2
  have G2 := Lib.hid (grownBy_trans G1.out g2)
  have HB2 : Hid (w1.heap.size ≤ R2 ∧ R2 < w2.heap.size ∧ ∀ b, v2.ownBlock = some b → w1.heap.size ≤ b) := Lib.hid ⟨hR2, r2.blk.lt, hv2⟩
  clear r2 hR2 hv2 g2 G1
  go_wp2_with fail
  have hne21 : R2 ≠ R1 := by have := HB1.out.2.1; have := HB2.out.1; omega
  have hvl : xs ≠ [] → ∀ b, v1.ownBlock = some b → b < w2.heap.size := fun hne b hb => H1.out.rds.lt (fun e => hne (by rw [← bytesV_len] at *; exact List.map_eq_nil_iff.1 e)) b hb
  refine (rnumbers_all R1 v1 xs k m w2 hm hx H1.out hvl).mono ?_
  rintro e w3 ⟨u, rfl, o3, ⟨v1', r1'⟩, t3⟩
  obtain ⟨n, hn⟩ : ∃ n, min (numQ xs k) m = n := ⟨_, rfl⟩
  rw [hn] at o3 r1'
  have hnm : n ≤ 255 := by omega
  have hul : (u64N (numsK xs k.toNat n)).length = n := by simp [u64N, numsK_len]
  obtain ⟨au, cu, rfl⟩ : ∃ a c, u = .slice a n c := by
    rcases o3.2 with ⟨rfl, h0⟩ | ⟨g, cap, cur, rfl, _⟩
    · exact ⟨none, 0, by rw [h0]⟩
    · exact ⟨_, _, rfl⟩
  have H1 := Lib.hid r1'
  have H2 := Lib.hid (H2.out.touch t3 (fun j hj => by
    rcases hj with h | h
    · omega
    · intro e
      have := HB2.out.2.2 j h
      have := HB1.out.2.1
      omega))
  have G3 := Lib.hid (Touch.grown G2.out t3 (fun j e => by subst e; exact HB1.out.1))
  have O3 := Lib.hid o3
  have HS3 := Lib.hid t3.size
  clear r1' o3 t3 hvl G2
  go_wp2_with fail
  have h0 : Hid (RR w3 R2 v2 (xs.drop (0 * k.toNat)) false) := Lib.hid (by rw [Nat.zero_mul]; exact H2.out)
  have HU := Lib.hid (Rds.of_owns O3.out)
  have HUB : Hid (∀ b, (Value.slice au n cu).ownBlock = some b → b ≠ R2) := Lib.hid (fun b hb e => by have := (O3.out.lt b hb).1; have := HB2.out.2.1; omega)
  have HN := Lib.hid hn
  have HUL := Lib.hid hul
  clear hn H2 O3 hul
  go_loopw [11] (fun i wr => ∃ (j : Nat) (v2 : Value), j ≤ n ∧ i = .int .i64 j ∧ RR wr R2 v2 (xs.drop (j * k.toNat)) false ∧ RR wr R1 v1' (xs.drop (n * k.toNat)) false ∧ Rds wr 1 (.slice au n cu) n (u64N (numsK xs k.toNat n)) ∧ w.grownBy wr none) (fun i _ => n - (intOf i).toNat)
  case atStart => exact ⟨0, v2, by omega, rfl, h0.out, H1.out, HU.out, G3.out⟩
  case round =>
    clear h0 H1 HU G3
    obtain ⟨j, v2, hj, rfl, hr2, hr1, hu, hg⟩ := hrel
    have H2 := Lib.hid hr2
    have H1 := Lib.hid hr1
    have HU := Lib.hid hu
    have HG := Lib.hid hg
    clear hr2 hr1 hu hg
    by_cases hlt : j < n
    · have hq0 : 0 < numQ xs k := by have := HN.out; omega
      have hmay : mayB k = true := by
        cases h : mayB k
        · simp [numQ, h] at hq0
        · rfl
      have hk1 : 1 ≤ k ∧ k ≤ 8 := by have := of_decide_eq_true hmay; omega
      obtain ⟨kn, rfl⟩ := Int.eq_ofNat_of_zero_le (show 0 ≤ k by omega)
      rw [Int.toNat_natCast] at *
      have hqq : numQ xs (kn : Int) = xs.length / kn := by simp [numQ, hmay]
      have hle : (j + 1) * kn ≤ xs.length := by
        rw [← Nat.le_div_iff_mul_le (by omega), ← hqq]
        have := HN.out
        omega
      rw [Nat.succ_mul] at hle
      have hpa : pastB xs (j * kn) = false := decide_eq_false (by omega)
      have hpb : pastB xs (j * kn + kn) = false := decide_eq_false (by omega)
      have HNUM := Lib.hid (fun W h => rnum_any R2 v2 (xs.drop (j * kn)) false kn W h)
      unfold NPost at HNUM
      rw [← hpa, askN_yes hmay, left_at xs (j * kn) kn (by omega), bad_at xs (j * kn) kn (by omega), take_at xs (j * kn) kn (by omega), hpb, hpa] at HNUM
      clear hpa hpb
      obtain ⟨gu, ou, rfl, hc⟩ := HU.out.at' (by omega)
      have hget : (u64N (numsK xs kn n))[j]? = some (.int .u64 (numAt xs (j * kn) kn : Nat)) := by simp [u64N, numsK, hlt]
      have x0 := hc j _ hget
      obtain ⟨x, hxn⟩ : ∃ x, numAt xs (j * kn) kn = x := ⟨_, rfl⟩
      rw [hxn] at HNUM x0
      clear hc hget hxn hq0 hqq
      have hbx : ((x : Int) != (x : Int)) = false := by simp
      have hji : (j : Int) < (n : Int) := by omega
      go_wp2_with fail
      refine wp_region_planM (fun W => W.cell? ⟨gu, ou + j, none⟩ = some (.int .u64 (x : Int))) [([0, 1, 2, 3], [4, 5], 6, true), ([], [], 7, false)] (by kernel_rfl) (by kernel_rfl) ?_
      refine wpPlanM_seg x0 ?_
      iterate 4 ((apply wpReadD_step rfl (by rfl); (· intro wS hSw; (try have hSw := hSw rfl); (try dsimp only at hSw); (try have x0 := hSw); go_simp; (try with_reducible rfl))); try simp only [Act.put, List.setIfInBounds_toArray, List.set_cons_zero, List.set_cons_succ])
      refine wpReadD_nil ?_
      iterate 2 ((apply wpReadD_step rfl (by rfl); (· intro wS hSw; (try have hSw := hSw rfl); (try dsimp only at hSw); (try subst hSw); go_simp; (try with_reducible rfl))); try simp only [Act.put, List.setIfInBounds_toArray, List.set_cons_zero, List.set_cons_succ])
      refine wpReadD_nil ?_
      refine wpOp_list rfl (fun K hK => ?_)
      go_simp
      refine (HNUM.out _ (H2.out.grown (grownBy_drewN wr 1 none))).mono ?_
      rintro e w4 ⟨v3, rfl, r3, _, g3⟩
      dsimp only
      have hg4 := grownBy_trans (grownBy_drewN wr 1 (some R2)) g3
      have ht4 : Touch (fun j => j = R2) wr w4 := Touch.of hg4 (fun j e => by cases e; rfl)
      have x4 := ht4.cell x0 (fun e => HUB.out gu rfl e)
      refine hK _ _ ⟨_, fun _ h => h, fun _ => x4, ?_⟩
      have H2' := Lib.hid r3
      have H1' := Lib.hid (H1.out.touch' ht4 (fun e => hne21 e.symm) (fun hne b hb => H1.out.not_in H2.out hne b hb))
      have HU' := Lib.hid (ht4.rds HU.out (fun b hb => HUB.out b hb))
      have HG' := Lib.hid (Touch.grown HG.out ht4 (fun j e => by subst e; have := HB2.out.1; have := HB1.out.2.1; have := HB1.out.1; omega))
      clear hK K r3 g3 hg4 ht4 x4 x0 HNUM H2 H1 HU HG
      try simp only [Act.put, List.setIfInBounds_toArray, List.set_cons_zero, List.set_cons_succ]
      refine wpPlanM_here ?_
      refine wpReadD_nil ?_
      refine wpOp_list rfl (fun K hK => ?_)
      go_simp
      refine hK _ _ ⟨_, fun _ h => h, fun hf => (by cases hf), ?_⟩
      clear hK K
      try simp only [Act.put, List.setIfInBounds_toArray, List.set_cons_zero, List.set_cons_succ]
      refine wpPlanM_nil (NoPanic.normal ?_)
      go_wp2_with fail
      exact ⟨⟨j + 1, v3, by omega, by go_num, by rw [Nat.succ_mul]; exact H2'.out, H1'.out, HU'.out, HG'.out⟩, by simp [intOf]; omega⟩
    · obtain rfl : n = j := by omega
      clear HUB HU H2 hlt
      cases hmay : mayB k
      · have h := of_decide_eq_false hmay
        have b1 : (k == 1) = false := beq_eq_false_iff_ne.2 (by omega)
        have b2 : (k == 2) = false := beq_eq_false_iff_ne.2 (by omega)
        have b4 : (k == 4) = false := beq_eq_false_iff_ne.2 (by omega)
        have b8 : (k == 8) = false := beq_eq_false_iff_ne.2 (by omega)
        have hn0 : n = 0 := by
          have := HN.out
          simp [numQ, hmay] at this
          exact this.symm
        subst hn0
        have HX : Hid (RR wr R1 v1' xs false) := Lib.hid (by have := H1.out; rw [Nat.zero_mul] at this; exact this)
        have hsq := strN_beq xs
        clear h H1
        go_wp2_with fail
        refine wp_region_planM (fun W => wr.grownBy W none) [([], [0, 1, 2, 3], 4, true), ([5, 6, 7, 11, 12], [8], 9, true), ([], [10, 13, 14, 15], 16, false), ([], [17], 18, false)] (by kernel_rfl) (by kernel_rfl) ?_
        refine wpPlanM_here ?_
        iterate 4 ((apply wpReadD_step rfl (by rfl); (· intro wS hSw; (try have hSw := hSw rfl); (try dsimp only at hSw); (try subst hSw); go_simp; (try with_reducible rfl))); try simp only [Act.put, List.setIfInBounds_toArray, List.set_cons_zero, List.set_cons_succ])
        refine wpReadD_nil ?_
        refine wpOp_list rfl (fun K hK => ?_)
        go_simp
        refine (rbad_any R1 v1' xs false _ (HX.out.grown (grownBy_drewN wr 1 none))).mono ?_
        rintro e w4 ⟨rfl, rfl⟩
        dsimp only
        refine hK _ _ ⟨_, fun _ h => h, fun _ => grownBy_drewN wr 1 none, ?_⟩
        clear hK K
        try simp only [Act.put, List.setIfInBounds_toArray, List.set_cons_zero, List.set_cons_succ]
        refine wpPlanM_seg (grownBy_drewN wr 1 none) ?_
        iterate 5 ((apply wpReadD_step rfl (by rfl); (· intro wS hSw; (try have hSw := hSw rfl); (try dsimp only at hSw); (try have hcv := conv_rds (HR.out.grown (grownBy_trans HG.out hSw) (by simp))); go_simp; (try with_reducible rfl))); try simp only [Act.put, List.setIfInBounds_toArray, List.set_cons_zero, List.set_cons_succ])
        refine wpReadD_nil ?_
        iterate 1 ((apply wpReadD_step rfl (by rfl); (· intro wS hSw; (try have hSw := hSw rfl); (try dsimp only at hSw); (try subst hSw); go_simp; (try with_reducible rfl))); try simp only [Act.put, List.setIfInBounds_toArray, List.set_cons_zero, List.set_cons_succ])
        refine wpReadD_nil ?_
        refine wpOp_list rfl (fun K hK => ?_)
        go_simp
        refine (rrest_any R1 v1' xs false _ (HX.out.grown (grownBy_drewN wr 1 none))).mono ?_
        rintro e w5 ⟨a5, c5, rfl, r5, g5⟩
        dsimp only
        have hcv5 := conv_rds (Rds.of_owns r5)
        have G5 := Lib.hid (grownBy_trans (grownBy_drewN wr 1 none) g5)
        refine hK _ _ ⟨_, fun _ h => h, fun _ => G5.out, ?_⟩
        clear hK K r5 g5
        try simp only [Act.put, List.setIfInBounds_toArray, List.set_cons_zero, List.set_cons_succ]
        refine wpPlanM_here ?_
        iterate 4 ((apply wpReadD_step rfl (by rfl); (· intro wS hSw; (try have hSw := hSw rfl); (try dsimp only at hSw); (try subst hSw); go_simp; (try with_reducible rfl))); try simp only [Act.put, List.setIfInBounds_toArray, List.set_cons_zero, List.set_cons_succ])
        refine wpReadD_nil ?_
        refine wpOp_list rfl (fun K hK => ?_)
        go_simp
        refine (awake_any _).mono ?_
        rintro e w6 ⟨rfl, g6⟩
        dsimp only
        have G6 := Lib.hid (grownBy_trans HG.out (grownBy_trans G5.out g6))
        refine hK _ _ ⟨_, fun _ h => h, fun hf => (by cases hf), ?_⟩
        clear hK K g6 hcv5 G5
        try simp only [Act.put, List.setIfInBounds_toArray, List.set_cons_zero, List.set_cons_succ]
        refine wpPlanM_here ?_
        iterate 1 ((apply wpReadD_step rfl (by rfl); (· intro wS hSw; (try have hSw := hSw rfl); (try dsimp only at hSw); (try subst hSw); go_simp; (try with_reducible rfl))); try simp only [Act.put, List.setIfInBounds_toArray, List.set_cons_zero, List.set_cons_succ])
        refine wpReadD_nil ?_
        refine wpOp_list rfl (fun K hK => ?_)
        go_simp
        refine hK _ _ ⟨_, fun _ h => h, fun hf => (by cases hf), ?_⟩
        clear hK K
        try simp only [Act.put, List.setIfInBounds_toArray, List.set_cons_zero, List.set_cons_succ]
        refine wpPlanM_nil (NoPanic.normal ?_)
        go_wp2_with fail
        go_ret
        exact ⟨rfl, below_grownBy G6.out⟩
      · have hk1 : 1 ≤ k ∧ k ≤ 8 := by have := of_decide_eq_true hmay; omega
        have hkk := of_decide_eq_true hmay
        obtain ⟨kn, rfl⟩ := Int.eq_ofNat_of_zero_le (show 0 ≤ k by omega)
        rw [Int.toNat_natCast] at *
        have hqq : numQ xs (kn : Int) = xs.length / kn := by simp [numQ, hmay]
        have hmin : min (xs.length / kn) m = n := by rw [← hqq]; exact HN.out
        have hle : n * kn ≤ xs.length := by
          have h1 : n ≤ xs.length / kn := by omega
          exact Nat.le_trans (Nat.mul_le_mul_right kn h1) (Nat.div_mul_le_self _ _)
        have hc : (((kn : Int) == 1) = true ∨ (((kn : Int) == 1) = false ∧ ((kn : Int) == 2) = true)) ∨ ((((kn : Int) == 1) = false ∧ ((kn : Int) == 2) = false ∧ ((kn : Int) == 4) = true) ∨ (((kn : Int) == 1) = false ∧ ((kn : Int) == 2) = false ∧ ((kn : Int) == 4) = false ∧ ((kn : Int) == 8) = true)) := by
          rcases (show kn = 1 ∨ kn = 2 ∨ kn = 4 ∨ kn = 8 by omega) with rfl | rfl | rfl | rfl <;> decide
        have hk0 : ((kn : Int) == 0) = false := beq_eq_false_iff_ne.2 (by omega)
        have hall : min (wrap64 ((xs.length : Int) / (kn : Int))) (m : Int) = (n : Int) := by
          rw [show wrap64 ((xs.length : Int) / (kn : Int)) = ((xs.length / kn : Nat) : Int) by
            have hdl := Nat.div_le_self xs.length kn
            rw [show (xs.length : Int) / (kn : Int) = ((xs.length / kn : Nat) : Int) from rfl]
            unfold wrap64
            omega]
          omega
        obtain ⟨N, hN⟩ : ∃ N, n * kn = N := ⟨_, rfl⟩
        have hmu : IntKind.i64.wrap ((n : Int) * (kn : Int)) = (N : Int) := by rw [show (n : Int) * (kn : Int) = ((n * kn : Nat) : Int) by push_cast; rfl, hN]; exact IntWalk.i64_in _ ⟨by omega, by omega⟩
        rw [hN] at hle H1
        have hsq := strN_beq (xs.drop N)
        have hnn : ((n : Int) == (n : Int)) = true := by simp
        have HSQ : Hid (∀ (a' : Option Addr) (c' : Nat) (W : World), Rds W 1 (.slice a' (xs.drop N).length c') (xs.drop N).length (bytesV (xs.drop N)) → (convert 26 9 (.slice a' (xs.length - N) c')).run Try.prog W = .ok (.string (strN (xs.drop N))) W) := Lib.hid (fun a' c' W h => by
          have := conv_rds h
          rwa [List.length_drop] at this)
        have HDL : Hid ((xs.drop N).length = xs.length - N) := Lib.hid List.length_drop
        have hNl : (N : Int) ≤ (xs.length : Int) := by omega
        have hNc : (N : Int) ≤ (c : Int) := by omega
        clear hkk hqq hN hmin
        rcases hc with (b1 | ⟨b1, b2⟩) | (⟨b1, b2, b4⟩ | ⟨b1, b2, b4, b8⟩)
        all_goals
          go_wp2_with fail
          cases a with
          | none =>
            obtain ⟨rfl, rfl⟩ := Rds.none_nil HR.out
            obtain rfl : N = 0 := by simpa using hle
            have hsq := strN_beq []
            refine wp_region_planM (fun W => wr.grownBy W none) [([], [0, 1, 2, 3, 4], 5, true), ([6, 7, 8, 12, 13, 14, 15, 16, 17], [9], 10, true), ([], [11, 18, 19, 20], 21, false), ([], [22], 23, false)] (by kernel_rfl) (by kernel_rfl) ?_
            refine wpPlanM_here ?_
            iterate 5 ((apply wpReadD_step rfl (by rfl); (· intro wS hSw; (try have hSw := hSw rfl); (try dsimp only at hSw); (try subst hSw); go_simp; (try with_reducible rfl))); try simp only [Act.put, List.setIfInBounds_toArray, List.set_cons_zero, List.set_cons_succ])
            refine wpReadD_nil ?_
            refine wpOp_list rfl (fun K hK => ?_)
            go_simp
            refine (rbad_any R1 v1' _ false _ (H1.out.grown (grownBy_drewN wr 1 none))).mono ?_
            rintro e w4 ⟨rfl, rfl⟩
            dsimp only
            refine hK _ _ ⟨_, fun _ h => h, fun _ => grownBy_drewN wr 1 none, ?_⟩
            clear hK K
            try simp only [Act.put, List.setIfInBounds_toArray, List.set_cons_zero, List.set_cons_succ]
            refine wpPlanM_seg (grownBy_drewN wr 1 none) ?_
            iterate 9 ((apply wpReadD_step rfl (by rfl); (· intro wS hSw; (try have hSw := hSw rfl); (try dsimp only at hSw); (try have hcv : (convert 26 9 (.slice none 0 0)).run Try.prog wS = .ok (.string (strN [])) wS := conv_rds (xs := []) (Rds.nil wS 1)); go_simp; (try with_reducible rfl))); try simp only [Act.put, List.setIfInBounds_toArray, List.set_cons_zero, List.set_cons_succ])
            refine wpReadD_nil ?_
            iterate 1 ((apply wpReadD_step rfl (by rfl); (· intro wS hSw; (try have hSw := hSw rfl); (try dsimp only at hSw); (try subst hSw); go_simp; (try with_reducible rfl))); try simp only [Act.put, List.setIfInBounds_toArray, List.set_cons_zero, List.set_cons_succ])
            refine wpReadD_nil ?_
            refine wpOp_list rfl (fun K hK => ?_)
            go_simp
            refine (rrest_any R1 v1' _ false _ (H1.out.grown (grownBy_drewN wr 1 none))).mono ?_
            rintro e w5 ⟨a5, c5, rfl, r5, g5⟩
            dsimp only
            have hcv5 : (convert 26 9 (.slice a5 0 c5)).run Try.prog w5 = .ok (.string (strN [])) w5 := conv_rds (xs := []) (Rds.of_owns r5)
            
            have G5 := Lib.hid (grownBy_trans (grownBy_drewN wr 1 none) g5)
            refine hK _ _ ⟨_, fun _ h => h, fun _ => G5.out, ?_⟩
            clear hK K r5 g5
            try simp only [Act.put, List.setIfInBounds_toArray, List.set_cons_zero, List.set_cons_succ]
            refine wpPlanM_here ?_
            iterate 4 ((apply wpReadD_step rfl (by rfl); (· intro wS hSw; (try have hSw := hSw rfl); (try dsimp only at hSw); (try subst hSw); go_simp; (try with_reducible rfl))); try simp only [Act.put, List.setIfInBounds_toArray, List.set_cons_zero, List.set_cons_succ])
            refine wpReadD_nil ?_
            refine wpOp_list rfl (fun K hK => ?_)
            go_simp
            refine (awake_any _).mono ?_
            rintro e w6 ⟨rfl, g6⟩
            dsimp only
            have G6 := Lib.hid (grownBy_trans HG.out (grownBy_trans G5.out g6))
            refine hK _ _ ⟨_, fun _ h => h, fun hf => (by cases hf), ?_⟩
            clear hK K g6 hcv5 G5
            try simp only [Act.put, List.setIfInBounds_toArray, List.set_cons_zero, List.set_cons_succ]
            refine wpPlanM_here ?_
            iterate 1 ((apply wpReadD_step rfl (by rfl); (· intro wS hSw; (try have hSw := hSw rfl); (try dsimp only at hSw); (try subst hSw); go_simp; (try with_reducible rfl))); try simp only [Act.put, List.setIfInBounds_toArray, List.set_cons_zero, List.set_cons_succ])
            refine wpReadD_nil ?_
            refine wpOp_list rfl (fun K hK => ?_)
            go_simp
            refine hK _ _ ⟨_, fun _ h => h, fun hf => (by cases hf), ?_⟩
            clear hK K
            try simp only [Act.put, List.setIfInBounds_toArray, List.set_cons_zero, List.set_cons_succ]
            refine wpPlanM_nil (NoPanic.normal ?_)
            go_wp2_with fail
            go_ret
            exact ⟨rfl, below_grownBy G6.out⟩
          | some ad =>
            obtain ⟨b, o, sp⟩ := ad
            by_cases hcN : c = N
            · have hNL : N = xs.length := by omega
              have HZ : Hid (xs.length - N = 0) := Lib.hid (by omega)
              subst hcN
              refine wp_region_planM (fun W => wr.grownBy W none) [([], [0, 1, 2, 3, 4], 5, true), ([6, 7, 8, 12, 13, 14, 15, 16, 17], [9], 10, true), ([], [11, 18, 19, 20], 21, false), ([], [22], 23, false)] (by kernel_rfl) (by kernel_rfl) ?_
              refine wpPlanM_here ?_
              iterate 5 ((apply wpReadD_step rfl (by rfl); (· intro wS hSw; (try have hSw := hSw rfl); (try dsimp only at hSw); (try subst hSw); go_simp; (try with_reducible rfl))); try simp only [Act.put, List.setIfInBounds_toArray, List.set_cons_zero, List.set_cons_succ])
              refine wpReadD_nil ?_
              refine wpOp_list rfl (fun K hK => ?_)
              go_simp
              refine (rbad_any R1 v1' _ false _ (H1.out.grown (grownBy_drewN wr 1 none))).mono ?_
              rintro e w4 ⟨rfl, rfl⟩
              dsimp only
              refine hK _ _ ⟨_, fun _ h => h, fun _ => grownBy_drewN wr 1 none, ?_⟩
              clear hK K
              try simp only [Act.put, List.setIfInBounds_toArray, List.set_cons_zero, List.set_cons_succ]
              refine wpPlanM_seg (grownBy_drewN wr 1 none) ?_
              iterate 9 ((apply wpReadD_step rfl (by rfl); (· intro wS hSw; (try have hSw := hSw rfl); (try dsimp only at hSw); (try have hcv := HSQ.out (some ⟨b, o, sp⟩) 0 _ (by rw [HDL.out, ← hNL, Nat.sub_self]; exact Rds.dropZ (HR.out.grown (grownBy_trans HG.out hSw) (by simp)) hNL 0)); (try rw [HZ.out] at hcv); go_simp; (try with_reducible rfl))); try simp only [Act.put, List.setIfInBounds_toArray, List.set_cons_zero, List.set_cons_succ])
              refine wpReadD_nil ?_
              iterate 1 ((apply wpReadD_step rfl (by rfl); (· intro wS hSw; (try have hSw := hSw rfl); (try dsimp only at hSw); (try subst hSw); go_simp; (try with_reducible rfl))); try simp only [Act.put, List.setIfInBounds_toArray, List.set_cons_zero, List.set_cons_succ])
              refine wpReadD_nil ?_
              refine wpOp_list rfl (fun K hK => ?_)
              go_simp
              refine (rrest_any R1 v1' _ false _ (H1.out.grown (grownBy_drewN wr 1 none))).mono ?_
              rintro e w5 ⟨a5, c5, rfl, r5, g5⟩
              dsimp only
              have hcv5 := HSQ.out _ _ _ (Rds.of_owns r5)
              rw [HZ.out] at hcv5
              rw [HDL.out]
              have G5 := Lib.hid (grownBy_trans (grownBy_drewN wr 1 none) g5)
              refine hK _ _ ⟨_, fun _ h => h, fun _ => G5.out, ?_⟩
              clear hK K r5 g5
              try simp only [Act.put, List.setIfInBounds_toArray, List.set_cons_zero, List.set_cons_succ]
              refine wpPlanM_here ?_
              iterate 4 ((apply wpReadD_step rfl (by rfl); (· intro wS hSw; (try have hSw := hSw rfl); (try dsimp only at hSw); (try subst hSw); go_simp; (try with_reducible rfl))); try simp only [Act.put, List.setIfInBounds_toArray, List.set_cons_zero, List.set_cons_succ])
              refine wpReadD_nil ?_
              refine wpOp_list rfl (fun K hK => ?_)
              go_simp
              refine (awake_any _).mono ?_
              rintro e w6 ⟨rfl, g6⟩
              dsimp only
              have G6 := Lib.hid (grownBy_trans HG.out (grownBy_trans G5.out g6))
              refine hK _ _ ⟨_, fun _ h => h, fun hf => (by cases hf), ?_⟩
              clear hK K g6 hcv5 G5
              try simp only [Act.put, List.setIfInBounds_toArray, List.set_cons_zero, List.set_cons_succ]
              refine wpPlanM_here ?_
              iterate 1 ((apply wpReadD_step rfl (by rfl); (· intro wS hSw; (try have hSw := hSw rfl); (try dsimp only at hSw); (try subst hSw); go_simp; (try with_reducible rfl))); try simp only [Act.put, List.setIfInBounds_toArray, List.set_cons_zero, List.set_cons_succ])
              refine wpReadD_nil ?_
              refine wpOp_list rfl (fun K hK => ?_)
              go_simp
              refine hK _ _ ⟨_, fun _ h => h, fun hf => (by cases hf), ?_⟩
              clear hK K
              try simp only [Act.put, List.setIfInBounds_toArray, List.set_cons_zero, List.set_cons_succ]
              refine wpPlanM_nil (NoPanic.normal ?_)
              go_wp2_with fail
              go_ret
              exact ⟨rfl, below_grownBy G6.out⟩
            · have hcN2 : ¬ N = c := fun e => hcN e.symm
              refine wp_region_planM (fun W => wr.grownBy W none) [([], [0, 1, 2, 3, 4], 5, true), ([6, 7, 8, 12, 13, 14, 15, 16, 17], [9], 10, true), ([], [11, 18, 19, 20], 21, false), ([], [22], 23, false)] (by kernel_rfl) (by kernel_rfl) ?_
              refine wpPlanM_here ?_
              iterate 5 ((apply wpReadD_step rfl (by rfl); (· intro wS hSw; (try have hSw := hSw rfl); (try dsimp only at hSw); (try subst hSw); go_simp; (try with_reducible rfl))); try simp only [Act.put, List.setIfInBounds_toArray, List.set_cons_zero, List.set_cons_succ])
              refine wpReadD_nil ?_
              refine wpOp_list rfl (fun K hK => ?_)
              go_simp
              refine (rbad_any R1 v1' _ false _ (H1.out.grown (grownBy_drewN wr 1 none))).mono ?_
              rintro e w4 ⟨rfl, rfl⟩
              dsimp only
              refine hK _ _ ⟨_, fun _ h => h, fun _ => grownBy_drewN wr 1 none, ?_⟩
              clear hK K
              try simp only [Act.put, List.setIfInBounds_toArray, List.set_cons_zero, List.set_cons_succ]
              refine wpPlanM_seg (grownBy_drewN wr 1 none) ?_
              iterate 9 ((apply wpReadD_step rfl (by rfl); (· intro wS hSw; (try have hSw := hSw rfl); (try dsimp only at hSw); (try have hcv := HSQ.out _ (c - N) _ ((HR.out.grown (grownBy_trans HG.out hSw) (by simp)).dropA hle (c - N))); go_simp; (try with_reducible rfl))); try simp only [Act.put, List.setIfInBounds_toArray, List.set_cons_zero, List.set_cons_succ])
              refine wpReadD_nil ?_
              iterate 1 ((apply wpReadD_step rfl (by rfl); (· intro wS hSw; (try have hSw := hSw rfl); (try dsimp only at hSw); (try subst hSw); go_simp; (try with_reducible rfl))); try simp only [Act.put, List.setIfInBounds_toArray, List.set_cons_zero, List.set_cons_succ])
              refine wpReadD_nil ?_
              refine wpOp_list rfl (fun K hK => ?_)
              go_simp
              refine (rrest_any R1 v1' _ false _ (H1.out.grown (grownBy_drewN wr 1 none))).mono ?_
              rintro e w5 ⟨a5, c5, rfl, r5, g5⟩
              dsimp only
              have hcv5 := HSQ.out _ _ _ (Rds.of_owns r5)
              rw [HDL.out]
              have G5 := Lib.hid (grownBy_trans (grownBy_drewN wr 1 none) g5)
              refine hK _ _ ⟨_, fun _ h => h, fun _ => G5.out, ?_⟩
              clear hK K r5 g5
              try simp only [Act.put, List.setIfInBounds_toArray, List.set_cons_zero, List.set_cons_succ]
              refine wpPlanM_here ?_
              iterate 4 ((apply wpReadD_step rfl (by rfl); (· intro wS hSw; (try have hSw := hSw rfl); (try dsimp only at hSw); (try subst hSw); go_simp; (try with_reducible rfl))); try simp only [Act.put, List.setIfInBounds_toArray, List.set_cons_zero, List.set_cons_succ])
              refine wpReadD_nil ?_
              refine wpOp_list rfl (fun K hK => ?_)
              go_simp
              refine (awake_any _).mono ?_
              rintro e w6 ⟨rfl, g6⟩
              dsimp only
              have G6 := Lib.hid (grownBy_trans HG.out (grownBy_trans G5.out g6))
              refine hK _ _ ⟨_, fun _ h => h, fun hf => (by cases hf), ?_⟩
              clear hK K g6 hcv5 G5
              try simp only [Act.put, List.setIfInBounds_toArray, List.set_cons_zero, List.set_cons_succ]
              refine wpPlanM_here ?_
              iterate 1 ((apply wpReadD_step rfl (by rfl); (· intro wS hSw; (try have hSw := hSw rfl); (try dsimp only at hSw); (try subst hSw); go_simp; (try with_reducible rfl))); try simp only [Act.put, List.setIfInBounds_toArray, List.set_cons_zero, List.set_cons_succ])
              refine wpReadD_nil ?_
              refine wpOp_list rfl (fun K hK => ?_)
              go_simp
              refine hK _ _ ⟨_, fun _ h => h, fun hf => (by cases hf), ?_⟩
              clear hK K
              try simp only [Act.put, List.setIfInBounds_toArray, List.set_cons_zero, List.set_cons_succ]
              refine wpPlanM_nil (NoPanic.normal ?_)
              go_wp2_with fail
              go_ret
              exact ⟨rfl, below_grownBy G6.out⟩

end Go.Proofs.Ytmmkfchijafjeaa
