/- Layer 23, the reference: Right, New, place, Guess. Layer 23, the reference: New, place, Guess. Layer 23, the reference: Halve. -/
import Derived.Test.YtfdkncabicmmiaaSkUn
import Derived.Test.YtfdkncabicmmiaaRefScr
namespace Go.Proofs.Ytfdkncabicmmiaa
section
open Go.RowKit

def cntV (n : Nat) (C : Nat → Nat) : List Value := (List.range n).map fun j => .int .i64 (C j : Nat)
theorem cntV_len (n : Nat) (C : Nat → Nat) : (cntV n C).length = n := by simp [cntV]
theorem cntV_at (n : Nat) (C : Nat → Nat) (j : Nat) (h : j < n) : (cntV n C)[j]? = some (.int .i64 (C j : Nat)) := by simp [cntV, h]
/-- The reference's sketch as a value. -/
def rvV (m age G c : Nat) : Value := .agg #[.int .i64 (m : Nat), .int .i64 (age : Nat), .slice (some ⟨G, 0, none⟩) (4 * m) c]
/-- Its counts in memory. -/
def RS (w : World) (m : Nat) (C : Nat → Nat) (G c : Nat) : Prop := Rds w 1 (.slice (some ⟨G, 0, none⟩) (4 * m) c) (4 * m) (cntV (4 * m) C)
theorem RS.at {w : World} {m : Nat} {C : Nat → Nat} {G c : Nat} (h : RS w m C G c) (j : Nat) (hj : j < 4 * m) : w.cell? ⟨G, j, none⟩ = some (.int .i64 (C j : Nat)) := by
  obtain ⟨b, o, e, hc⟩ := Rds.at' h (by omega)
  cases e
  have := hc j _ (cntV_at (4 * m) C j hj)
  simpa using this

def pow2Z (n : Int) : Bool := decide (0 ≤ n) && pow2B n.toNat
theorem pow2Z_nat (m : Nat) : pow2Z (m : Int) = pow2B m := by
  unfold pow2Z
  rw [decide_eq_true (by omega), Int.toNat_natCast, Bool.true_and]
theorem pow2Z_no {n : Int} (h : ∀ m : Nat, n = m → ¬ Pow2 m) : pow2Z n = false := by
  cases hz : pow2Z n
  · rfl
  · unfold pow2Z at hz
    rw [Bool.and_eq_true, decide_eq_true_eq] at hz
    exact absurd ((pow2_iff _).1 hz.2) (h _ (by omega))

theorem rright_any (n : Int) (w : World) :
    Calls Try.prog 19 #[.int .i64 n] w fun e w' => e = .returned (.bool (pow2Z n)) ∧ w = w' := by
  have HY : Hid (∀ j : Nat, j ≤ 11 → n = ((2 ^ (1 + j) : Nat) : Int) → pow2Z n = true) := Lib.hid (fun j hj e => by
    rw [e, pow2Z_nat]
    exact (pow2_iff _).2 ⟨1 + j, by omega, by omega, rfl⟩)
  have HN : Hid ((∀ j : Nat, j ≤ 11 → n ≠ ((2 ^ (1 + j) : Nat) : Int)) → pow2Z n = false) := Lib.hid (fun h => pow2Z_no (fun m e hp => by
    obtain ⟨k, h1, h2, rfl⟩ := hp
    refine h (k - 1) (by omega) ?_
    rw [e, show 1 + (k - 1) = k by omega]))
  have HP : Hid (∀ j : Nat, j ≤ 11 → 2 ≤ 2 ^ (1 + j) ∧ 2 ^ (1 + j) ≤ 4096 ∧ ((2 ^ (1 + j) : Nat) : Int) * 2 = ((2 ^ (1 + (j + 1)) : Nat) : Int)) := Lib.hid (fun j hj => by
    have := pow2_le (m := 2 ^ (1 + j)) ⟨1 + j, by omega, by omega, rfl⟩
    exact ⟨this.1, this.2, by rw [show 1 + (j + 1) = (1 + j) + 1 from rfl, Nat.pow_succ]; omega⟩)
  generalize pow2Z n = pz at *
  go_enter Try.func19, Try.ntmps19
  go_wp2_with fail
  go_loop [3] (fun v => ∃ j : Nat, j ≤ 12 ∧ v = .int .i64 ((2 ^ (1 + j) : Nat) : Int) ∧ ∀ i : Nat, i < j → n ≠ ((2 ^ (1 + i) : Nat) : Int)) (fun v => (8192 - intOf v).toNat)
  case atStart => exact ⟨0, by omega, rfl, fun i hi => by omega⟩
  case round =>
    obtain ⟨j, hj, rfl, hno⟩ := hrel
    have HNO := Lib.hid hno
    clear hno
    by_cases hlt : j ≤ 11
    · obtain ⟨p1, p2, p3⟩ := HP.out j hlt
      have HP3 := Lib.hid p3
      clear p3
      by_cases he : n = ((2 ^ (1 + j) : Nat) : Int)
      · obtain rfl := HY.out j hlt he
        clear HY HN HNO HP HP3
        subst he
        generalize 2 ^ (1 + j) = P at *
        go_wp2_with fail
        go_ret
        exact ⟨rfl, rfl⟩
      · have hne : (((2 ^ (1 + j) : Nat) : Int) == n) = false := beq_eq_false_iff_ne.2 (fun e => he e.symm)
        have HE := Lib.hid he
        clear he
        obtain ⟨P, hP⟩ : ∃ P, 2 ^ (1 + j) = P := ⟨_, rfl⟩
        rw [hP] at p1 p2 hne HP3 HE ⊢
        have HPP := Lib.hid hP
        clear hP
        go_wp2_with fail
        refine ⟨⟨j + 1, by omega, by rw [HP3.out], fun i hi => ?_⟩, by simp [intOf]; omega⟩
        by_cases e : i = j
        · subst e
          rw [HPP.out]
          exact HE.out
        · exact HNO.out i (by omega)
    · obtain rfl : j = 12 := by omega
      obtain rfl := HN.out (fun j hj => HNO.out j (by omega))
      clear HY HN HNO HP
      go_wp2_with fail
      go_ret
      exact ⟨rfl, rfl⟩
end

section
open Go.RowKit

theorem infoIntK : (Try.prog.info? 3).map (fun i => (i.zero, i.size, i.bytes)) = some (some (.int .i64 0), 1, 8) := by kernel_rfl
theorem madeInt_one (n : Nat) : madeCells (Value.int .i64 0).cells n = (cntV n (fun _ => 0)).toArray := by
  apply Array.ext
  · simp [madeCells, cntV]
  · intro i h1 h2
    simp [madeCells, Value.cells, Nat.mod_one, cntV]

set_option maxHeartbeats 1000000 in
theorem rnew_any (m : Nat) (hm : 2 ≤ m ∧ m ≤ 4096) (w : World) :
    Calls Try.prog 20 #[.int .i64 (m : Nat)] w fun e w' => ∃ G, e = .returned (rvV m 0 G (4 * m)) ∧ Blk w' G 3 (cntV (4 * m) (fun _ => 0)) ∧ w.heap.size ≤ G ∧ w.grownBy w' none := by
  obtain ⟨i0, hi, hz0, hz1, hz2⟩ := info_parts infoIntK
  have q4 : IntKind.i64.wrap (4 * (m : Int)) = 4 * (m : Int) := IntWalk.i64_in _ ⟨by omega, by omega⟩
  have hmk : ∀ W : World, (Instr.makeSlice 38 (.int .i64 (4 * (m : Int))) (.int .i64 (4 * (m : Int)))).run Try.prog W = .ok (.slice (some ⟨W.heap.size, 0, none⟩) (4 * m) (4 * m)) (W.alloc (.cells (cntV (4 * m) (fun _ => 0)).toArray 3)) := by
    intro W
    have := run_makeSlice (P := Try.prog) W 38 3 i0 (.int .i64 0) Try.underlying38 hi hz0 .i64 .i64 (4 * (m : Int)) (4 * (m : Int)) (by omega) (by omega) (by rw [hz1]; omega) (by rw [hz2]; omega) (by omega)
    rw [this, hz1, Nat.mul_one, show (4 * (m : Int)).toNat = 4 * m by omega, madeInt_one]
  clear hi hz0 hz1 hz2
  go_enter Try.func20, Try.ntmps20
  go_wp2
  have hb := Blk.new (w.alloc (.cells #[.int .i64 (m : Int), .int .i64 0, .slice (some ⟨w.heap.size + 1, 0, none⟩) (4 * m) (4 * m)] 40)) 3 (cntV (4 * m) (fun _ => 0))
  rw [World.size_alloc] at hb
  refine bodyPost_ret (v := rvV m 0 (w.heap.size + 1) (4 * m)) (by simp [results, Try.results20, go_sem, rvV]) rfl ⟨_, rfl, hb, by omega, grownBy_trans (World.grownBy_alloc _ _ none) (World.grownBy_alloc _ _ none)⟩

theorem plC_math (m : Nat) (h : BitVec 64) (i : Nat) (hi : i < 4) (hm : 2 ≤ m ∧ m ≤ 4096) :
    ((U (scr (h + BitVec.ofNat 64 i * apartB))).tmod (m : Int)) = (plN m h i : Nat) ∧ plN m h i < m := ⟨rfl, Nat.mod_lt _ (by omega)⟩
theorem ofNat_succ64 (k : Nat) : BitVec.ofNat 64 (k + 1) = BitVec.ofNat 64 k + 1#64 := by
  apply BitVec.eq_of_toNat_eq
  rw [BitVec.toNat_add, BitVec.toNat_ofNat, BitVec.toNat_ofNat, BitVec.toNat_ofNat]
  omega
theorem apart_next (h : BitVec 64) (k : Nat) : h + BitVec.ofNat 64 (k + 1) * apartB = h + BitVec.ofNat 64 k * apartB + apartB := by
  rw [ofNat_succ64]
  generalize BitVec.ofNat 64 k = x
  generalize apartB = y
  rw [BitVec.add_assoc, BitVec.add_mul, BitVec.one_mul]
theorem apart_step (h : BitVec 64) (k : Nat) : IntKind.u64.wrap (U (h + BitVec.ofNat 64 k * apartB) + 11400714819323198485) = U (h + BitVec.ofNat 64 (k + 1) * apartB) := by
  rw [apart_next]
  exact U_add _ apartB

set_option maxHeartbeats 1000000 in
theorem rplace_any (m age G c : Nat) (h : BitVec 64) (i : Nat) (hi : i < 4) (hm : 2 ≤ m ∧ m ≤ 4096) (w : World) :
    Calls Try.prog 36 #[rvV m age G c, .int .u64 (U h), .int .i64 (i : Nat)] w fun e w' => e = .returned (.int .i64 (i * m + plN m h i : Nat)) ∧ w.grownBy w' none := by
  have hb0 := Blk.new w 40 [.int .i64 (m : Int), .int .i64 (age : Int), .slice (some ⟨G, 0, none⟩) (4 * m) c]
  have HB := Lib.hid hb0
  have hg0 := World.grownBy_alloc w (.cells #[.int .i64 (m : Int), .int .i64 (age : Int), .slice (some ⟨G, 0, none⟩) (4 * m) c] 40) none
  have HG := Lib.hid hg0
  have HST := Lib.hid (apart_step h)
  have h0 : U h = U (h + BitVec.ofNat 64 0 * apartB) := by simp
  have H0 := Lib.hid h0
  clear hb0 hg0 h0
  unfold rvV
  obtain ⟨m1, m2⟩ := plC_math m h i hi hm
  have hpr : i * m ≤ 3 * m := Nat.mul_le_mul_right m (by omega)
  have hSC := rscramble_any (h + BitVec.ofNat 64 i * apartB)
  have HSC := Lib.hid hSC
  obtain ⟨pl, hpl⟩ : ∃ pl, plN m h i = pl := ⟨_, rfl⟩
  rw [hpl] at m1 m2 ⊢
  obtain ⟨im, him⟩ : ∃ im, i * m = im := ⟨_, rfl⟩
  rw [him] at hpr ⊢
  have HM1 := Lib.hid m1
  have HIM := Lib.hid him
  have hfin : ((im + pl : Nat) : Int) = (im : Int) + (pl : Int) := by omega
  rw [hfin]
  clear hpl hSC m1 him hfin
  go_enter Try.func36, Try.ntmps36
  go_wp2_with fail
  generalize hw1 : w.alloc (.cells #[.int .i64 (m : Int), .int .i64 (age : Int), .slice (some ⟨G, 0, none⟩) (4 * m) c] 40) = w1 at *
  have HB1 := HB
  clear hw1 HB
  go_loop [1, 7] (fun hv k => ∃ j : Nat, j ≤ i ∧ k = .int .i64 j ∧ hv = .int .u64 (U (h + BitVec.ofNat 64 j * apartB))) (fun _ k => i - (intOf k).toNat)
  case atStart => exact ⟨0, by omega, rfl, by rw [← H0.out]⟩
  case round =>
    obtain ⟨j, hj, rfl, rfl⟩ := hrel
    have hs := HST.out j
    have HN := Lib.hid hs
    by_cases hlt : j < i
    · obtain ⟨hx, hhx⟩ : ∃ hx, h + BitVec.ofNat 64 j * apartB = hx := ⟨_, rfl⟩
      obtain ⟨hy, hhy⟩ : ∃ hy, h + BitVec.ofNat 64 (j + 1) * apartB = hy := ⟨_, rfl⟩
      rw [hhx, hhy] at hs
      rw [hhx]
      have HY := Lib.hid hhy
      clear hhx hhy HN HST
      go_wp2_with fail
      exact ⟨⟨j + 1, by omega, by go_num, by rw [HY.out]⟩, by simp [intOf]; omega⟩
    · obtain rfl : i = j := by omega
      clear hs HN HST H0
      have m1 := HM1.out
      have w0 : IntKind.u64.wrap (m : Int) = m := IntWalk.u64_in _ ⟨by omega, by omega⟩
      have hz : ¬ m = 0 := by omega
      have hz2 : ((m : Int) == 0) = false := by simp; omega
      generalize scr (h + BitVec.ofNat 64 i * apartB) = sx at *
      generalize h + BitVec.ofNat 64 i * apartB = hx at *
      have w1' : IntKind.i64.wrap ((i : Int) * (m : Int)) = (im : Int) := by
        rw [show (i : Int) * (m : Int) = (im : Int) by rw [← HIM.out]; simp]
        exact IntWalk.i64_in _ ⟨by omega, by omega⟩
      have w2' : IntKind.i64.wrap (pl : Int) = (pl : Int) := IntWalk.i64_in _ ⟨by omega, by omega⟩
      have w3' : IntKind.i64.wrap ((im : Int) + (pl : Int)) = (im : Int) + (pl : Int) := IntWalk.i64_in _ ⟨by omega, by omega⟩
      have c0 := HB1.out.cell (j := 0) rfl
      go_wp2_with fail
      refine wp_region_planD (fun w' => w'.cell? ⟨w.heap.size, 0, none⟩ = some (.int .i64 (m : Int))) [([0, 1, 2, 3, 4, 6, 7, 8], 5, true), ([9, 10, 11], 12, false)] (by kernel_rfl) (by kernel_rfl) ?_
      refine wpPlanD_seg c0 ?_
      repeat ((first | (apply wpReadD_step rfl (by rfl); (· intro wS hSw; (try have hSw := hSw rfl); (try dsimp only at hSw); go_simp; (try with_reducible rfl))) | (apply wpReadD_skip rfl (by rfl))); (try simp only [Act.put, List.setIfInBounds_toArray, List.set_cons_zero, List.set_cons_succ]))
      refine wpReadD_nil ?_
      refine wpOp_list rfl (fun K hK => ?_)
      go_simp
      refine (HSC.out _).mono ?_
      rintro e w2 ⟨rfl, g2⟩
      dsimp only
      have c5 := g2.cell (show w1.drew.cell? ⟨w.heap.size, 0, none⟩ = some (.int .i64 (m : Int)) from c0) (by simp)
      refine hK _ _ ⟨fun _ => c5, ?_⟩
      have HG2 := Lib.hid (grownBy_trans (grownBy_trans HG.out (grownBy_drewN w1 1 none)) g2)
      clear hK K g2
      try simp only [Act.put, List.setIfInBounds_toArray, List.set_cons_zero, List.set_cons_succ]
      refine wpPlanD_seg c5 ?_
      repeat ((first | (apply wpReadD_step rfl (by rfl); (· intro wS hSw; (try have hSw := hSw rfl); (try dsimp only at hSw); go_simp; (try with_reducible rfl))) | (apply wpReadD_skip rfl (by rfl))); (try simp only [Act.put, List.setIfInBounds_toArray, List.set_cons_zero, List.set_cons_succ]))
      refine wpReadD_nil ?_
      refine wpOp_list rfl (fun K hK => ?_)
      go_simp
      refine hK _ _ ⟨fun hf => (by cases hf), ?_⟩
      clear hK K
      refine wpPlanD_nil (NoPanic.normal ?_)
      clear w1' w2' w3' m1 w0 c0 c5
      go_wp2_with fail
      go_ret
      exact ⟨rfl, HG2.out⟩

theorem hg_at {w w1 wr : World} {m : Nat} {C : Nat → Nat} {G c : Nat} (h : RS w m C G c) (g1 : w.grownBy w1 none) (g2 : w1.grownBy wr none) (j : Nat) (hj : j < 4 * m) : wr.cell? ⟨G, j, none⟩ = some (.int .i64 (C j : Nat)) :=
  g2.cell (g1.cell (h.at j hj) (by simp)) (by simp)
/-- The reference's guess. -/
theorem gsL_take (m : Nat) (C : Nat → Nat) (h : BitVec 64) (k : Nat) (hk : k < 4) : gsL m C h (first4 (k + 1)) = min (gsL m C h (first4 k)) (C (k * m + plN m h k)) := by
  rw [first4_succ k hk, gsL_snoc]
  rfl
theorem at_lt4 {m i j : Nat} (hi : i < 4) (hj : j < m) : i * m + j < 4 * m := by
  rcases (show i = 0 ∨ i = 1 ∨ i = 2 ∨ i = 3 by omega) with rfl | rfl | rfl | rfl <;> omega

set_option maxRecDepth 100000 in
set_option maxHeartbeats 2000000 in
theorem rguess_any (m age : Nat) (C : Nat → Nat) (G c : Nat) (h : BitVec 64) (hm : 2 ≤ m ∧ m ≤ 4096) (h15 : ∀ k, C k ≤ 15) (w : World) (hr : RS w m C G c) :
    Calls Try.prog 24 #[rvV m age G c, .int .u64 (U h)] w fun e w' => e = .returned (.int .i64 (gs m C h : Nat)) ∧ w.grownBy w' none := by
  have HR := Lib.hid hr
  have H15 := Lib.hid h15
  have HGS : Hid (gsL m C h (first4 4) = gs m C h) := Lib.hid rfl
  have HB := Lib.hid (Blk.new w 40 [.int .i64 (m : Int), .int .i64 (age : Int), .slice (some ⟨G, 0, none⟩) (4 * m) c])
  have HG := Lib.hid (World.grownBy_alloc w (.cells #[.int .i64 (m : Int), .int .i64 (age : Int), .slice (some ⟨G, 0, none⟩) (4 * m) c] 40) none)
  clear hr h15
  unfold rvV
  generalize gs m C h = gv at *
  go_enter Try.func24, Try.ntmps24
  go_wp2_with fail
  generalize hw1 : w.alloc (.cells #[.int .i64 (m : Int), .int .i64 (age : Int), .slice (some ⟨G, 0, none⟩) (4 * m) c] 40) = w1 at *
  have HB1 : Hid (Blk w1 w.heap.size 40 [.int .i64 (m : Int), .int .i64 (age : Int), .slice (some ⟨G, 0, none⟩) (4 * m) c]) := HB
  clear hw1 HB
  go_loopw [5, 6] (fun n k wr => ∃ j : Nat, j ≤ 4 ∧ k = .int .i64 j ∧ n = .int .i64 (gsL m C h (first4 j) : Nat) ∧ w1.grownBy wr none) (fun _ k _ => 4 - (intOf k).toNat)
  case atStart => exact ⟨0, by omega, rfl, rfl, grownBy_refl _ _⟩
  case round =>
    obtain ⟨j, hj, rfl, rfl, hg⟩ := hrel
    have HGW := Lib.hid hg
    clear hg
    by_cases hlt : j < 4
    · have hst := gsL_take m C h j hlt
      have hpl := plN_lt (m := m) (by omega) h j
      have hq := at_lt4 hlt hpl
      have hb1 := HB1.out.grown HGW.out (by simp)
      have b0 := hb1.cell (j := 0) rfl
      have b1 := hb1.cell (j := 1) rfl
      have b2 := hb1.cell (j := 2) rfl
      have hpr := rplace_any m age G c h j hlt hm
      unfold rvV at hpr
      have HPR := Lib.hid hpr
      have hcell := (hg_at HR.out HG.out HGW.out) (j * m + plN m h j) hq
      obtain ⟨p, hp⟩ : ∃ p, j * m + plN m h j = p := ⟨_, rfl⟩
      rw [hp] at hst hq HPR hcell
      obtain ⟨cp, hcp⟩ : ∃ cp, C p = cp := ⟨_, rfl⟩
      have hc15 := H15.out p
      rw [hcp] at hst hcell hc15
      obtain ⟨g0, hg0⟩ : ∃ g0, gsL m C h (first4 j) = g0 := ⟨_, rfl⟩
      rw [hg0] at hst ⊢
      have HST := Lib.hid hst
      have hqi : (p : Int) < 4 * (m : Int) := by omega
      clear hst hpl hpr hp hcp hg0 hb1
      have hd4 : decide ((j : Int) < 4) = true := decide_eq_true (by omega)
      go_wp2_with fail
      refine wp_region_planD (fun w' => w'.cell? ⟨w.heap.size, 0, none⟩ = some (.int .i64 (m : Int)) ∧ w'.cell? ⟨w.heap.size, 1, none⟩ = some (.int .i64 (age : Int)) ∧ w'.cell? ⟨w.heap.size, 2, none⟩ = some (.slice (some ⟨G, 0, none⟩) (4 * m) c) ∧ w'.cell? ⟨G, p, none⟩ = some (.int .i64 (cp : Int))) [([0, 1, 2, 3, 4], 5, true), ([6, 7], 8, false)] (by kernel_rfl) (by kernel_rfl) ?_
      refine wpPlanD_seg ⟨b0, b1, b2, hcell⟩ ?_
      repeat ((first | (apply wpReadD_step rfl (by rfl); (· intro wS hSw; (try have hSw := hSw rfl); (try dsimp only at hSw); (try obtain ⟨k0, k1, k2, k3⟩ := hSw); go_simp; (try with_reducible rfl))) | (apply wpReadD_skip rfl (by rfl))); (try simp only [Act.put, List.setIfInBounds_toArray, List.set_cons_zero, List.set_cons_succ]))
      refine wpReadD_nil ?_
      refine wpOp_list rfl (fun K hK => ?_)
      go_simp
      refine (HPR.out wr.drew).mono ?_
      rintro e w2 ⟨rfl, g2⟩
      dsimp only
      have g3 : wr.grownBy w2 none := grownBy_trans (grownBy_drewN wr 1 none) g2
      have cc := g3.cell hcell (by simp)
      refine hK _ _ ⟨fun _ => ⟨g3.cell b0 (by simp), g3.cell b1 (by simp), g3.cell b2 (by simp), cc⟩, ?_⟩
      have HG3 := Lib.hid (grownBy_trans HGW.out g3)
      have b0' := g3.cell b0 (by simp)
      have b1' := g3.cell b1 (by simp)
      have b2' := g3.cell b2 (by simp)
      clear hK K g2 g3 hcell b0 b1 b2
      try simp only [Act.put, List.setIfInBounds_toArray, List.set_cons_zero, List.set_cons_succ]
      refine wpPlanD_seg ⟨b0', b1', b2', cc⟩ ?_
      repeat ((first | (apply wpReadD_step rfl (by rfl); (· intro wS hSw; (try have hSw := hSw rfl); (try dsimp only at hSw); (try obtain ⟨k0, k1, k2, k3⟩ := hSw); go_simp; (try with_reducible rfl))) | (apply wpReadD_skip rfl (by rfl))); (try simp only [Act.put, List.setIfInBounds_toArray, List.set_cons_zero, List.set_cons_succ]))
      refine wpReadD_nil ?_
      refine wpOp_list rfl (fun K hK => ?_)
      go_simp
      refine hK _ _ ⟨fun hf => (by cases hf), ?_⟩
      clear hK K b0' b1' b2' cc
      refine wpPlanD_nil (NoPanic.normal ?_)
      by_cases hcg : (cp : Int) < (g0 : Int)
      · have hmin : gsL m C h (first4 (j + 1)) = cp := by have := HST.out; omega
        have HMIN := Lib.hid hmin
        clear hmin
        go_wp2_with fail
        exact ⟨⟨j + 1, by omega, by go_num, by rw [HMIN.out], HG3.out⟩, by simp [intOf]; omega⟩
      · have hmin : gsL m C h (first4 (j + 1)) = g0 := by have := HST.out; omega
        have HMIN := Lib.hid hmin
        clear hmin
        go_wp2_with fail
        exact ⟨⟨j + 1, by omega, by go_num, by rw [HMIN.out], HG3.out⟩, by simp [intOf]; omega⟩
    · obtain rfl : j = 4 := by omega
      rw [HGS.out]
      have HGF := Lib.hid (grownBy_trans HG.out HGW.out)
      go_wp2_with fail
      go_ret
      exact ⟨rfl, HGF.out⟩
end

section
open Go.RowKit

theorem cntV_set (n : Nat) (C : Nat → Nat) (j v : Nat) (h : j < n) : (cntV n C).set j (.int .i64 (v : Nat)) = cntV n (updC C j v) := by
  apply List.ext_getElem
  · simp [cntV]
  · intro k h1 h2
    rw [List.getElem_set]
    by_cases e : j = k
    · subst e
      simp [cntV, updC]
    · have e2 : k ≠ j := fun h => e h.symm
      simp [cntV, updC, e, e2]
theorem cntV_congr {n : Nat} {C D : Nat → Nat} (h : ∀ k, k < n → C k = D k) : cntV n C = cntV n D := by
  unfold cntV
  exact List.map_congr_left fun k hk => by rw [h k (List.mem_range.1 hk)]
theorem RS.of_blk {w : World} {m G : Nat} {C : Nat → Nat} (hm : m ≤ 4096) (h : Blk w G 3 (cntV (4 * m) C)) : RS w m C G (4 * m) :=
  Rds.of_blk h (by rw [cntV_len, Nat.mul_one]) (by unfold maxLen; omega)
def half2 (C : Nat → Nat) (k : Nat) : Nat → Nat := fun x => if x < k then C x / 2 else 0
theorem half2_step (C : Nat → Nat) (k : Nat) : updC (half2 C k) k (C k / 2) = half2 C (k + 1) := by
  funext x
  unfold updC half2
  by_cases e : x = k
  · subst e; simp
  · simp only [e, if_false]
    by_cases h : x < k
    · rw [if_pos h, if_pos (by omega)]
    · rw [if_neg h, if_neg (by omega)]

/-- Halve under way. -/
structure RH (w wr : World) (rb ob G2 m age G c : Nat) (C : Nat → Nat) (k : Nat) : Prop where
  inB : Blk wr w.heap.size 40 [.int .i64 (m : Nat), .int .i64 (age : Nat), .slice (some ⟨G, 0, none⟩) (4 * m) c]
  resB : Blk wr rb 40 [.int .i64 0, .int .i64 0, .slice none 0 0]
  outB : Blk wr ob 40 [.int .i64 (m : Nat), .int .i64 (0 : Nat), .slice (some ⟨G2, 0, none⟩) (4 * m) (4 * m)]
  cnt : Blk wr G2 3 (cntV (4 * m) (half2 C k))
  grown : w.grownBy wr none
  newR : w.heap.size < rb
  newO : rb < G2
  newG : G2 < ob

theorem RH.later {w wr wr' : World} {rb ob G2 m age G c : Nat} {C : Nat → Nat} {k : Nat} (h : RH w wr rb ob G2 m age G c C k) (hg : wr.grownBy wr' none) : RH w wr' rb ob G2 m age G c C k :=
  ⟨h.inB.grown hg (by simp), h.resB.grown hg (by simp), h.outB.grown hg (by simp), h.cnt.grown hg (by simp), grownBy_trans h.grown hg, h.newR, h.newO, h.newG⟩

set_option maxRecDepth 100000 in
set_option maxHeartbeats 2000000 in
theorem rhalve_any (m age : Nat) (C : Nat → Nat) (G c : Nat) (hm : 2 ≤ m ∧ m ≤ 4096) (h15 : ∀ k, C k ≤ 15) (w : World) (hr : RS w m C G c) :
    Calls Try.prog 21 #[rvV m age G c] w fun e w' => ∃ G2, e = .returned (rvV m 0 G2 (4 * m)) ∧ Blk w' G2 3 (cntV (4 * m) (halfC C)) ∧ w.heap.size ≤ G2 ∧ w.grownBy w' none := by
  have HR := Lib.hid hr
  have H15 := Lib.hid h15
  clear hr h15
  unfold rvV
  go_enter Try.func21, Try.ntmps21
  go_wp2_with fail
  obtain ⟨w1, hw1⟩ : ∃ w1, (w.alloc (.cells #[.int .i64 (m : Int), .int .i64 (age : Int), .slice (some ⟨G, 0, none⟩) (4 * m) c] 40)).alloc (.cells #[.int .i64 0, .int .i64 0, .slice none 0 0] 40) = w1 := ⟨_, rfl⟩
  have hi1 : Blk w1 w.heap.size 40 [.int .i64 (m : Int), .int .i64 (age : Int), .slice (some ⟨G, 0, none⟩) (4 * m) c] := by rw [← hw1]; exact (Blk.new w _ _).alloc _
  have hr1 : Blk w1 (w.heap.size + 1) 40 [.int .i64 0, .int .i64 0, .slice none 0 0] := by
    rw [← hw1]
    have h := Blk.new (w.alloc (.cells #[.int .i64 (m : Int), .int .i64 (age : Int), .slice (some ⟨G, 0, none⟩) (4 * m) c] 40)) 40 [.int .i64 0, .int .i64 0, .slice none 0 0]
    rw [World.size_alloc] at h
    exact h
  have hg1 : w.grownBy w1 none := by rw [← hw1]; exact grownBy_trans (World.grownBy_alloc _ _ none) (World.grownBy_alloc _ _ none)
  rw [hw1]
  have HI := Lib.hid hi1
  have HR1 := Lib.hid hr1
  have HG1 := Lib.hid hg1
  clear hw1 hi1 hr1 hg1
  have HRL : Hid (w.heap.size + 1 < w1.heap.size) := Lib.hid HR1.out.lt
  refine (rnew_any m hm w1).mono ?_
  rintro e w2 ⟨G2, rfl, hb2, hG2, g2⟩
  unfold rvV
  have HB2 := Lib.hid hb2
  have HN2 := Lib.hid hG2
  have HG2 := Lib.hid g2
  clear hb2 hG2 g2
  go_wp2_with fail
  have hg3 := World.grownBy_alloc w2 (.cells #[.int .i64 (m : Int), .int .i64 0, .slice (some ⟨G2, 0, none⟩) (4 * m) (4 * m)] 40) none
  have hob := Blk.new w2 40 [.int .i64 (m : Nat), .int .i64 (0 : Nat), .slice (some ⟨G2, 0, none⟩) (4 * m) (4 * m)]
  have hst : RH w (w2.alloc (.cells #[.int .i64 (m : Int), .int .i64 0, .slice (some ⟨G2, 0, none⟩) (4 * m) (4 * m)] 40)) (w.heap.size + 1) w2.heap.size G2 m age G c C 0 := by
    refine ⟨(HI.out.grown HG2.out (by simp)).grown hg3 (by simp), (HR1.out.grown HG2.out (by simp)).grown hg3 (by simp), hob, ?_, grownBy_trans (grownBy_trans HG1.out HG2.out) hg3, by omega, by have := HN2.out; have := HRL.out; omega, HB2.out.lt⟩
    rw [show half2 C 0 = fun _ => 0 from by funext x; simp [half2]]
    exact HB2.out.grown hg3 (by simp)
  have HST := Lib.hid hst
  obtain ⟨ob, hob'⟩ : ∃ ob, w2.heap.size = ob := ⟨_, rfl⟩
  obtain ⟨rb, hrb'⟩ : ∃ rb, w.heap.size + 1 = rb := ⟨_, rfl⟩
  rw [hob', hrb'] at HST
  rw [hob', hrb']
  generalize w2.alloc (.cells #[.int .i64 (m : Int), .int .i64 0, .slice (some ⟨G2, 0, none⟩) (4 * m) (4 * m)] 40) = w3 at *
  have HST : Hid (RH w w3 rb ob G2 m age G c C 0) := HST
  clear hg3 hob hst hob' hrb' HI HR1 HG1 HRL HB2 HN2 HG2
  go_loopw [4] (fun i wr => ∃ k : Nat, k ≤ 4 * m ∧ i = .int .i64 k ∧ RH w wr rb ob G2 m age G c C k) (fun i _ => 4 * m - (intOf i).toNat)
  case atStart => exact ⟨0, by omega, rfl, HST.out⟩
  case round =>
    clear HST
    obtain ⟨k, hk, rfl, hh⟩ := hrel
    have HH := Lib.hid hh
    clear hh
    have b2 := HH.out.inB.cell (j := 2) rfl
    by_cases hlt : k < 4 * m
    · have d2 := HH.out.outB.cell (j := 2) rfl
      have hcell := HH.out.grown.cell (HR.out.at k hlt) (by simp)
      have hold := HH.out.cnt.cell (cntV_at (4 * m) (half2 C k) k hlt)
      have hfr := HH.out.cnt.frozen k
      have hset := HH.out.cnt.setCell k (.int .i64 (C k / 2 : Nat))
      rw [cntV_set _ _ _ _ hlt, half2_step] at hset
      have hi64 : ((C k / 2 : Nat) : Int) = (C k : Int) / 2 := by omega
      rw [hi64] at hset
      have hg5 := grownBy_setCell wr ⟨G2, k, none⟩ (.int .i64 ((C k : Int) / 2))
      have hmx := H15.out k
      obtain ⟨cv, hcv⟩ : ∃ cv, C k = cv := ⟨_, rfl⟩
      rw [hcv] at hcell hset hg5 hmx
      have HNEW : Hid (RH w (wr.setCell ⟨G2, k, none⟩ (.int .i64 ((cv : Int) / 2))) rb ob G2 m age G c C (k + 1)) := Lib.hid (by
        have h1 := HH.out.newR
        have h2 := HH.out.newO
        have h3 := HH.out.newG
        exact ⟨HH.out.inB.grown hg5 (by simp; omega), HH.out.resB.grown hg5 (by simp; omega), HH.out.outB.grown hg5 (by simp; omega), hset, grownBy_base2 HH.out.grown hg5 (by simp; omega), h1, h2, h3⟩)
      have hwc : IntKind.i64.wrap ((cv : Int) / 2) = (cv : Int) / 2 := IntWalk.i64_in _ ⟨by omega, by omega⟩
      clear hset hg5 hcv hi64
      have hki : (k : Int) < 4 * (m : Int) := by omega
      go_wp2_with fail
      refine wp_region_planD (fun w' => w'.cell? ⟨w.heap.size, 2, none⟩ = some (.slice (some ⟨G, 0, none⟩) (4 * m) c) ∧ w'.cell? ⟨ob, 2, none⟩ = some (.slice (some ⟨G2, 0, none⟩) (4 * m) (4 * m)) ∧ w'.cell? ⟨G, k, none⟩ = some (.int .i64 (cv : Int))) [([0, 1, 2, 3, 4, 5, 6, 7, 8, 9], 10, false)] (by kernel_rfl) (by kernel_rfl) ?_
      refine wpPlanD_seg ⟨b2, d2, hcell⟩ ?_
      repeat ((first | (apply wpReadD_step rfl (by rfl); (· intro wS hSw; (try have hSw := hSw rfl); (try dsimp only at hSw); (try obtain ⟨k0, k1, k2⟩ := hSw); go_simp; (try with_reducible rfl))) | (apply wpReadD_skip rfl (by rfl))); (try simp only [Act.put, List.setIfInBounds_toArray, List.set_cons_zero, List.set_cons_succ]))
      refine wpReadD_nil ?_
      refine wpOp_list rfl (fun K hK => ?_)
      go_simp
      refine hK _ _ ⟨fun hf => (by cases hf), ?_⟩
      clear hK K
      refine wpPlanD_nil (NoPanic.normal ?_)
      have HNEW2 : Hid (RH w (wr.setCell ⟨G2, k, none⟩ (.int .i64 ((cv : Int) / 2))).drew rb ob G2 m age G c C (k + 1)) := Lib.hid (HNEW.out.later (grownBy_drewN _ 1 none))
      clear HNEW hwc hold hfr b2 d2 hcell HH
      go_wp2_with fail
      exact ⟨⟨k + 1, by omega, by go_num, HNEW2.out⟩, by simp [intOf]; omega⟩
    · obtain rfl : k = 4 * m := by omega
      have hcn : cntV (4 * m) (half2 C (4 * m)) = cntV (4 * m) (halfC C) := cntV_congr (fun k hk => if_pos hk)
      have hc2 := HH.out.cnt
      rw [hcn] at hc2
      have o0 := HH.out.outB.cell (j := 0) rfl
      have o1 := HH.out.outB.cell (j := 1) rfl
      have o2 := HH.out.outB.cell (j := 2) rfl
      have r0 := HH.out.resB.cell (j := 0) rfl
      have r1 := HH.out.resB.cell (j := 1) rfl
      have r2 := HH.out.resB.cell (j := 2) rfl
      have f0 := HH.out.resB.frozen 0
      have f1 := HH.out.resB.frozen 1
      have f2 := HH.out.resB.frozen 2
      have hres := ((HH.out.resB.setCell 0 (.int .i64 (m : Nat))).setCell 1 (.int .i64 (0 : Nat))).setCell 2 (.slice (some ⟨G2, 0, none⟩) (4 * m) (4 * m))
      have z0 := Lib.hid ((HH.out.resB.setCell 0 (.int .i64 (m : Nat))).cell (j := 0) rfl)
      have z1 := Lib.hid (((HH.out.resB.setCell 0 (.int .i64 (m : Nat))).setCell 1 (.int .i64 (0 : Nat))).cell (j := 1) rfl)
      have z2 := Lib.hid (hres.cell (j := 2) rfl)
      have hgr : wr.grownBy (((wr.setCell ⟨rb, 0, none⟩ (.int .i64 (m : Nat))).setCell ⟨rb, 1, none⟩ (.int .i64 (0 : Nat))).setCell ⟨rb, 2, none⟩ (.slice (some ⟨G2, 0, none⟩) (4 * m) (4 * m))) (some rb) :=
        grownBy_trans (grownBy_trans (grownBy_setCell wr ⟨rb, 0, none⟩ _) (grownBy_setCell _ ⟨rb, 1, none⟩ _)) (grownBy_setCell _ ⟨rb, 2, none⟩ _)
      have hlt' := HH.out.newO
      have hlr := HH.out.newR
      have HC2 := Lib.hid (hc2.grown hgr (by simp; omega))
      have HG := Lib.hid (grownBy_base2 HH.out.grown hgr (by omega))
      have HN : Hid (w.heap.size ≤ G2) := Lib.hid (by omega)
      clear hcn hc2 hgr hres HH hlt' hlr
      go_wp2_with fail
      clear o0 o1 o2 r0 r1 r2 f0 f1 f2 b2
      have z0 : (wr.setCell ⟨rb, 0, none⟩ (.int .i64 (m : Int))).cell? ⟨rb, 0, none⟩ = some (.int .i64 (m : Int)) := z0.out
      have z1 : ((wr.setCell ⟨rb, 0, none⟩ (.int .i64 (m : Int))).setCell ⟨rb, 1, none⟩ (.int .i64 0)).cell? ⟨rb, 1, none⟩ = some (.int .i64 0) := z1.out
      have z2 : (((wr.setCell ⟨rb, 0, none⟩ (.int .i64 (m : Int))).setCell ⟨rb, 1, none⟩ (.int .i64 0)).setCell ⟨rb, 2, none⟩ (.slice (some ⟨G2, 0, none⟩) (4 * m) (4 * m))).cell? ⟨rb, 2, none⟩ = some (.slice (some ⟨G2, 0, none⟩) (4 * m) (4 * m)) := z2.out
      refine bodyPost_ret (v := rvV m 0 G2 (4 * m)) (by simp [results, Try.results21, go_sem, rvV, z0, z1, z2]) rfl ⟨_, rfl, HC2.out, HN.out, HG.out⟩
end

end Go.Proofs.Ytfdkncabicmmiaa
