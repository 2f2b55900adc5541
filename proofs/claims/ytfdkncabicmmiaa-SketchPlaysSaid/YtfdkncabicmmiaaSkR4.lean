/- Layer 23, the reference: Mark. -/
import Derived.Test.YtfdkncabicmmiaaSkR3
import Derived.Test.YtfdkncabicmmiaaSkMath
namespace Go.Proofs.Ytfdkncabicmmiaa
open Go.RowKit

/-- A row of counts of one's own. -/
def RO (w : World) (m : Nat) (C : Nat → Nat) (G : Nat) : Prop := ∃ rest, Blk w G 3 (cntV (4 * m) C ++ rest)
theorem RO.of_blk {w : World} {m G : Nat} {C : Nat → Nat} (h : Blk w G 3 (cntV (4 * m) C)) : RO w m C G := ⟨[], by rw [List.append_nil]; exact h⟩
theorem RO.grown {w w' : World} {m G : Nat} {C : Nat → Nat} {row : Option Nat} (h : RO w m C G) (hg : w.grownBy w' row) (hr : some G ≠ row) : RO w' m C G := by
  obtain ⟨rest, hb⟩ := h
  exact ⟨rest, hb.grown hg hr⟩
theorem RO.lt {w : World} {m G : Nat} {C : Nat → Nat} (h : RO w m C G) : G < w.heap.size := by
  obtain ⟨rest, hb⟩ := h
  exact hb.lt
theorem RO.at {w : World} {m G : Nat} {C : Nat → Nat} (h : RO w m C G) (j : Nat) (hj : j < 4 * m) : w.cell? ⟨G, j, none⟩ = some (.int .i64 (C j : Nat)) := by
  obtain ⟨rest, hb⟩ := h
  exact hb.cell (by rw [List.getElem?_append_left (by rw [cntV_len]; exact hj), cntV_at _ _ _ hj])
theorem RO.frozen {w : World} {m G : Nat} {C : Nat → Nat} (h : RO w m C G) (j : Nat) : w.frozen? ⟨G, j, none⟩ = false := by
  obtain ⟨rest, hb⟩ := h
  exact hb.frozen j
theorem RO.set {w : World} {m G : Nat} {C : Nat → Nat} (h : RO w m C G) (j v : Nat) (hj : j < 4 * m) : RO (w.setCell ⟨G, j, none⟩ (.int .i64 (v : Nat))) m (updC C j v) G := by
  obtain ⟨rest, hb⟩ := h
  have h1 := hb.setCell j (.int .i64 (v : Nat))
  rw [List.set_append_left _ _ (by rw [cntV_len]; exact hj), cntV_set _ _ _ _ hj] at h1
  exact ⟨rest, h1⟩
theorem RO.rs {w : World} {m G : Nat} {C : Nat → Nat} (hm : m ≤ 4096) (h : RO w m C G) (c : Nat) : RS w m C G c :=
  ⟨by rw [cntV_len, Nat.mul_one], by unfold maxLen; omega, .inr ⟨⟨G, 0, none⟩, c, rfl, fun _ => rfl, fun j u hj => by
    have hj4 : j < 4 * m := by
      have := (List.getElem?_eq_some_iff.1 hj).1
      rwa [cntV_len] at this
    rw [cntV_at _ _ _ hj4] at hj
    cases hj
    simpa using h.at j hj4⟩⟩
theorem cntV_one (n : Nat) (C : Nat → Nat) : ∀ u ∈ cntV n C, u.oneCell' = true := by
  intro u hu
  unfold cntV at hu
  obtain ⟨k, _, rfl⟩ := List.mem_map.1 hu
  rfl
theorem RO.of_owns {w : World} {base m : Nat} {C : Nat → Nat} {v : Value} (hm : 0 < m) (h : w.ownsRow base 3 1 v (4 * m) (cntV (4 * m) C)) : ∃ G c, v = .slice (some ⟨G, 0, none⟩) (4 * m) c ∧ base ≤ G ∧ RO w m C G := by
  obtain ⟨_, h⟩ := h
  rcases h with ⟨_, h0⟩ | ⟨g, cap, cur, rfl, hb, hg, _, _, _, ht⟩
  · omega
  · refine ⟨g, cap, rfl, hb, cur.toList.drop (4 * m), ?_⟩
    rw [Nat.mul_one] at ht
    rw [← ht, List.take_append_drop]
    exact hg
theorem mkL_take (m : Nat) (C : Nat → Nat) (q : BitVec 64) (ls k : Nat) (hk : k < 4) : mkL m C q ls (first4 (k + 1)) = mk1 (mkL m C q ls (first4 k)) (k * m + plN m q k) ls := by
  rw [first4_succ k hk, mkL_snoc]
  rfl

/-- A struct of three cells stored. -/
theorem res3 {w wr : World} {rb : Nat} {e : TypeId} {x0 x1 x2 : Value} (hB : Blk wr rb e [x0, x1, x2]) (hn : w.heap.size ≤ rb) (hg : w.grownBy wr none) (v0 v1 v2 : Value) :
    (wr.setCell ⟨rb, 0, none⟩ v0).cell? ⟨rb, 0, none⟩ = some v0 ∧ ((wr.setCell ⟨rb, 0, none⟩ v0).setCell ⟨rb, 1, none⟩ v1).cell? ⟨rb, 1, none⟩ = some v1 ∧ (((wr.setCell ⟨rb, 0, none⟩ v0).setCell ⟨rb, 1, none⟩ v1).setCell ⟨rb, 2, none⟩ v2).cell? ⟨rb, 2, none⟩ = some v2 ∧
    w.grownBy (((wr.setCell ⟨rb, 0, none⟩ v0).setCell ⟨rb, 1, none⟩ v1).setCell ⟨rb, 2, none⟩ v2) none ∧ wr.grownBy (((wr.setCell ⟨rb, 0, none⟩ v0).setCell ⟨rb, 1, none⟩ v1).setCell ⟨rb, 2, none⟩ v2) (some rb) := by
  have h1 := hB.setCell 0 v0
  have h2 := h1.setCell 1 v1
  have h3 := h2.setCell 2 v2
  have hgr : wr.grownBy (((wr.setCell ⟨rb, 0, none⟩ v0).setCell ⟨rb, 1, none⟩ v1).setCell ⟨rb, 2, none⟩ v2) (some rb) :=
    grownBy_trans (grownBy_trans (grownBy_setCell wr ⟨rb, 0, none⟩ _) (grownBy_setCell _ ⟨rb, 1, none⟩ _)) (grownBy_setCell _ ⟨rb, 2, none⟩ _)
  exact ⟨h1.cell (j := 0) rfl, h2.cell (j := 1) rfl, h3.cell (j := 2) rfl, grownBy_base2 hg hgr hn, hgr⟩

/-- Mark under way. -/
structure RM (w wr : World) (rb G2 c2 m age : Nat) (D : Nat → Nat) : Prop where
  inB : Blk wr w.heap.size 40 [.int .i64 (m : Nat), .int .i64 (age : Nat), .slice (some ⟨G2, 0, none⟩) (4 * m) c2]
  resB : Blk wr rb 40 [.int .i64 0, .int .i64 0, .slice none 0 0]
  row : RO wr m D G2
  grown : w.grownBy wr none
  newR : w.heap.size < rb
  newG : rb < G2
theorem RM.later {w wr wr' : World} {rb G2 c2 m age : Nat} {D : Nat → Nat} (h : RM w wr rb G2 c2 m age D) (hg : wr.grownBy wr' none) : RM w wr' rb G2 c2 m age D :=
  ⟨h.inB.grown hg (by simp), h.resB.grown hg (by simp), h.row.grown hg (by simp), grownBy_trans h.grown hg, h.newR, h.newG⟩
theorem RM.set {w wr : World} {rb G2 c2 m age : Nat} {D : Nat → Nat} (h : RM w wr rb G2 c2 m age D) (j v : Nat) (hj : j < 4 * m) : RM w (wr.setCell ⟨G2, j, none⟩ (.int .i64 (v : Nat))) rb G2 c2 m age (updC D j v) := by
  have h1 := h.newR
  have h2 := h.newG
  have hg := grownBy_setCell wr ⟨G2, j, none⟩ (.int .i64 (v : Nat))
  exact ⟨h.inB.grown hg (by simp; omega), h.resB.grown hg (by simp; omega), h.row.set j v hj, grownBy_base2 h.grown hg (by simp; omega), h1, h2⟩

set_option maxRecDepth 100000 in
set_option maxHeartbeats 4000000 in
theorem rmark_any (m age : Nat) (C : Nat → Nat) (q : BitVec 64) (G c : Nat) (hm : 2 ≤ m ∧ m ≤ 4096) (h15 : ∀ k, C k ≤ 15) (hag : age < 10 * m) (w : World) (hr : RS w m C G c) :
    Calls Try.prog 23 #[rvV m age G c, .int .u64 (U q)] w fun e w' => ∃ G2 c2, e = .returned (rvV m (markA m age) G2 c2) ∧ RO w' m (markD m age C q) G2 ∧ w.heap.size ≤ G2 ∧ w.grownBy w' none := by
  obtain ⟨i0, hi, hz0, hz1, hz2⟩ := info_parts infoIntK
  have HR := Lib.hid hr
  have H15 := Lib.hid h15
  have HGU := Lib.hid (fun W hW => rguess_any m age C G c q hm h15 W hW)
  clear hr h15
  unfold rvV at HGU ⊢
  go_enter Try.func23, Try.ntmps23
  go_wp2_with fail
  obtain ⟨w1, hw1⟩ : ∃ w1, (w.alloc (.cells #[.int .i64 (m : Int), .int .i64 (age : Int), .slice (some ⟨G, 0, none⟩) (4 * m) c] 40)).alloc (.cells #[.int .i64 0, .int .i64 0, .slice none 0 0] 40) = w1 := ⟨_, rfl⟩
  have hi1 : Blk w1 w.heap.size 40 [.int .i64 (m : Int), .int .i64 (age : Int), .slice (some ⟨G, 0, none⟩) (4 * m) c] := by rw [← hw1]; exact (Blk.new w _ _).alloc _
  have hr1 : Blk w1 (w.heap.size + 1) 40 [.int .i64 0, .int .i64 0, .slice none 0 0] := by
    rw [← hw1]
    have h := Blk.new (w.alloc (.cells #[.int .i64 (m : Int), .int .i64 (age : Int), .slice (some ⟨G, 0, none⟩) (4 * m) c] 40)) 40 [.int .i64 0, .int .i64 0, .slice none 0 0]
    rw [World.size_alloc] at h
    exact h
  have hg1 : w.grownBy w1 none := by rw [← hw1]; exact grownBy_trans (World.grownBy_alloc _ _ none) (World.grownBy_alloc _ _ none)
  rw [hw1]
  have HI := Lib.hid hi1
  have HR1 := Lib.hid hr1
  have HG1 := Lib.hid hg1
  clear hw1 hi1 hr1 hg1
  refine (HGU.out w1 (HR.out.grown HG1.out (by simp))).mono ?_
  rintro e w2 ⟨rfl, g2⟩
  obtain ⟨ls, hls⟩ : ∃ ls, gs m C q = ls := ⟨_, rfl⟩
  have hls15 := gs_le m C q
  rw [hls] at hls15 ⊢
  have HLS := Lib.hid hls
  have HI2 := Lib.hid (HI.out.grown g2 (by simp))
  have HR2 := Lib.hid (HR1.out.grown g2 (by simp))
  have HG2 := Lib.hid (grownBy_trans HG1.out g2)
  clear g2 hls HI HR1 HG1 HGU
  have b2 := (HI2.out.alloc (.cells #[] 3)).cell (j := 2) rfl
  have hml : 4 * m ≤ 16384 := by omega
  go_wp2_with (at_builtin; refine wpList_append_rds rfl _ _ 38 rfl w2.heap.size 3 i0 (.int .i64 0) 1 8 Try.underlying38 hi hz0 hz1 hz2 rfl (by decide) (v := .slice (some ⟨w2.heap.size, 0, none⟩) 0 0) (n := 0) (xs := []) (sv := .slice (some ⟨G, 0, none⟩) (4 * m) c) rfl (World.ownsRow_made w2 #[] 0 (Nat.le_refl _) (by simp) (by simp)) rfl ((HR.out.grown HG2.out (by simp)).alloc _) (cntV_one _ _) (by unfold maxLen; omega) (by omega) (by simp) ?_; intro vp wp h1 h2 _; rw [Nat.zero_add, List.nil_append] at h1; obtain ⟨G2, c2, rfl, hG2, ro⟩ := RO.of_owns (by omega) h1; have hgW := grownBy_new h2; have hbW := HI2.out.grown hgW (by simp); have RO2 := Lib.hid ro; have HGW := Lib.hid hgW; have HN2 := Lib.hid hG2; clear h1 h2 ro hgW hG2 b2; have b2 := hbW.cell (j := 2) rfl; have f2 := hbW.frozen 2; clear hbW)
  have hrm : RM w (wp.setCell ⟨w.heap.size, 2, none⟩ (.slice (some ⟨G2, 0, none⟩) (4 * m) c2)) (w.heap.size + 1) G2 c2 m age C := by
    have hl1 := HI2.out.lt
    have hl2 := HR2.out.lt
    have hn := HN2.out
    have hg5 := grownBy_setCell wp ⟨w.heap.size, 2, none⟩ (.slice (some ⟨G2, 0, none⟩) (4 * m) c2)
    exact ⟨(HI2.out.grown HGW.out (by simp)).setCell 2 _, (HR2.out.grown HGW.out (by simp)).grown hg5 (by simp), RO2.out.grown hg5 (by simp; omega), grownBy_base2 (grownBy_trans HG2.out HGW.out) hg5 (Nat.le_refl _), by omega, by omega⟩
  have HM := Lib.hid hrm
  obtain ⟨rb, hrb⟩ : ∃ rb, w.heap.size + 1 = rb := ⟨_, rfl⟩
  rw [hrb] at HM ⊢
  generalize wp.setCell ⟨w.heap.size, 2, none⟩ (.slice (some ⟨G2, 0, none⟩) (4 * m) c2) = w3 at *
  have HM : Hid (RM w w3 rb G2 c2 m age (mkL m C q ls (first4 0))) := HM
  clear hrm hrb HI2 HR2 HG2 RO2 HGW HN2 b2 f2
  have HLE : Hid (∀ j, j ≤ 4 → ∀ x, mkL m C q ls (first4 j) x ≤ 15) := Lib.hid (fun j _ x => mkL_15 m q ls _ C H15.out x)
  go_loopw [6, 7] (fun i _ wr => ∃ j : Nat, j ≤ 4 ∧ i = .int .i64 j ∧ RM w wr rb G2 c2 m age (mkL m C q ls (first4 j))) (fun i _ _ => 4 - (intOf i).toNat)
  case atStart => exact ⟨0, by omega, rfl, HM.out⟩
  case round =>
    clear HM
    obtain ⟨j, hj, rfl, hh⟩ := hrel
    have HH := Lib.hid hh
    clear hh
    by_cases hlt : j < 4
    · have hmk := mkL_take m C q ls j hlt
      have hpl := plN_lt (m := m) (by omega) q j
      have hq := at_lt4 hlt hpl
      have hpr := rplace_any m age G2 c2 q j hlt hm
      unfold rvV at hpr
      have HPR := Lib.hid hpr
      obtain ⟨p, hp⟩ : ∃ p, j * m + plN m q j = p := ⟨_, rfl⟩
      rw [hp] at hmk hq HPR
      have hD15 := HLE.out j hj p
      have HMK := Lib.hid hmk
      clear hmk hpl hpr hp
      obtain ⟨D, hD⟩ : ∃ D, mkL m C q ls (first4 j) = D := ⟨_, rfl⟩
      rw [hD] at HMK hD15 HH
      clear hD
      have b0 := HH.out.inB.cell (j := 0) rfl
      have b1 := HH.out.inB.cell (j := 1) rfl
      have b2 := HH.out.inB.cell (j := 2) rfl
      have hd4 : decide ((j : Int) < 4) = true := decide_eq_true (by omega)
      go_wp2_with fail
      refine (HPR.out _).mono ?_
      rintro e w4 ⟨rfl, g4⟩
      have HH4 := Lib.hid (HH.out.later g4)
      clear g4 HH b0 b1 b2
      have b2 := HH4.out.inB.cell (j := 2) rfl
      have hcell := HH4.out.row.at p hq
      have hfr := HH4.out.row.frozen p
      have hset := HH4.out.set p (D p + 1) hq
      obtain ⟨cp, hcp⟩ : ∃ cp, D p = cp := ⟨_, rfl⟩
      have hmk1 : mkL m C q ls (first4 (j + 1)) = if cp = ls ∧ cp < 15 then updC D p (cp + 1) else D := by rw [HMK.out]; unfold mk1; rw [hcp]
      rw [hcp] at hcell hset hD15
      have HSET := Lib.hid hset
      have HMK1 := Lib.hid hmk1
      have hqi : (p : Int) < 4 * (m : Int) := by omega
      clear hset hmk1 HMK hcp
      by_cases hcl : cp = ls
      · have q1 : ((cp : Int) == (ls : Int)) = true := beq_iff_eq.2 (by omega)
        by_cases hl15 : ls < 15
        · have q2 : decide ((ls : Int) < 15) = true := decide_eq_true (by omega)
          have HX : Hid (RM w (w4.setCell ⟨G2, p, none⟩ (.int .i64 ((ls : Int) + 1))) rb G2 c2 m age (mkL m C q ls (first4 (j + 1)))) := Lib.hid (by
            rw [HMK1.out, if_pos ⟨hcl, by omega⟩, hcl]
            have := HSET.out
            rw [hcl] at this
            exact this)
          subst hcl
          go_wp2_with fail
          exact ⟨⟨j + 1, by omega, by go_num, HX.out⟩, by simp [intOf]; omega⟩
        · have q2 : decide ((ls : Int) < 15) = false := decide_eq_false (by omega)
          have HX : Hid (RM w w4 rb G2 c2 m age (mkL m C q ls (first4 (j + 1)))) := Lib.hid (by
            rw [HMK1.out, if_neg (fun h => by omega)]
            exact HH4.out)
          subst hcl
          go_wp2_with fail
          exact ⟨⟨j + 1, by omega, by go_num, HX.out⟩, by simp [intOf]; omega⟩
      · have q1 : ((cp : Int) == (ls : Int)) = false := beq_eq_false_iff_ne.2 (by omega)
        have HX : Hid (RM w w4 rb G2 c2 m age (mkL m C q ls (first4 (j + 1)))) := Lib.hid (by
          rw [HMK1.out, if_neg (fun h => hcl h.1)]
          exact HH4.out)
        clear hcl
        go_wp2_with fail
        exact ⟨⟨j + 1, by omega, by go_num, HX.out⟩, by simp [intOf]; omega⟩
    · obtain rfl : j = 4 := by omega
      have hmC : mkL m C q ls (first4 4) = markC m C q := by unfold markC; rw [HLS.out]
      have hH := HH.out
      rw [hmC] at hH
      have HC15 : Hid (∀ k, markC m C q k ≤ 15) := Lib.hid (fun k => by rw [← hmC]; exact HLE.out 4 (by omega) k)
      have HH := Lib.hid hH
      clear hmC hH HLE HLS
      have a1 := HH.out.inB.cell (j := 1) rfl
      have fa := HH.out.inB.frozen 1
      have hl1 := HH.out.newR
      have hl2 := HH.out.newG
      have hg5 := grownBy_setCell wr ⟨w.heap.size, 1, none⟩ (.int .i64 (age + 1 : Nat))
      have hin := HH.out.inB.setCell 1 (.int .i64 (age + 1 : Nat))
      have hN : RM w (wr.setCell ⟨w.heap.size, 1, none⟩ (.int .i64 (age + 1 : Nat))) rb G2 c2 m (age + 1) (markC m C q) :=
        ⟨hin, HH.out.resB.grown hg5 (by simp; omega), HH.out.row.grown hg5 (by simp; omega), grownBy_base2 HH.out.grown hg5 (Nat.le_refl _), hl1, hl2⟩
      rw [show ((age + 1 : Nat) : Int) = (age : Int) + 1 by omega] at hN
      have HN := Lib.hid hN
      have m0 := HH.out.inB.cell (j := 0) rfl
      have m2 := HH.out.inB.cell (j := 2) rfl
      clear hN hin hg5 HH
      have q10 : IntKind.i64.wrap (10 * (m : Int)) = 10 * (m : Int) := IntWalk.i64_in _ ⟨by omega, by omega⟩
      by_cases hfull : age + 1 = 10 * m
      · have q1 : ((age : Int) + 1 == 10 * (m : Int)) = true := beq_iff_eq.2 (by omega)
        have HF := Lib.hid hfull
        clear hfull
        have HHV := Lib.hid (fun W hW => rhalve_any m (age + 1) (markC m C q) G2 c2 hm HC15.out W hW)
        unfold rvV at HHV
        rw [show ((age + 1 : Nat) : Int) = (age : Int) + 1 by omega] at HHV
        have e1 := HN.out.inB.cell (j := 1) rfl
        rw [show ((age + 1 : Nat) : Int) = (age : Int) + 1 by omega] at e1
        go_wp2_with fail
        refine (HHV.out _ (HN.out.row.rs hm.2 c2)).mono ?_
        rintro e w6 ⟨G6, rfl, b6, n6, g6⟩
        have HN6 := HN.out.later g6
        obtain ⟨z0, z1, z2, zg, zr⟩ := res3 HN6.resB (by have := HN6.newR; omega) HN6.grown (.int .i64 (m : Int)) (.int .i64 0) (.slice (some ⟨G6, 0, none⟩) (4 * m) (4 * m))
        have y0 := HN6.resB.cell (j := 0) rfl
        have y1 := HN6.resB.cell (j := 1) rfl
        have y2 := HN6.resB.cell (j := 2) rfl
        have x0 := HN6.resB.frozen 0
        have x1 := HN6.resB.frozen 1
        have x2 := HN6.resB.frozen 2
        have hrbl : rb < (wr.setCell ⟨w.heap.size, 1, none⟩ (.int .i64 ((age : Int) + 1))).heap.size := HN.out.resB.lt
        have ZROW := Lib.hid ((RO.of_blk b6).grown zr (by simp; omega))
        have ZG := Lib.hid zg
        have ZN : Hid (w.heap.size ≤ G6) := Lib.hid (by have := HN6.newR; omega)
        have Z0 := Lib.hid z0
        have Z1 := Lib.hid z1
        have Z2 := Lib.hid z2
        clear m0 a1 fa e1 m2 HHV b6 n6 g6 HN6 z0 z1 z2 zg zr hrbl
        go_wp2_with fail
        clear y0 y1 y2 x0 x1 x2
        have z0 := Z0.out
        have z1 := Z1.out
        have z2 := Z2.out
        refine bodyPost_ret (v := rvV m (markA m age) G6 (4 * m)) (by simp [results, Try.results23, go_sem, rvV, z0, z1, z2, show markA m age = 0 from if_pos HF.out]) rfl ⟨G6, 4 * m, rfl, ?_, ZN.out, ZG.out⟩
        rw [show markD m age C q = halfC (markC m C q) from if_pos HF.out]
        exact ZROW.out
      · have q1 : ((age : Int) + 1 == 10 * (m : Int)) = false := beq_eq_false_iff_ne.2 (by omega)
        have HF := Lib.hid hfull
        clear hfull
        have e1 := HN.out.inB.cell (j := 1) rfl
        rw [show ((age + 1 : Nat) : Int) = (age : Int) + 1 by omega] at e1
        have HN6 := HN.out
        have hl := HN6.newR
        obtain ⟨z0, z1, z2, zg, zr⟩ := res3 HN6.resB (by omega) HN6.grown (.int .i64 (m : Int)) (.int .i64 ((age : Int) + 1)) (.slice (some ⟨G2, 0, none⟩) (4 * m) c2)
        have y0 := HN6.resB.cell (j := 0) rfl
        have y1 := HN6.resB.cell (j := 1) rfl
        have y2 := HN6.resB.cell (j := 2) rfl
        have x0 := HN6.resB.frozen 0
        have x1 := HN6.resB.frozen 1
        have x2 := HN6.resB.frozen 2
        have ZROW := Lib.hid (HN6.row.grown zr (by simp; omega))
        have ZG := Lib.hid zg
        have ZN : Hid (w.heap.size ≤ G2) := Lib.hid (by omega)
        have Z0 := Lib.hid z0
        have Z1 := Lib.hid z1
        have Z2 := Lib.hid z2
        clear HN6 z0 z1 z2 zg zr
        go_wp2_with fail
        clear y0 y1 y2 x0 x1 x2
        have z0 := Z0.out
        have z1 := Z1.out
        have z2 := Z2.out
        refine bodyPost_ret (v := rvV m (markA m age) G2 c2) (by simp [results, Try.results23, go_sem, rvV, z0, z1, z2, show markA m age = age + 1 from if_neg HF.out]) rfl ⟨G2, c2, rfl, ?_, ZN.out, ZG.out⟩
        rw [show markD m age C q = markC m C q from if_neg HF.out]
        exact ZROW.out

end Go.Proofs.Ytfdkncabicmmiaa
