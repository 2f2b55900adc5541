/- Layer 3: the walk of WireWrites. -/
import Derived.Test.YtmmkfchijafjeaaWW
import Derived.Deep.RegionWith
import Derived.Deep.RegionLaw
import Derived.Deep.DrawnRows
import Derived.Test.YtmmkfchijafjeaaStepApp
import Derived.Test.YtmmkfchijafjeaaPlan
namespace Go.Proofs.Ytmmkfchijafjeaa
open Go.RowKit Go.WideShapes Go.ChangeShapes Go.ChangeAt
attribute [local go_sem ↓] Go.wp_at_zero Go.wp_at_succ

set_option maxRecDepth 100000 in
set_option maxHeartbeats 16000000 in
theorem wireWrites_walk0 (lim : Int) (l : List WAct) (a : Option Addr) (c : Nat) (w : World) (hl1 : lim ≤ 9223372036854775807) (hr : Rds w 4 (.slice a l.length c) l.length (actsV l)) (hg : ∀ x ∈ l, x.good w) :
    Calls Try.prog 3 #[.int .i64 lim, .slice a l.length c] w fun e w' => e = .returned (.bool true) ∧ Below w.heap.size w w' := by
  have hli := light_any l a c w hr hg
  cases hL : lightB l
  · rw [hL] at hli
    have HLI := Lib.hid hli
    clear hli hL hr hg
    go_enter Try.func3, Try.ntmps3
    go_wp2_with fail
    refine HLI.out.mono ?_
    rintro e w1 ⟨rfl, rfl⟩
    go_wp2
    go_ret
    exact ⟨rfl, Below.refl _ _⟩
  rw [hL] at hli
  have hl40 := lightB_len hL
  have HL300 := Lib.hid (lightB_at hL)
  have HLI := Lib.hid hli
  have HR := Lib.hid hr
  have HG := Lib.hid hg
  clear hli hL hr hg
  have hq : (if 0 ≤ lim then lim else 0) = max lim 0 := by split <;> omega
  have hQ0 : 0 ≤ max lim 0 := by omega
  have hQ1 : max lim 0 ≤ 9223372036854775807 := by omega
  have HQ := Lib.hid hq
  clear hq
  go_enter Try.func3, Try.ntmps3
  go_wp2_with fail
  refine HLI.out.mono ?_
  rintro e w1 ⟨rfl, rfl⟩
  go_wp2_with fail
  refine (newWriter_any _ hl1 w).mono ?_
  rintro e w1 ⟨rfl, hw1, g1⟩
  rw [HQ.out] at hw1
  go_wp2
  generalize max lim 0 = Q at *
  have hst : WSt w (w1.alloc (.cells #[.slice none 0 0, .int .i64 Q, .bool false] 28)) w.heap.size w1.heap.size (.slice none 0 0) [] Q false none 0 :=
    ⟨hw1.grown (World.grownBy_alloc _ _ none), Blk.new w1 _ _, Rds.nil _ 1, fun k hk => by
      rcases hk with h | h
      · omega
      · simp [Value.ownBlock] at h, fun k hk => by
      have := hw1.blk.lt
      rcases hk with h | h
      · omega
      · simp [Value.ownBlock] at h, fun b hb => by simp [Value.ownBlock] at hb, fun b hb => by simp [Value.ownBlock] at hb, g1.size, grownBy_trans g1 (World.grownBy_alloc _ _ none)⟩
  obtain ⟨Br, hBr⟩ : ∃ Br, w1.heap.size = Br := ⟨_, rfl⟩
  obtain ⟨w2, hw2⟩ : ∃ w2, w1.alloc (.cells #[.slice none 0 0, .int .i64 Q, .bool false] 28) = w2 := ⟨_, rfl⟩
  rw [hBr, hw2] at hst
  rw [hBr, hw2]
  have HST := Lib.hid hst
  clear hst hBr hw2 hw1 g1 HLI HQ
  have hlm := HR.out.2.1
  unfold maxLen at hlm
  go_loopw [7] (fun i wr => ∃ (j : Nat) (v : Value) (xs : List Nat) (full : Bool) (ax : Option Addr) (cx : Nat), j ≤ l.length ∧ i = .int .i64 j ∧ xs.length ≤ j * 302 ∧ WSt w wr w.heap.size Br v xs Q full ax cx) (fun i _ => l.length - (intOf i).toNat)
  case atStart => exact ⟨0, _, [], false, none, 0, by omega, rfl, by simp, HST.out⟩
  case round =>
    obtain ⟨j, v, xs, full, ax, cx, hj, rfl, hxl, hst⟩ := hrel
    have HS := Lib.hid hst
    have hgr := hst.grown
    clear hst
    by_cases hlt : j < l.length
    · obtain ⟨b, o, rfl, hc⟩ := HR.out.at' (by omega)
      obtain ⟨e0, e1, e2, e3⟩ := actsV_cells l j hlt
      have x0 := hgr.cell (hc _ _ e0) (by simp)
      have x1 := hgr.cell (hc _ _ e1) (by simp)
      have x2 := hgr.cell (hc _ _ e2) (by simp)
      have x3 := hgr.cell (hc _ _ e3) (by simp)
      simp only [← Nat.add_assoc] at x1 x2 x3
      have hgood := HG.out _ (acts_mem l j hlt)
      have h300 := HL300.out _ (acts_mem l j hlt)
      have HGR := Lib.hid hgr
      clear hc e0 e1 e2 e3 hgr
      generalize l.getD j WAct.zero = x at *
      obtain ⟨hk, hb, hn, hB, hsm⟩ := hgood
      obtain ⟨t, ht, ht1, ht2, htw, htw2, d, hd, hdt⟩ := kind3 x.k hk.1 hk.2
      have HBX := Lib.hid hB
      have HBL : Hid (x.B ≠ [] → ∀ q, (Value.slice x.a x.B.length x.c).ownBlock = some q → q < w.heap.size) := Lib.hid (fun hne q hq => hB.lt (by simpa [bytesV] using hne) q hq)
      have hxn : xs.length ≤ 12080 := by omega
      clear hB hsm hk
      have hsz := HGR.out.size
      rcases (show d = 0 ∨ d = 1 ∨ d = 2 by omega) with rfl | rfl | rfl
      · go_wp2_with fail
        obtain ⟨W1, hW1⟩ : ∃ W1, wr.alloc (.cells #[.int .i64 x.k, .int .i64 x.b, .int .u64 (x.n : Int), .slice x.a x.B.length x.c] 31) = W1 := ⟨_, rfl⟩
        have hbx : Blk W1 wr.heap.size 31 [.int .i64 x.k, .int .i64 x.b, .int .u64 (x.n : Int), .slice x.a x.B.length x.c] := by rw [← hW1]; exact Blk.new wr _ _
        have hs1 : WSt w W1 w.heap.size Br v xs Q full ax cx := by rw [← hW1]; exact HS.out.later (World.grownBy_alloc _ _ none)
        have hnx : ¬ WOwn w.heap.size v wr.heap.size := fun h => by have := HS.out.wr.lt _ h; omega
        have HS1 := Lib.hid hs1
        have HBX1 := Lib.hid hbx
        have HNX := Lib.hid hnx
        have RB1 := Lib.hid (HBX.out.grown hs1.grown (by simp))
        rw [hW1]
        clear hW1 hs1 hbx hnx x0 x1 x2 x3
        refine (wnumber_any w.heap.size v xs Q full x.n x.b _ HS1.out.wr hn (by omega)).mono ?_
        rintro e w3 ⟨v', rfl, hw3, ht3, hs3⟩
        obtain ⟨hb3, hr3, hn3, ha3, hx3, hg3, hz3⟩ := HS1.out.step hw3 ht3 hs3
        have HX3 := Lib.hid (ht3.blk HBX1.out HNX.out)
        have y0 := HX3.out.cell (j := 0) rfl
        have y1 := HX3.out.cell (j := 1) rfl
        have y2 := HX3.out.cell (j := 2) rfl
        have y3 := HX3.out.cell (j := 3) rfl
        have q0 := hb3.cell (j := 0) rfl
        have q1 := hb3.cell (j := 1) rfl
        have q2 := hb3.cell (j := 2) rfl
        have q3 := hb3.frozen 2
        have HW3 := Lib.hid hw3
        have HB3 := Lib.hid hb3
        have HR3 := Lib.hid hr3
        have HN3 := Lib.hid hn3
        have HA3 := Lib.hid ha3
        have HXX3 : Hid (∀ b, (Value.slice ax xs.length cx).ownBlock = some b → ¬ WOwn w.heap.size v' b ∧ b ≠ Br ∧ b < w3.heap.size) := Lib.hid (fun b hb => ⟨hx3 b hb, (HS1.out.apX b hb).2, Nat.lt_of_lt_of_le (HS1.out.xlt b hb) hz3⟩)
        have HG3 := Lib.hid hg3
        have RB3 := Lib.hid (HBX.out.grown hg3 (by simp))
        have HRN := Lib.hid HS1.out.rnew
        clear hb3 hr3 hn3 ha3 hx3 hg3 hz3 hw3 ht3 hs3 HBX1 HNX HS1 HS
        cases hm : mayB x.b
        · have hpn : putNum xs Q full x.n x.b = (xs, true) := if_neg (by rw [hm]; exact Bool.false_ne_true)
          rw [hpn] at HW3
          have HRN0 := Lib.hid (rnumber_no x.n x.b hm)
          clear hpn hm
          go_wp2_with fail
          refine (HRN0.out _).mono ?_
          rintro e w4 ⟨rfl, rfl⟩
          have HS5 := Lib.hid (WSt.mark HG3.out HW3.out HB3.out HN3.out HA3.out HXX3.out HRN.out HR3.out)
          clear HW3 HB3 HR3 HN3 HA3 HXX3 HRN HX3 y0 y1 y2 y3 HRN0
          go_wp2_with fail
          obtain ⟨W5, hW5⟩ : ∃ W5, w3.setCell ⟨Br, 2, none⟩ (.bool true) = W5 := ⟨_, rfl⟩
          rw [hW5] at HS5 ⊢
          clear hW5 q0 q1 q2 q3
          obtain ⟨ys, hys⟩ : ∃ ys, xs = ys := ⟨_, rfl⟩
          obtain ⟨ff, hff⟩ : ∃ ff, true = ff := ⟨_, rfl⟩
          obtain ⟨ax5, hax⟩ : ∃ ax5, ax = ax5 := ⟨_, rfl⟩
          obtain ⟨cx5, hcx⟩ : ∃ cx5, cx = cx5 := ⟨_, rfl⟩
          subst hys hax hcx
          rw [hff] at HS5
          have hpl : xs.length ≤ xs.length + 8 := by omega
          have k0 := HS5.out.rblk.cell (j := 0) rfl
          have k2 := HS5.out.rblk.cell (j := 2) rfl
          have HGD : Hid (W5.grownBy W5.drew none) := Lib.hid (grownBy_drewN W5 1 none)
          subst hff
          have hcv0 : (convert 26 9 (.slice ax xs.length cx)).run Try.prog W5.drew = .ok (.string (strN xs)) W5.drew := conv_rds (HS5.out.rrd.drewN 1)
          go_wp2_with fail
          go_region_with (first | (go_at_call 16; refine (wfull_any _ _ _ _ _ _ (HS5.out.wr.grown HGD.out)).mono ?_; rintro e w6 ⟨rfl, rfl⟩) | (go_at_call 17; refine (wbytes_any _ _ _ _ _ _ (HS5.out.wr.grown HGD.out)).mono ?_; rintro e w6 ⟨a6, c6, rfl, o6, g6⟩; have hcv1 := conv_rds (Rds.of_owns o6); have hcv2 := conv_rds (HS5.out.rrd.grown (grownBy_trans HGD.out g6) (by simp)); have k06 := (HS5.out.rblk.grown (grownBy_trans HGD.out g6) (by simp)).cell (j := 0) rfl; have G6 := Lib.hid (grownBy_trans HGD.out g6); clear o6 g6))
          all_goals
            go_wp2
            go_roundw
            case rel => exact ⟨j + 1, _, xs, true, ax, cx, by omega, by go_num, by omega, HS5.out.later G6.out⟩
            case measure => simp [intOf]; omega
        · have hpn : putNum xs Q full x.n x.b = putW xs Q full (numB x.n x.b.toNat) := if_pos hm
          have hkk := of_decide_eq_true hm
          obtain ⟨q, hq⟩ := Int.eq_ofNat_of_zero_le (show 0 ≤ x.b by omega)
          have hq4 : q = 1 ∨ q = 2 ∨ q = 4 ∨ q = 8 := by omega
          rw [hpn, hq, Int.toNat_natCast] at HW3
          rw [hq]
          rw [hq] at y1 HX3
          have hlq := numB_len x.n q
          have HRN0 := Lib.hid (rnumber_any x.n q hn hq4)
          have hq8 : 1 ≤ q ∧ q ≤ 8 := by omega
          clear hpn hm hkk hq4 hq
          go_wp2_with fail
          refine (HRN0.out _).mono ?_
          rintro e w3b ⟨an, cn, rfl, on, gn⟩
          have hz : ((q : Int) == 0) = false := by rw [beq_eq_false_iff_ne]; omega
          have hz2 : (q == 0) = false := by rw [beq_eq_false_iff_ne]; omega
          have hbn := HB3.out.grown gn (by simp)
          have q0 := hbn.cell (j := 0) rfl
          have q1 := hbn.cell (j := 1) rfl
          have q2 := hbn.cell (j := 2) rfl
          have GN := Lib.hid gn
          have RN := Lib.hid (Rds.of_owns on)
          have RX := Lib.hid (HR3.out.grown gn (by simp))
          clear hbn gn on HRN0
          go_wp2_with fail
          have hput := rput_any xs (numB x.n q) Q full ax an cx cn w3b (by omega) (by rw [hlq]; omega) RX.out (by rw [hlq]; exact RN.out)
          rw [hlq] at hput
          refine hput.mono ?_
          rintro e w4 ⟨ax5, cx5, rfl, r4, hx4, g4⟩
          clear hput hz hz2
          have hx4' : ∀ b, (Value.slice ax5 (putW xs Q full (numB x.n q)).1.length cx5).ownBlock = some b → (Value.slice ax xs.length cx).ownBlock = some b ∨ (w3.heap.size ≤ b ∧ b < w4.heap.size) := fun b hb => (hx4 b hb).imp id (fun h => ⟨Nat.le_trans GN.out.size h.1, h.2⟩)
          have g34 := grownBy_trans GN.out g4
          clear hx4
          have hpl := putW_len xs (numB x.n q) Q full
          generalize hpw : putW xs Q full (numB x.n q) = pw at *
          obtain ⟨ys, ff⟩ := pw
          dsimp only at *
          clear hpw
          have b4 := HB3.out.grown g34 (by simp)
          have m0 := b4.cell (j := 0) rfl
          have m1 := b4.cell (j := 1) rfl
          have m2 := b4.cell (j := 2) rfl
          have n0 := b4.frozen 0
          have n1 := b4.frozen 1
          have n2 := b4.frozen 2
          have HS5 := Lib.hid (WSt.put (cx' := cx5) HG3.out HW3.out HB3.out HN3.out HA3.out HXX3.out HRN.out r4 hx4' g34)
          rw [hlq] at hpl
          clear r4 hx4' g4 g34 b4 HW3 HB3 HR3 HN3 HA3 HXX3 HRN HX3 y0 y1 y2 y3 q0 q1 q2 q3
          go_wp2_with fail
          obtain ⟨W5, hW5⟩ : ∃ W5, ((w4.setCell ⟨Br, 0, none⟩ (.slice ax5 ys.length cx5)).setCell ⟨Br, 1, none⟩ (.int .i64 Q)).setCell ⟨Br, 2, none⟩ (.bool ff) = W5 := ⟨_, rfl⟩
          rw [hW5] at HS5 ⊢
          clear hW5 m0 m1 m2 n0 n1 n2
          have k0 := HS5.out.rblk.cell (j := 0) rfl
          have k2 := HS5.out.rblk.cell (j := 2) rfl
          have HGD : Hid (W5.grownBy W5.drew none) := Lib.hid (grownBy_drewN W5 1 none)
          have hne : (ff != ff) = false := by simp
          have hcv0 : (convert 26 9 (.slice ax5 ys.length cx5)).run Try.prog W5.drew = .ok (.string (strN ys)) W5.drew := conv_rds (HS5.out.rrd.drewN 1)
          go_wp2_with fail
          go_region_with (first | (go_at_call 16; refine (wfull_any _ _ _ _ _ _ (HS5.out.wr.grown HGD.out)).mono ?_; rintro e w6 ⟨rfl, rfl⟩) | (go_at_call 17; refine (wbytes_any _ _ _ _ _ _ (HS5.out.wr.grown HGD.out)).mono ?_; rintro e w6 ⟨a6, c6, rfl, o6, g6⟩; have hcv1 := conv_rds (Rds.of_owns o6); have hcv2 := conv_rds (HS5.out.rrd.grown (grownBy_trans HGD.out g6) (by simp)); have k06 := (HS5.out.rblk.grown (grownBy_trans HGD.out g6) (by simp)).cell (j := 0) rfl; have G6 := Lib.hid (grownBy_trans HGD.out g6); clear o6 g6))
          all_goals
            go_wp2
            go_roundw
            case rel => exact ⟨j + 1, _, ys, ff, ax5, cx5, by omega, by go_num, by omega, HS5.out.later G6.out⟩
            case measure => simp [intOf]; omega
      · go_wp2_with fail
        obtain ⟨W1, hW1⟩ : ∃ W1, wr.alloc (.cells #[.int .i64 x.k, .int .i64 x.b, .int .u64 (x.n : Int), .slice x.a x.B.length x.c] 31) = W1 := ⟨_, rfl⟩
        have hbx : Blk W1 wr.heap.size 31 [.int .i64 x.k, .int .i64 x.b, .int .u64 (x.n : Int), .slice x.a x.B.length x.c] := by rw [← hW1]; exact Blk.new wr _ _
        have hs1 : WSt w W1 w.heap.size Br v xs Q full ax cx := by rw [← hW1]; exact HS.out.later (World.grownBy_alloc _ _ none)
        have hnx : ¬ WOwn w.heap.size v wr.heap.size := fun h => by have := HS.out.wr.lt _ h; omega
        have HS1 := Lib.hid hs1
        have HBX1 := Lib.hid hbx
        have HNX := Lib.hid hnx
        have RB1 := Lib.hid (HBX.out.grown hs1.grown (by simp))
        rw [hW1]
        clear hW1 hs1 hbx hnx x0 x1 x2 x3
        refine (wtext_any w.heap.size v xs x.B Q full x.a x.c _ HS1.out.wr (by omega) RB1.out).mono ?_
        rintro e w3 ⟨v', rfl, hw3, ht3, hs3⟩
        obtain ⟨hb3, hr3, hn3, ha3, hx3, hg3, hz3⟩ := HS1.out.step hw3 ht3 hs3
        have HX3 := Lib.hid (ht3.blk HBX1.out HNX.out)
        have y0 := HX3.out.cell (j := 0) rfl
        have y1 := HX3.out.cell (j := 1) rfl
        have y2 := HX3.out.cell (j := 2) rfl
        have y3 := HX3.out.cell (j := 3) rfl
        have q0 := hb3.cell (j := 0) rfl
        have q1 := hb3.cell (j := 1) rfl
        have q2 := hb3.cell (j := 2) rfl
        have q3 := hb3.frozen 2
        have HW3 := Lib.hid hw3
        have HB3 := Lib.hid hb3
        have HR3 := Lib.hid hr3
        have HN3 := Lib.hid hn3
        have HA3 := Lib.hid ha3
        have HXX3 : Hid (∀ b, (Value.slice ax xs.length cx).ownBlock = some b → ¬ WOwn w.heap.size v' b ∧ b ≠ Br ∧ b < w3.heap.size) := Lib.hid (fun b hb => ⟨hx3 b hb, (HS1.out.apX b hb).2, Nat.lt_of_lt_of_le (HS1.out.xlt b hb) hz3⟩)
        have HG3 := Lib.hid hg3
        have RB3 := Lib.hid (HBX.out.grown hg3 (by simp))
        have HRN := Lib.hid HS1.out.rnew
        clear hb3 hr3 hn3 ha3 hx3 hg3 hz3 hw3 ht3 hs3 HBX1 HNX HS1 HS
        have hpt : putText xs Q full x.B = putW xs Q full (numB x.B.length 2 ++ x.B) := if_neg (by omega)
        rw [hpt] at HW3
        clear hpt
        obtain ⟨i0, hi, hz0, hz1, hz2⟩ := info_parts infoByte
        have hlen : (numB x.B.length 2 ++ x.B).length = 2 + x.B.length := by rw [List.length_append, numB_len]
        have HGD3 : Hid (w3.grownBy w3.drew none) := Lib.hid (grownBy_drewN w3 1 none)
        have HLN := Lib.hid hlen
        clear hlen
        have HPUT : Hid (∀ (W : World) (ap : Option Addr) (cp : Nat), w3.grownBy W none → W.ownsRow w3.heap.size 5 1 (.slice ap (2 + x.B.length) cp) (2 + x.B.length) (bytesV (numB x.B.length 2) ++ bytesV x.B) → Calls Try.prog 13 #[.agg #[.slice ax xs.length cx, .int .i64 Q, .bool full], .slice ap (2 + x.B.length) cp] W fun e w' => ∃ a c, e = .returned (.agg #[.slice a (putW xs Q full (numB x.B.length 2 ++ x.B)).1.length c, .int .i64 Q, .bool (putW xs Q full (numB x.B.length 2 ++ x.B)).2]) ∧ Rds w' 1 (.slice a (putW xs Q full (numB x.B.length 2 ++ x.B)).1.length c) (putW xs Q full (numB x.B.length 2 ++ x.B)).1.length (bytesV (putW xs Q full (numB x.B.length 2 ++ x.B)).1) ∧ (∀ b, (Value.slice a (putW xs Q full (numB x.B.length 2 ++ x.B)).1.length c).ownBlock = some b → (Value.slice ax xs.length cx).ownBlock = some b ∨ (W.heap.size ≤ b ∧ b < w'.heap.size)) ∧ W.grownBy w' none) := Lib.hid (fun W ap cp hgW hoW => by
          have h := rput_any xs (numB x.B.length 2 ++ x.B) Q full ax ap cx cp W (by omega) (by rw [HLN.out]; omega) (HR3.out.grown hgW (by simp)) (by rw [HLN.out, bytesV_app]; exact Rds.of_owns hoW)
          rw [HLN.out] at h
          exact h)
        have hpl := putW_len xs (numB x.B.length 2 ++ x.B) Q full
        rw [HLN.out] at hpl
        generalize hpw : putW xs Q full (numB x.B.length 2 ++ x.B) = pw at *
        obtain ⟨ys, ff⟩ := pw
        dsimp only at *
        clear hpw HLN
        go_wp2_with fail
        refine wp_region_plan (fun w' => w'.cell? ⟨wr.heap.size, 3, none⟩ = some (.slice x.a x.B.length x.c) ∧ w'.cell? ⟨Br, 0, none⟩ = some (.slice ax xs.length cx) ∧ w'.cell? ⟨Br, 1, none⟩ = some (.int .i64 Q) ∧ w'.cell? ⟨Br, 2, none⟩ = some (.bool full)) 10 [([0, 1, 2, 3, 4, 6, 7], 5), ([], 8), ([], 9), ([], 10)] (by kernel_rfl) (by kernel_rfl) ?_
        refine wpPlan_seg ⟨y3, q0, q1, q2⟩ ?_
        repeat (apply wpRead_step rfl (by rfl); (· intro wS hSw; (try dsimp only at hSw); go_simp; (try with_reducible rfl)); simp only [Act.put, List.setIfInBounds_toArray, List.set_cons_zero, List.set_cons_succ])
        refine wpRead_nil ?_
        refine wpOp_list rfl (fun K hK => ?_)
        go_simp
        rw [IntKind.wrap_u64, Int.emod_eq_of_lt (by omega) (by omega)]
        refine (rnumber_any x.B.length 2 (by omega) (by omega) _).mono ?_
        rintro e wn ⟨an, cn, rfl, on, gn⟩
        dsimp only
        refine hK _ _ ?_
        clear hK K
        have ON := Lib.hid (ownsRow_mono on HGD3.out.size)
        have GN := Lib.hid (grownBy_trans HGD3.out gn)
        have q0 := (HB3.out.grown GN.out (by simp)).cell (j := 0) rfl
        have q1 := (HB3.out.grown GN.out (by simp)).cell (j := 1) rfl
        have q2 := (HB3.out.grown GN.out (by simp)).cell (j := 2) rfl
        have y3 := (HX3.out.grown GN.out (by simp)).cell (j := 3) rfl
        have gns := GN.out.size
        clear on gn
        try simp only [Act.put, List.setIfInBounds_toArray, List.set_cons_zero, List.set_cons_succ]
        refine wpPlan_seg ⟨y3, q0, q1, q2⟩ ?_
        refine wpRead_nil ?_
        refine wpOp_list rfl (fun K hK => ?_)
        refine step_append_rds (by rfl) _ _ 26 (by rfl) w3.heap.size 5 i0 (.int .u8 0) 1 1 Try.underlying26 hi hz0 hz1 hz2 rfl (by decide) (v := .slice an 2 cn) (by rfl) ON.out (by rfl) (RB3.out.grown GN.out (by simp)) (bytesV_one x.B) (by unfold maxLen; omega) (by omega) (by omega) ?_
        intro vp wp h1 h2 _
        obtain ⟨ap, cp, rfl⟩ := (Rds.of_owns h1).slice
        refine hK _ _ ?_
        clear hK K
        have GP := Lib.hid (grownBy_own2 GN.out ON.out (Nat.le_refl _) h2)
        have OP := Lib.hid h1
        have q0 := (HB3.out.grown GP.out (by simp)).cell (j := 0) rfl
        have q1 := (HB3.out.grown GP.out (by simp)).cell (j := 1) rfl
        have q2 := (HB3.out.grown GP.out (by simp)).cell (j := 2) rfl
        have y3 := (HX3.out.grown GP.out (by simp)).cell (j := 3) rfl
        clear h1 h2
        try simp only [Act.put, List.setIfInBounds_toArray, List.set_cons_zero, List.set_cons_succ]
        refine wpPlan_seg ⟨y3, q0, q1, q2⟩ ?_
        refine wpRead_nil ?_
        refine wpOp_list rfl (fun K hK => ?_)
        go_simp
        refine (HPUT.out _ _ _ GP.out OP.out).mono ?_
        rintro e w4 ⟨ax5, cx5, rfl, r4, hx4, g4⟩
        dsimp only
        refine hK _ _ ?_
        clear hK K
        have hx4' : ∀ b, (Value.slice ax5 ys.length cx5).ownBlock = some b → (Value.slice ax xs.length cx).ownBlock = some b ∨ (w3.heap.size ≤ b ∧ b < w4.heap.size) := fun b hb => (hx4 b hb).imp id (fun h => ⟨Nat.le_trans GP.out.size h.1, h.2⟩)
        have g34 := grownBy_trans GP.out g4
        have b4 := HB3.out.grown g34 (by simp)
        have m0 := b4.cell (j := 0) rfl
        have m1 := b4.cell (j := 1) rfl
        have m2 := b4.cell (j := 2) rfl
        have n0 := b4.frozen 0
        have n1 := b4.frozen 1
        have n2 := b4.frozen 2
        have y3 := (HX3.out.grown g34 (by simp)).cell (j := 3) rfl
        have HS5 := Lib.hid (WSt.put (cx' := cx5) (full' := ff) HG3.out HW3.out HB3.out HN3.out HA3.out HXX3.out HRN.out r4 hx4' g34)
        clear r4 hx4 hx4' g4 g34 b4
        try simp only [Act.put, List.setIfInBounds_toArray, List.set_cons_zero, List.set_cons_succ]
        refine wpPlan_seg ⟨y3, m0, m1, m2⟩ ?_
        refine wpRead_nil ?_
        refine wpOp_list rfl (fun K hK => ?_)
        go_simp
        refine hK _ _ ?_
        clear hK K
        refine wpPlan_nil (NoPanic.normal ?_)
        clear HW3 HB3 HR3 HN3 HA3 HXX3 HRN HX3 y0 y1 y2 y3 q0 q1 q2 HPUT
        go_wp2_with fail
        obtain ⟨W5, hW5⟩ : ∃ W5, ((w4.setCell ⟨Br, 0, none⟩ (.slice ax5 ys.length cx5)).setCell ⟨Br, 1, none⟩ (.int .i64 Q)).setCell ⟨Br, 2, none⟩ (.bool ff) = W5 := ⟨_, rfl⟩
        rw [hW5] at HS5 ⊢
        clear hW5 m0 m1 m2 n0 n1 n2
        have k0 := HS5.out.rblk.cell (j := 0) rfl
        have k2 := HS5.out.rblk.cell (j := 2) rfl
        have HGD : Hid (W5.grownBy W5.drew none) := Lib.hid (grownBy_drewN W5 1 none)
        have hne : (ff != ff) = false := by simp
        have hcv0 : (convert 26 9 (.slice ax5 ys.length cx5)).run Try.prog W5.drew = .ok (.string (strN ys)) W5.drew := conv_rds (HS5.out.rrd.drewN 1)
        go_wp2_with fail
        go_region_with (first | (go_at_call 16; refine (wfull_any _ _ _ _ _ _ (HS5.out.wr.grown HGD.out)).mono ?_; rintro e w6 ⟨rfl, rfl⟩) | (go_at_call 17; refine (wbytes_any _ _ _ _ _ _ (HS5.out.wr.grown HGD.out)).mono ?_; rintro e w6 ⟨a6, c6, rfl, o6, g6⟩; have hcv1 := conv_rds (Rds.of_owns o6); have hcv2 := conv_rds (HS5.out.rrd.grown (grownBy_trans HGD.out g6) (by simp)); have k06 := (HS5.out.rblk.grown (grownBy_trans HGD.out g6) (by simp)).cell (j := 0) rfl; have G6 := Lib.hid (grownBy_trans HGD.out g6); clear o6 g6))
        all_goals
          go_wp2
          go_roundw
          case rel => exact ⟨j + 1, _, ys, ff, ax5, cx5, by omega, by go_num, by omega, HS5.out.later G6.out⟩
          case measure => simp [intOf]; omega
      · go_wp2_with fail
        obtain ⟨W1, hW1⟩ : ∃ W1, wr.alloc (.cells #[.int .i64 x.k, .int .i64 x.b, .int .u64 (x.n : Int), .slice x.a x.B.length x.c] 31) = W1 := ⟨_, rfl⟩
        have hbx : Blk W1 wr.heap.size 31 [.int .i64 x.k, .int .i64 x.b, .int .u64 (x.n : Int), .slice x.a x.B.length x.c] := by rw [← hW1]; exact Blk.new wr _ _
        have hs1 : WSt w W1 w.heap.size Br v xs Q full ax cx := by rw [← hW1]; exact HS.out.later (World.grownBy_alloc _ _ none)
        have hnx : ¬ WOwn w.heap.size v wr.heap.size := fun h => by have := HS.out.wr.lt _ h; omega
        have HS1 := Lib.hid hs1
        have HBX1 := Lib.hid hbx
        have HNX := Lib.hid hnx
        have RB1 := Lib.hid (HBX.out.grown hs1.grown (by simp))
        rw [hW1]
        clear hW1 hs1 hbx hnx x0 x1 x2 x3
        refine (raw_any w.heap.size v xs x.B Q full x.a x.c _ HS1.out.wr (by omega) RB1.out (fun hne b hb => by have := HBL.out hne b hb; omega)).mono ?_
        rintro e w3 ⟨v', rfl, hw3, ht3, hs3⟩
        obtain ⟨hb3, hr3, hn3, ha3, hx3, hg3, hz3⟩ := HS1.out.step hw3 ht3 hs3
        have HX3 := Lib.hid (ht3.blk HBX1.out HNX.out)
        have y0 := HX3.out.cell (j := 0) rfl
        have y1 := HX3.out.cell (j := 1) rfl
        have y2 := HX3.out.cell (j := 2) rfl
        have y3 := HX3.out.cell (j := 3) rfl
        have q0 := hb3.cell (j := 0) rfl
        have q1 := hb3.cell (j := 1) rfl
        have q2 := hb3.cell (j := 2) rfl
        have q3 := hb3.frozen 2
        have HW3 := Lib.hid hw3
        have HB3 := Lib.hid hb3
        have HR3 := Lib.hid hr3
        have HN3 := Lib.hid hn3
        have HA3 := Lib.hid ha3
        have HXX3 : Hid (∀ b, (Value.slice ax xs.length cx).ownBlock = some b → ¬ WOwn w.heap.size v' b ∧ b ≠ Br ∧ b < w3.heap.size) := Lib.hid (fun b hb => ⟨hx3 b hb, (HS1.out.apX b hb).2, Nat.lt_of_lt_of_le (HS1.out.xlt b hb) hz3⟩)
        have HG3 := Lib.hid hg3
        have RB3 := Lib.hid (HBX.out.grown hg3 (by simp))
        have HRN := Lib.hid HS1.out.rnew
        clear hb3 hr3 hn3 ha3 hx3 hg3 hz3 hw3 ht3 hs3 HBX1 HNX HS1 HS
        go_wp2_with fail
        refine (rput_any xs x.B Q full ax x.a cx x.c _ (by omega) (by omega) HR3.out RB3.out).mono ?_
        rintro e w4 ⟨ax5, cx5, rfl, r4, hx4, g4⟩
        have hpl := putW_len xs x.B Q full
        generalize hpw : putW xs Q full x.B = pw at *
        obtain ⟨ys, ff⟩ := pw
        dsimp only at *
        clear hpw
        have b4 := HB3.out.grown g4 (by simp)
        have m0 := b4.cell (j := 0) rfl
        have m1 := b4.cell (j := 1) rfl
        have m2 := b4.cell (j := 2) rfl
        have n0 := b4.frozen 0
        have n1 := b4.frozen 1
        have n2 := b4.frozen 2
        have HS5 := Lib.hid (WSt.put (cx' := cx5) HG3.out HW3.out HB3.out HN3.out HA3.out HXX3.out HRN.out r4 hx4 g4)
        clear r4 hx4 g4 b4 HW3 HB3 HR3 HN3 HA3 HXX3 HRN HX3 y0 y1 y2 y3 q0 q1 q2 q3
        go_wp2_with fail
        obtain ⟨W5, hW5⟩ : ∃ W5, ((w4.setCell ⟨Br, 0, none⟩ (.slice ax5 ys.length cx5)).setCell ⟨Br, 1, none⟩ (.int .i64 Q)).setCell ⟨Br, 2, none⟩ (.bool ff) = W5 := ⟨_, rfl⟩
        rw [hW5] at HS5 ⊢
        clear hW5 m0 m1 m2 n0 n1 n2
        have k0 := HS5.out.rblk.cell (j := 0) rfl
        have k2 := HS5.out.rblk.cell (j := 2) rfl
        have HGD : Hid (W5.grownBy W5.drew none) := Lib.hid (grownBy_drewN W5 1 none)
        have hne : (ff != ff) = false := by simp
        have hcv0 : (convert 26 9 (.slice ax5 ys.length cx5)).run Try.prog W5.drew = .ok (.string (strN ys)) W5.drew := conv_rds (HS5.out.rrd.drewN 1)
        go_wp2_with fail
        go_region_with (first | (go_at_call 16; refine (wfull_any _ _ _ _ _ _ (HS5.out.wr.grown HGD.out)).mono ?_; rintro e w6 ⟨rfl, rfl⟩) | (go_at_call 17; refine (wbytes_any _ _ _ _ _ _ (HS5.out.wr.grown HGD.out)).mono ?_; rintro e w6 ⟨a6, c6, rfl, o6, g6⟩; have hcv1 := conv_rds (Rds.of_owns o6); have hcv2 := conv_rds (HS5.out.rrd.grown (grownBy_trans HGD.out g6) (by simp)); have k06 := (HS5.out.rblk.grown (grownBy_trans HGD.out g6) (by simp)).cell (j := 0) rfl; have G6 := Lib.hid (grownBy_trans HGD.out g6); clear o6 g6))
        all_goals
          go_wp2
          go_roundw
          case rel => exact ⟨j + 1, _, ys, ff, ax5, cx5, by omega, by go_num, by omega, HS5.out.later G6.out⟩
          case measure => simp [intOf]; omega
    · obtain rfl : j = l.length := by omega
      go_wp2_with fail
      refine (awake_any _).mono ?_
      rintro e w3 ⟨rfl, g3⟩
      go_wp2
      go_ret
      exact ⟨rfl, below_grownBy (grownBy_trans HS.out.grown g3)⟩

end Go.Proofs.Ytmmkfchijafjeaa
