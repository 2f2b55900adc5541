/- The laws of layer 16: the walk of TallyCounts. -/
import Derived.Test.YtndccejgljknkaaTally8
import Derived.Deep.RegionWith
import Derived.WalkSmall
namespace Go.Proofs.Ytndccejgljknkaa
open Go.RowKit Go.WideShapes Go.ChangeShapes Go.ChangeAt

theorem pairs_cell (ps : List (Int × Int)) (k : Nat) (h : k < ps.length) : (ps.flatMap (fun x => [Value.int .i64 x.1, Value.int .i64 x.2]))[k * 2]? = some (.int .i64 (ps.getD k (0, 0)).1) ∧ (ps.flatMap (fun x => [Value.int .i64 x.1, Value.int .i64 x.2]))[k * 2 + 1]? = some (.int .i64 (ps.getD k (0, 0)).2) := by
  have h1 : ps[k]? = some (ps.getD k (0, 0)) := by simp [List.getD, h]
  exact ⟨flatMap_get (fun x : Int × Int => [Value.int .i64 x.1, Value.int .i64 x.2]) 2 (fun _ => rfl) ps k 0 _ h1 (by omega), flatMap_get (fun x : Int × Int => [Value.int .i64 x.1, Value.int .i64 x.2]) 2 (fun _ => rfl) ps k 1 _ h1 (by omega)⟩

/-- What a tally holds and what the reference holds: alike. -/
structure Both (w0 w : World) (v : Value) (cs : List Int) : Prop where
  tl : TL w (w0.heap.size + 1) w0.heap.size cs
  own : w.ownsRow (w0.heap.size + 2) 3 1 v cs.length (cs.map (Value.int .i64))
  below : Below w0.heap.size w0 w
  big : w0.heap.size + 2 ≤ w.heap.size

theorem Both.ne {w0 w : World} {v : Value} {cs : List Int} (h : Both w0 w v cs) : ∀ g, v.ownBlock = some g → w0.heap.size + 2 ≤ g := fun g hg => (h.own.lt g hg).1

/-- One count: the reference first, then the tally. -/
theorem Both.ref {w0 w w' : World} {v v' : Value} {cs cs' : List Int} (h : Both w0 w v cs) (ho : w'.ownsRow w.heap.size 3 1 v' cs'.length (cs'.map (Value.int .i64))) (hg : w.grownBy w' none) :
    TL w' (w0.heap.size + 1) w0.heap.size cs ∧ w'.ownsRow (w0.heap.size + 2) 3 1 v' cs'.length (cs'.map (Value.int .i64)) ∧ Below w0.heap.size w0 w' ∧ w0.heap.size + 2 ≤ w'.heap.size :=
  ⟨h.tl.grown hg (by simp) (by simp), ownsRow_mono ho h.big, h.below.grown hg h.below.size (by simp), Nat.le_trans h.big hg.size⟩

theorem owns_keep {w w' : World} {base a : Nat} {e : TypeId} {sz n : Nat} {v : Value} {xs : List Value} (h : w.ownsRow base e sz v n xs) (hg : w.grownBy w' (some a)) (ha : a < base) : w'.ownsRow base e sz v n xs := by
  refine h.kept hg ?_
  rcases hv : v.ownBlock with _ | g
  · exact .inl rfl
  · right
    have := (h.lt g hv).1
    simp
    omega

theorem same_zeros (n : Nat) (v u : Value) (w : World) (hv : Rds w 1 v n (List.replicate n (Value.int .i64 0))) (hu : Rds w 1 u n (List.replicate n (Value.int .i64 0))) :
    Calls Try.prog 12 #[v, u] w fun e w' => e = .returned (.bool true) ∧ ∃ m, w' = w.drewN m := by
  have h := same_any v u (List.replicate n 0) (List.replicate n 0) w (by simpa using hv) (by simpa using hu)
  simpa using h

theorem zeros_new (n : Nat) (w : World) (hn : n ≤ maxLen := by (unfold maxLen; omega)) : Rds (w.alloc (.cells (List.replicate n (Value.int .i64 0)).toArray 3)) 1 (.slice (some ⟨w.heap.size, 0, none⟩) n n) n (List.replicate n (Value.int .i64 0)) :=
  Rds.of_blk (Blk.new w 3 _) (by simp) hn

set_option maxRecDepth 100000 in
set_option maxHeartbeats 2000000 in
theorem tallyCounts_yes (n : Nat) (hn : 1 ≤ n ∧ n ≤ 64) (ps : List (Int × Int)) (a : Option Addr) (cap : Nat) (was : List Int) (ua : Option Addr) (ucap : Nat) (w : World) (hlen : ps.length ≤ 100) (hlen2 : was.length ≤ 100)
    (hr : Rds w 2 (.slice a ps.length cap) ps.length (ps.flatMap fun x => [Value.int .i64 x.1, Value.int .i64 x.2])) (hx : ∀ x ∈ ps, (-9223372036854775808 ≤ x.1 ∧ x.1 ≤ 9223372036854775807) ∧ (-9223372036854775808 ≤ x.2 ∧ x.2 ≤ 9223372036854775807))
    (hu : Rds w 1 (.slice ua was.length ucap) was.length (was.map (Value.int .i64))) (hwas : ∀ c ∈ was, -9223372036854775808 ≤ c ∧ c ≤ 9223372036854775807) :
    Calls Try.prog 5 #[.int .i64 n, .slice a ps.length cap, .slice ua was.length ucap] w fun e w' => e = .returned (.bool true) ∧ Below w.heap.size w w' := by
  obtain ⟨i0, hi, hz0, hz1, hz2⟩ := info_parts infoInt
  have hmk : ∀ W : World, (Instr.makeSlice 22 (.int .i64 n) (.int .i64 n)).run Try.prog W = .ok (.slice (some ⟨W.heap.size, 0, none⟩) n n) (W.alloc (.cells (List.replicate n (Value.int .i64 0)).toArray 3)) := by
    intro W
    have := run_makeSlice (P := Try.prog) W 22 3 i0 (.int .i64 0) Try.underlying22 hi hz0 .i64 .i64 n n (by omega) (by omega) (by rw [hz1]; omega) (by rw [hz2]; omega) (by omega)
    rw [this, hz1]
    rw [show (madeCells (Value.int .i64 0).cells ((n : Int).toNat * 1)) = (List.replicate n (Value.int .i64 0)).toArray from by rw [Int.toNat_natCast, Nat.mul_one]; exact madeCells_one n]
    simp
  have hl1 : ¬ (100 : Int) < ps.length := by omega
  have hl2 : ¬ (100 : Int) < was.length := by omega
  have hn1 : ¬ (n : Int) < 1 := by omega
  have hn2 : ¬ (64 : Int) < n := by omega
  have HMK := Lib.hid hmk
  have HR := Lib.hid hr
  have HU := Lib.hid hu
  have HX := Lib.hid hx
  have HWAS := Lib.hid hwas
  clear hr hu hx hwas
  go_enter Try.func5, Try.ntmps5
  go_wp2_with (go_at_call 7; refine (new_tl n _ hn).mono ?_; rintro e w1 ⟨rfl, t1, g1⟩)
  have hs1 := g1.size
  have hB : Both w (w1.alloc (.cells (List.replicate n (Value.int .i64 0)).toArray 3)) (.slice (some ⟨w1.heap.size, 0, none⟩) n n) (List.replicate n 0) := by
    have hlt := t1.head.lt
    refine ⟨t1.grown (World.grownBy_alloc _ _ none) (by simp) (by simp), ?_, (below_grownBy g1).alloc hs1 _, by simp; omega⟩
    have := World.ownsRow_lit (base := w.heap.size + 2) (e := 3) (size := 1) w1 (List.replicate n (Value.int .i64 0)).toArray n (by omega) (by unfold maxLen; omega) (by simp)
    simpa using this
  have HB : Hid (Both w (w1.alloc (.cells (Array.replicate n (Value.int .i64 0)) 3)) (.slice (some ⟨w1.heap.size, 0, none⟩) n n) (List.replicate n 0)) := Lib.hid (by simpa using hB)
  clear hB t1
  go_loopw [8, 9] (fun r i wr => ∃ (k g c : Nat) (cs : List Int), k ≤ ps.length ∧ i = .int .i64 k ∧ r = .slice (some ⟨g, 0, none⟩) n c ∧ cs.length = n ∧ Both w wr r cs) (fun _ i _ => ps.length - (intOf i).toNat)
  case atStart => exact ⟨0, _, n, _, Nat.zero_le _, rfl, rfl, by simp, HB.out⟩
  case round =>
    obtain ⟨k, g, c, cs, hk, rfl, rfl, hcn, hb⟩ := hrel
    have HB2 := Lib.hid hb
    have HN := Lib.hid hcn
    have hB := hb.below
    have HBel := Lib.hid hB
    clear HB hmk hb hcn hB
    by_cases hlt : k < ps.length
    · obtain ⟨b, off, rfl, _⟩ := HR.out.at' (by omega)
      obtain ⟨b', off', he', hc⟩ := (HR.out.later HBel.out).at' (by omega)
      simp only [Option.some.injEq, Addr.mk.injEq] at he'
      obtain ⟨rfl, rfl, _⟩ := he'
      have hpc := pairs_cell ps k hlt
      have hc0 := hc _ _ hpc.1
      have hc1 := hc _ _ hpc.2
      rw [← Nat.add_assoc] at hc1
      have hbl : b < w.heap.size := HR.out.lt (by intro h; rw [h] at hpc; simp at hpc) b rfl
      have hxb := HX.out (ps.getD k (0, 0)) (by simp [hlt, List.getD])
      clear hc hpc
      obtain ⟨x, hx1⟩ : ∃ x, (ps.getD k (0, 0)).1 = x := ⟨_, rfl⟩
      obtain ⟨y, hy1⟩ : ∃ y, (ps.getD k (0, 0)).2 = y := ⟨_, rfl⟩
      rw [hx1] at hc0 hxb
      rw [hy1] at hc1 hxb
      clear hx1 hy1
      by_cases hin : (0 ≤ x ∧ x < n) ∧ 0 ≤ y
      · obtain ⟨⟨hx0, hxn⟩, hy0⟩ := hin
        obtain ⟨kk, rfl⟩ := Int.eq_ofNat_of_zero_le hx0
        have hkk : kk < cs.length := by rw [HN.out]; omega
        have hrd : Rds wr.drew 1 (.slice (some ⟨g, 0, none⟩) n c) cs.length (cs.map (Value.int .i64)) := Rds.of_owns HB2.out.own
        have hcall := rsadd_yes (.slice (some ⟨g, 0, none⟩) n c) cs kk y wr.drew hrd HB2.out.tl.few hkk hy0 (by omega) (good_at HB2.out.tl.good kk)
        have HCALL := Lib.hid hcall
        have HKK := Lib.hid hkk
        clear hcall hrd hkk
        go_wp2_with fail
        go_region_with (go_at_call 14; refine HCALL.out.mono ?_; rintro e w2 ⟨v', rfl, o2, g2⟩; rw [HN.out] at o2; obtain ⟨g', c', rfl⟩ := ownsRow_pos o2 (by omega))
        all_goals
          have hg2 : wr.grownBy w2 none := grownBy_trans (grownBy_drewN wr 1 none) g2
          have hc0' : w2.cell? ⟨b, off + k * 2, none⟩ = some (.int .i64 kk) := hg2.cell hc0 (by simp)
          have hc1' : w2.cell? ⟨b, off + k * 2 + 1, none⟩ = some (.int .i64 y) := hg2.cell hc1 (by simp)
          have HT3 : Hid (TL w2 (w.heap.size + 1) w.heap.size cs) := Lib.hid (HB2.out.tl.grown hg2 (by simp) (by simp))
          have HO3 : Hid (w2.ownsRow (w.heap.size + 2) 3 1 (.slice (some ⟨g', 0, none⟩) n c') n ((cs.set kk (capN (cs.getD kk 0) y)).map (Value.int .i64))) := Lib.hid (ownsRow_mono o2 (Nat.le_trans HB2.out.big (Nat.le_refl _)))
          have HB3 : Hid (Below w.heap.size w w2) := Lib.hid (HB2.out.below.grown hg2 HB2.out.below.size (by simp))
          have HS3 : Hid (w.heap.size + 2 ≤ w2.heap.size) := Lib.hid (Nat.le_trans HB2.out.big hg2.size)
          clear hc0 hc1 HB2 HBel HCALL o2 g2 hg2
          go_wp2_with fail
          go_still_tail 11, (by kernel_rfl)
          go_wp2_with fail
          refine (add_tl (TL.grown HT3.out (grownBy_drewN w2 1 none) (by simp) (by simp)) kk y HKK.out hy0 (by omega)).mono ?_
          rintro e w3 ⟨rfl, t4, g4⟩
          have g5 : w2.grownBy w3 (some w.heap.size) := grownBy_trans (grownBy_drewN w2 1 _) g4
          have HFIN : Hid (Both w w3 (.slice (some ⟨g', 0, none⟩) n c') (cs.set kk (capN (cs.getD kk 0) y))) := Lib.hid ⟨t4, by simpa [HN.out] using owns_keep HO3.out g5 (by omega), HB3.out.grown g5 HB3.out.size (by simp), Nat.le_trans HS3.out g5.size⟩
          clear t4 g4 g5
          go_wp2
          go_roundw
          case rel => exact ⟨k + 1, g', c', _, by omega, by go_num, rfl, by simp [HN.out], HFIN.out⟩
          case measure => simp [intOf]; omega
      · have hno : inB x cs.length = false ∨ y < 0 := by
          rw [HN.out]
          by_cases h1 : 0 ≤ x ∧ x < n
          · right
            by_cases h2 : 0 ≤ y
            · exact absurd ⟨h1, h2⟩ hin
            · omega
          · left
            simp [inB, h1]
        have HNO := Lib.hid hno
        clear hno hin
        have hrd : Rds wr.drew 1 (.slice (some ⟨g, 0, none⟩) n c) cs.length (cs.map (Value.int .i64)) := Rds.of_owns HB2.out.own
        have hcall := rsadd_no (.slice (some ⟨g, 0, none⟩) n c) cs x y wr.drew hrd HNO.out
        have HCALL := Lib.hid hcall
        clear hcall hrd
        go_wp2_with fail
        go_region_with (go_at_call 14; refine HCALL.out.mono ?_; rintro e w2 ⟨rfl, rfl⟩)
        all_goals
          have hc0' : wr.drew.cell? ⟨b, off + k * 2, none⟩ = some (.int .i64 x) := hc0
          have hc1' : wr.drew.cell? ⟨b, off + k * 2 + 1, none⟩ = some (.int .i64 y) := hc1
          have HB3 : Hid (Both w wr.drew (.slice (some ⟨g, 0, none⟩) n c) cs) := Lib.hid ⟨HB2.out.tl.grown (grownBy_drewN wr 1 none) (by simp) (by simp), HB2.out.own, below_drewN HB2.out.below 1, HB2.out.big⟩
          clear hc0 hc1 HB2 HBel HCALL
          generalize wr.drew = wd at *
          go_wp2_with fail
          go_still_tail 11, (by kernel_rfl)
          go_wp2_with fail
          refine (add_no (TL.grown HB3.out.tl (grownBy_drewN wd 1 none) (by simp) (by simp)) x y HNO.out).mono ?_
          rintro e w3 ⟨rfl, rfl⟩
          go_wp2
          go_roundw
          case rel => exact ⟨k + 1, g, c, cs, by omega, by go_num, rfl, HN.out, ⟨HB3.out.tl.grown (grownBy_drewN wd 1 none) (by simp) (by simp), HB3.out.own, below_drewN HB3.out.below 1, HB3.out.big⟩⟩
          case measure => simp [intOf]; omega
    · obtain rfl : k = ps.length := by omega
      have HMK2 := HMK
      clear HR HX HMK
      go_wp2
      obtain ⟨wo, rfl⟩ : ∃ wo : World, wo = wr := ⟨_, rfl⟩
      go_loopw [13] (fun i wx => ∃ j : Nat, j ≤ n ∧ i = .int .i64 j ∧ Both w wx (.slice (some ⟨g, 0, none⟩) n c) cs) (fun i _ => n - (intOf i).toNat)
      case atStart => exact ⟨0, Nat.zero_le _, rfl, HB2.out⟩
      case round =>
        obtain ⟨j, hj, rfl, hbx⟩ := hrel
        have HB3 := Lib.hid hbx
        clear hbx HB2 HBel
        by_cases hjn : j < n
        · have hcell : wr.cell? ⟨g, j, none⟩ = some (.int .i64 (cs.getD j 0)) := by
            have h1 := HB3.out.own
            rw [HN.out] at h1
            rw [h1.cellAt j (by omega), getD_map_int _ _ (by rw [HN.out]; omega)]
          have hget : ∀ q, Calls Try.prog 8 #[.pointer (some ⟨w.heap.size + 1, 0, none⟩), .int .i64 j] (wr.drewN q) fun e w' => e = .returned (.int .i64 (cs.getD j 0)) ∧ w' = wr.drewN q := fun q =>
            (get_tl (HB3.out.tl.grown (grownBy_drewN wr q none) (by simp) (by simp)) j (by rw [HN.out]; exact hjn)).mono fun e w' ⟨h1, h2⟩ => ⟨h1, h2.symm⟩
          have HGET := Lib.hid hget
          have HB4 : ∀ q, Both w (wr.drewN q) (.slice (some ⟨g, 0, none⟩) n c) cs := fun q => ⟨HB3.out.tl.grown (grownBy_drewN wr q none) (by simp) (by simp), HB3.out.own, below_drewN HB3.out.below q, HB3.out.big⟩
          have HB5 := Lib.hid HB4
          clear hget HB4
          generalize cs.getD j 0 = r at *
          have hb : (r != r) = false := by simp
          go_wp2_with fail
          go_quiet ((go_at_call 8; exact Calls.quiet_of_same (HGET.out _)))
          go_wp2
          go_roundw
          case rel => exact ⟨j + 1, by omega, by go_num, HB5.out _⟩
          case measure => simp [intOf]; omega
        · have hcu : wr.heap.size = wr.heap.size := rfl
          have hfalse1 : inB (-1) cs.length = false := by simp [inB]
          have hfalse2 : inB n cs.length = false := by simp [inB, HN.out]
          have F1 := Lib.hid hfalse1
          have F2 := Lib.hid hfalse2
          clear hfalse1 hfalse2 hcu
          obtain rfl : j = n := by omega
          obtain ⟨wo2, rfl⟩ : ∃ wo2 : World, wo2 = wr := ⟨_, rfl⟩
          go_wp2_with fail
          refine (get_no HB3.out.tl (-1) F1.out).mono ?_
          rintro e w3 ⟨rfl, rfl⟩
          go_wp2_with fail
          refine (get_no HB3.out.tl j F2.out).mono ?_
          rintro e w3 ⟨rfl, rfl⟩
          go_wp2_with fail
          refine (tall _ _ cs HB3.out.tl.few _ HB3.out.tl.head HB3.out.tl.row).mono ?_
          rintro e w4 ⟨v4, rfl, o4, g4⟩
          have ho4 := HB3.out.own
          have R1 := Rds.of_owns o4
          have R2 := Rds.grown (Rds.of_owns ho4) g4 (by simp)
          go_wp2_with fail
          refine (same_any _ _ cs cs _ R1 R2).mono ?_
          rintro e w5 ⟨rfl, n5, rfl⟩
          have hdd : decide (cs = cs) = true := by simp
          rw [hdd]
          clear hdd
          have g5 : wo2.grownBy (w4.drewN n5) none := grownBy_trans g4 (grownBy_drewN _ _ _)
          have t5 := HB3.out.tl.grown g5 (by simp) (by simp)
          have u5 := (HU.out.later HB3.out.below).grown g5 (by simp)
          clear R1 R2 o4 g4
          generalize w4.drewN n5 = w5 at *
          go_wp2_with fail
          refine (tsince _ _ _ _ _ cs was t5.few t5.good _ t5.head t5.row u5).mono ?_
          rintro e w6 ⟨v6, rfl, o6, b6⟩
          have g6 := grownBy_trans g5 (grownBy_below b6)
          have u6 := (HU.out.later HB3.out.below).grown g6 (by simp)
          have R6 := Rds.grown (Rds.of_owns ho4) g6 (by simp)
          have R7 : Rds w6 1 (.slice (some ⟨g, 0, none⟩) cs.length c) cs.length (cs.map (Value.int .i64)) := by rw [HN.out] at R6 ⊢; exact R6
          have hrs := rssince _ _ _ _ cs was t5.pos t5.few t5.good w6 HWAS.out R7 u6
          rw [HN.out] at hrs
          have HRS := Lib.hid hrs
          clear hrs R6 R7
          go_wp2_with fail
          refine HRS.out.mono ?_
          rintro e w7 ⟨v7, rfl, o7, g7⟩
          have S1 := Rds.grown (Rds.of_owns o6) g7 (by simp)
          have S2 := Rds.of_owns o7
          rw [← HN.out] at S2
          have hul := upto_length (sinceF cs was) cs.length
          have S1' : Rds w7 1 v6 (upto (sinceF cs was) cs.length).length ((upto (sinceF cs was) cs.length).map (Value.int .i64)) := by rw [hul]; exact S1
          have S2' : Rds w7 1 v7 (upto (sinceF cs was) cs.length).length ((upto (sinceF cs was) cs.length).map (Value.int .i64)) := by rw [hul]; exact S2
          clear S1 S2 hul
          go_wp2_with fail
          refine (same_any _ _ _ _ _ S1' S2').mono ?_
          rintro e w8 ⟨rfl, n8, rfl⟩
          have hdd : decide (upto (sinceF cs was) cs.length = upto (sinceF cs was) cs.length) = true := by simp
          rw [hdd]
          have g8 : wo2.grownBy (w7.drewN n8) none := grownBy_trans (grownBy_trans g6 g7) (grownBy_drewN _ _ _)
          have t8 := HB3.out.tl.grown g8 (by simp) (by simp)
          have G8 := Lib.hid g8
          clear hdd S1' S2' o7 g7 HRS b6 o6 g6 t5 g5 ho4 g8
          generalize w7.drewN n8 = w8 at *
          go_wp2_with fail
          refine (treset _ _ cs t8.few t8.pos _ t8.head t8.row).mono ?_
          rintro e w9 ⟨rfl, g9, k9⟩
          have t9 : TL w9 (w.heap.size + 1) w.heap.size (List.replicate j 0) := by
            refine ⟨?_, ?_, by omega, ?_, by simp; omega, by simp; omega⟩
            · have := t8.head.grown g9 (by simp)
              rw [HN.out] at this
              simpa using this
            · rw [HN.out] at k9
              simpa using k9
            · intro c hc
              simp at hc
              omega
          have b9 : Below w.heap.size w w9 := (HB3.out.below.grown G8.out HB3.out.below.size (by simp)).grown g9 (Nat.le_trans HB3.out.below.size G8.out.size) (by simp)
          have hall : ∀ W' : World, w9.grownBy W' none → Calls Try.prog 11 #[.pointer (some ⟨w.heap.size + 1, 0, none⟩)] W' fun e w' => ∃ v', e = .returned v' ∧ Rds w' 1 v' j (List.replicate j (Value.int .i64 0)) ∧ W'.grownBy w' none := by
            intro W' hW'
            have t := t9.grown hW' (by simp) (by simp)
            refine (tall _ _ _ t.few W' t.head t.row).mono ?_
            rintro e w' ⟨v', he, o', g'⟩
            exact ⟨v', he, by simpa using Rds.of_owns o', g'⟩
          have HALL := Lib.hid hall
          have hsame := @same_zeros j
          have HSAME := Lib.hid hsame
          have B9 := Lib.hid b9
          have hmk := HMK2.out
          clear hall hsame b9 t9 k9 g9 t8 G8
          go_wp2_with fail
          go_region_with (first
            | (go_at_call 11; refine (HALL.out _ ?_).mono ?_; (first | exact grownBy_drewN w9 1 none | exact grownBy_trans (grownBy_drewN w9 1 none) (World.grownBy_alloc _ _ none)); rintro e wA ⟨vA, rfl, rA, gA⟩)
            | (go_at_call 12; go_loud (refine (HSAME.out _ _ _ ?_ ?_).mono ?_); (first | exact rA | exact rA.alloc _); (first | exact zeros_new j _ (by unfold maxLen; omega) | exact Rds.grown (w := w9.drew.alloc _) (zeros_new j w9.drew (by unfold maxLen; omega)) gA (by simp)); rintro e wS ⟨rfl, nS, rfl⟩)
            | (go_at_call 10; refine (awake_any _).mono ?_; rintro e wB ⟨rfl, gB⟩))
          all_goals
            go_wp2
            go_ret
            refine ⟨rfl, B9.out.grown (w' := wB) (row := none) ?_ B9.out.size (by simp)⟩
            first
              | exact grownBy_trans (grownBy_trans (grownBy_trans (grownBy_trans (grownBy_drewN w9 1 none) gA) (World.grownBy_alloc _ _ none)) (grownBy_drewN _ nS none)) gB
              | exact grownBy_trans (grownBy_trans (grownBy_trans (grownBy_trans (grownBy_drewN w9 1 none) (World.grownBy_alloc _ _ none)) gA) (grownBy_drewN _ nS none)) gB

end Go.Proofs.Ytndccejgljknkaa
