/- Layer 23, the reference: Pack. -/
import Derived.Test.YtfdkncabicmmiaaSkR3
import Derived.Test.YtfdkncabicmmiaaRowB
import Derived.Test.YtfdkncabicmmiaaStepApp
namespace Go.Proofs.Ytfdkncabicmmiaa
open Go.RowKit

set_option maxRecDepth 100000 in
set_option maxHeartbeats 4000000 in
theorem rpackS_any (m age : Nat) (C : Nat → Nat) (G c : Nat) (hm : Pow2 m) (h15 : ∀ k, C k ≤ 15) (hag : age ≤ 10 * m) (w : World) (hr : RS w m C G c) :
    Calls Try.prog 22 #[rvV m age G c] w fun e w' => ∃ a' c', e = .returned (.slice a' (packS m age C).length c') ∧ Rds w' 1 (.slice a' (packS m age C).length c') (packS m age C).length (bytesV (packS m age C)) ∧ w.grownBy w' none := by
  obtain ⟨i0, hi, hz0, hz1, hz2⟩ := info_parts infoByte
  have hl := pow2_le hm
  have HR := Lib.hid hr
  have H15 := Lib.hid h15
  have HK := Lib.hid (packK_len m age C)
  have HN := Lib.hid (fun N => packK_next (m := m) (age := age) h15 N)
  have HZ := Lib.hid (packK_zero m age C)
  have hwm : IntKind.u64.wrap (m : Int) = m := IntWalk.u64_in _ ⟨by omega, by omega⟩
  have hwa : IntKind.u64.wrap (age : Int) = age := IntWalk.u64_in _ ⟨by omega, by omega⟩
  clear hr h15
  unfold rvV
  go_enter Try.func22, Try.ntmps22
  go_wp2_with fail
  obtain ⟨w1, hw1⟩ : ∃ w1, w.alloc (.cells #[.int .i64 (m : Int), .int .i64 (age : Int), .slice (some ⟨G, 0, none⟩) (4 * m) c] 40) = w1 := ⟨_, rfl⟩
  have hb1 : Blk w1 w.heap.size 40 [.int .i64 (m : Int), .int .i64 (age : Int), .slice (some ⟨G, 0, none⟩) (4 * m) c] := by rw [← hw1]; exact Blk.new w _ _
  have hg1 : w.grownBy w1 none := by rw [← hw1]; exact World.grownBy_alloc _ _ none
  rw [hw1]
  have HB := Lib.hid hb1
  have HG := Lib.hid hg1
  clear hw1 hb1 hg1
  refine (rnumber_any m 2 (by omega) (by omega) _).mono ?_
  rintro e n0 ⟨an0, cn0, rfl, on0, gn0⟩
  have rk : RowB w1.heap.size w1 n0 (.slice an0 2 cn0) (numB m 2) := ⟨by rw [numB_len]; exact on0, gn0, Nat.le_refl _, gn0.size⟩
  have RK := Lib.hid rk
  have b1 := (HB.out.grown gn0 (by simp)).cell (j := 1) rfl
  clear rk on0 gn0
  go_wp2_with fail
  refine (rnumber_any age 4 (by omega) (by omega) _).mono ?_
  rintro e n1 ⟨an1, cn1, rfl, on1, gn1⟩
  have RN := Lib.hid (Rds.of_owns on1)
  have GN := Lib.hid gn1
  have OK := Lib.hid (owns_grown RK.out.own gn1)
  rw [numB_len] at OK
  clear on1 gn1 b1
  have hs0 : numB m 2 ++ numB age 4 = packK m age C 0 := HZ.out.symm
  have hl0 := HK.out 0
  go_wp2_with (at_builtin; refine wpList_append_rds_at rfl _ _ 32 rfl w1.heap.size 5 i0 (.int .u8 0) 1 1 Try.underlying32 hi hz0 hz1 hz2 rfl (by decide) (v := .slice an0 2 cn0) (n := 2) (xs := bytesV (numB m 2)) (sv := .slice an1 4 cn1) rfl OK.out rfl RN.out (bytesV_one _) (by unfold maxLen; omega) (by omega) (Nat.le_trans RK.out.size GN.out.size) ?_; intro vp w0x h1 h2 h3; rw [← bytesV_app, hs0, show 2 + 4 = (packK m age C 0).length by omega] at h1; obtain ⟨a0, c0, rfl⟩ := (Rds.of_owns h1).slice; have RK0 := Lib.hid (RK.out.app GN.out h1 h2); clear h1 h2 h3 RK OK RN GN)
  clear hs0 hl0 HZ
  go_loopw [3, 4] (fun y i wr => ∃ (k : Nat) (ay : Option Addr) (cy : Nat), k ≤ 2 * m ∧ i = .int .i64 ((2 * k : Nat) : Int) ∧ y = .slice ay (packK m age C k).length cy ∧ RowB w1.heap.size w1 wr (.slice ay (packK m age C k).length cy) (packK m age C k)) (fun _ i _ => 4 * m - (intOf i).toNat)
  case atStart => exact ⟨0, a0, c0, by omega, rfl, rfl, RK0.out⟩
  case round =>
    clear RK0
    obtain ⟨k, ay, cy, hk, rfl, rfl, hrk⟩ := hrel
    have b2 := (HB.out.grown hrk.grown (by simp)).cell (j := 2) rfl
    have RK := Lib.hid hrk
    have hkl := HK.out k
    clear hrk
    by_cases hlt : k < 2 * m
    · have hd : decide (((2 * k : Nat) : Int) < ((4 * m : Nat) : Int)) = true := decide_eq_true (by omega)
      have x0 := ((HR.out.grown HG.out (by simp)).grown RK.out.grown (by simp))
      have x1 := RS.at x0 (2 * k) (by omega)
      have x2 := RS.at x0 (2 * k + 1) (by omega)
      clear x0
      have hn := HN.out k
      have h0 := H15.out (2 * k)
      have h1 := H15.out (2 * k + 1)
      have ht : C (2 * k) + 16 * C (2 * k + 1) = twoC C k := rfl
      have HT : Hid (C (2 * k) + 16 * C (2 * k + 1) = twoC C k) := Lib.hid ht
      have HNX := Lib.hid hn
      clear hn ht
      generalize C (2 * k) = p at *
      generalize C (2 * k + 1) = q at *
      generalize twoC C k = tb at *
      obtain ⟨st, hst⟩ : ∃ st, packK m age C k = st := ⟨_, rfl⟩
      rw [hst] at hkl RK HNX ⊢
      have HKL := Lib.hid hkl
      clear hst hkl
      have hwb : IntKind.u8.wrap (IntKind.i64.wrap ((p : Int) + IntKind.i64.wrap (16 * (q : Int)))) = (tb : Nat) := by
        rw [← HT.out, IntWalk.i64_in (16 * (q : Int)) ⟨by omega, by omega⟩, IntWalk.i64_in _ ⟨by omega, by omega⟩, show (p : Int) + 16 * (q : Int) = ((p + 16 * q : Nat) : Int) by omega]
        exact IntWalk.u8_in _ ⟨by omega, by omega⟩
      obtain ⟨i2, hi2⟩ : ∃ i2, 2 * k = i2 := ⟨_, rfl⟩
      rw [hi2] at x1 x2 hd ⊢
      have HI2 := Lib.hid hi2
      go_wp2_with fail
      have hdr : ∀ W : World, wr.grownBy W none → True := fun _ _ => trivial
      clear hdr
      refine wp_region_planD (fun W => W.cell? ⟨w.heap.size, 2, none⟩ = some (.slice (some ⟨G, 0, none⟩) (4 * m) c) ∧ W.cell? ⟨G, i2, none⟩ = some (.int .i64 (p : Int)) ∧ W.cell? ⟨G, i2 + 1, none⟩ = some (.int .i64 (q : Int))) [([0, 1, 2, 3, 4, 5, 6, 7, 8, 9, 10, 11, 12, 13, 14], 15, false), ([], 16, false), ([], 17, false)] (by kernel_rfl) (by kernel_rfl) ?_
      refine wpPlanD_seg ⟨b2, x1, x2⟩ ?_
      have hi1 : (i2 : Int) + 1 < 4 * (m : Int) := by have := HI2.out; omega
      have a1 : IntKind.i64.wrap ((i2 : Int) + 1) = (i2 : Int) + 1 := IntWalk.i64_in _ ⟨by omega, by omega⟩
      have a2 : 0 ≤ (i2 : Int) + 1 := by omega
      have a3 : ((i2 : Int) + 1).toNat = i2 + 1 := by omega
      repeat (apply wpReadD_step rfl (by rfl); (· intro wS hSw; (try have hSw := hSw rfl); (try dsimp only at hSw); (try obtain ⟨k0, k1, k2⟩ := hSw); go_simp; (try with_reducible rfl)); try simp only [Act.put, List.setIfInBounds_toArray, List.set_cons_zero, List.set_cons_succ])
      refine wpReadD_nil ?_
      refine wpOp_list rfl (fun K hK => ?_)
      try rw [hwb]
      go_simp
      try rw [hwb]
      refine hK _ _ ⟨fun hf => (by cases hf), ?_⟩
      clear hK K x1 x2 b2
      have g5 : wr.grownBy ((wr.alloc (.cells #[.int .u8 (tb : Int)] 5)).drew) none := grownBy_trans (World.grownBy_alloc wr _ none) (grownBy_drewN _ 1 none)
      have hbn := (Blk.new wr 5 [.int .u8 (tb : Int)]).grown (grownBy_drewN _ 1 none) (by simp)
      have hrs : Rds ((wr.alloc (.cells #[.int .u8 (tb : Int)] 5)).drew) 1 (.slice (some ⟨wr.heap.size, 0, none⟩) 1 1) 1 [.int .u8 (tb : Int)] := Rds.of_blk hbn rfl (by unfold maxLen; omega)
      have hkl := HKL.out
      have htb : tb < 256 := by have := HT.out; omega
      have hnb : [Value.int .u8 (tb : Int)] = bytesV (numB tb 1) := by rw [numB_one htb]; rfl
      have HNB := Lib.hid hnb
      have RS5 := Lib.hid hrs
      have G5 := Lib.hid g5
      clear hrs g5 hbn hnb

      generalize (wr.alloc (.cells #[.int .u8 (tb : Int)] 5)).drew = W5 at *
      have OK := Lib.hid (owns_grown RK.out.own G5.out)
      try simp only [Act.put, List.setIfInBounds_toArray, List.set_cons_zero, List.set_cons_succ]
      refine wpPlanD_one ?_
      refine wpOp_list rfl (fun K hK => ?_)
      refine step_append_rds (by rfl) _ _ 32 (by rfl) w1.heap.size 5 i0 (.int .u8 0) 1 1 Try.underlying32 hi hz0 hz1 hz2 rfl (by decide) (v := .slice ay st.length cy) (by rfl) OK.out (by rfl) RS5.out (by simp [Value.oneCell']) (by unfold maxLen; omega) (by omega) (Nat.le_trans RK.out.size G5.out.size) ?_
      intro v6 W6 h1 h2 _
      have hlen : st.length + 1 = (packK m age C (k + 1)).length := by rw [HK.out]; omega
      rw [HNB.out, ← bytesV_app, ← HNX.out, hlen] at h1
      obtain ⟨a6, c6, rfl⟩ := (Rds.of_owns h1).slice
      have RK6 := Lib.hid (RK.out.app G5.out h1 h2)
      refine hK _ _ ⟨fun hf => (by cases hf), ?_⟩
      clear hK K h1 h2 hlen RK OK RS5 G5 HNB
      try simp only [Act.put, List.setIfInBounds_toArray, List.set_cons_zero, List.set_cons_succ]
      refine wpPlanD_one ?_
      refine wpOp_list rfl (fun K hK => ?_)
      go_simp
      refine hK _ _ ⟨fun hf => (by cases hf), ?_⟩
      clear hK K
      try simp only [Act.put, List.setIfInBounds_toArray, List.set_cons_zero, List.set_cons_succ]
      refine wpPlanD_nil (NoPanic.normal ?_)
      go_wp2
      go_roundw
      case rel => exact ⟨k + 1, _, _, by omega, by rw [show ((2 * (k + 1) : Nat) : Int) = (i2 : Int) + 2 by have := HI2.out; omega], rfl, RK6.out⟩
      case measure => simp [intOf]; omega
    · obtain rfl : k = 2 * m := by omega
      have hd : decide (((2 * (2 * m) : Nat) : Int) < ((4 * m : Nat) : Int)) = false := decide_eq_false (by omega)
      have HGG := Lib.hid (grownBy_trans HG.out RK.out.grown)
      have HRD := Lib.hid (Rds.of_owns RK.out.own)
      go_wp2
      refine bodyPost_ret (v := .slice ay (packS m age C).length cy) (by simp [results, Try.results22, go_sem, packS]) rfl ?_
      exact ⟨ay, cy, rfl, HRD.out, HGG.out⟩

end Go.Proofs.Ytfdkncabicmmiaa
