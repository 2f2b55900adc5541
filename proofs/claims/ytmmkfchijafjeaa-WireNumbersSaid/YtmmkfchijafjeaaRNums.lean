/- package wire: the Reader's numbers. -/
import Derived.Test.YtmmkfchijafjeaaRdAt
import Derived.Test.YtmmkfchijafjeaaSeqR
import Derived.Test.YtmmkfchijafjeaaKeptS
import Derived.Test.YtmmkfchijafjeaaPlan2R
import Derived.Laws.EntriesVeiled
namespace Go.Proofs.Ytmmkfchijafjeaa
open Go.RowKit Go.Shelf
attribute [local go_sem] Oper.semAt_some

/-- The first numbers of some bytes. -/
def numsK (xs : List Nat) (k i : Nat) : List Nat := (List.range i).map fun j => numAt xs (j * k) k
theorem numsK_succ (xs : List Nat) (k i : Nat) : numsK xs k (i + 1) = numsK xs k i ++ [numAt xs (i * k) k] := by simp [numsK, List.range_succ]
theorem numsK_len (xs : List Nat) (k i : Nat) : (numsK xs k i).length = i := by simp [numsK]
theorem RR.keptS {n : Nat} {S : Nat → Prop} {w w' : World} {B : Nat} {v : Value} {xs : List Nat} {bad : Bool} (h : RR w B v xs bad) (hk : KeptS n S w w') (hB : B < n ∧ ¬ S B) (hv : xs ≠ [] → ∀ b, v.ownBlock = some b → b < n ∧ ¬ S b) : RR w' B v xs bad :=
  ⟨h.blk.keptS hk hB.1 hB.2, h.rds.same (fun hne b hb _ => hk.2 b (hv (fun e => hne (by rw [e]; rfl)) b hb).1 (hv (fun e => hne (by rw [e]; rfl)) b hb).2), h.apart, h.cap, h.few, h.spot, h.small⟩

theorem numbers_calls (R : Nat) (k : Int) (w : World) :
    Calls Try.prog 31 #[.pointer (some ⟨R, 0, none⟩), .int .i64 k] w fun e w' => e = .returned (.func (.func 32) #[] #[.pointer (some ⟨w.heap.size, 0, none⟩), .pointer (some ⟨w.heap.size + 1, 0, none⟩)]) ∧ w' = (w.alloc (.cells #[.pointer (some ⟨R, 0, none⟩)] 41)).alloc (.cells #[.int .i64 k] 3) := by
  go_enter Try.func31, Try.ntmps31
  go_wp2
  go_ret
  exact ⟨rfl, rfl⟩

/-- How many bytes a reader has left. -/
def restLen (R : Nat) (w : World) : Nat := match w.cell? ⟨R, 0, none⟩ with | some (.slice _ n _) => n | _ => 0
theorem RR.rest {w : World} {R : Nat} {v : Value} {xs : List Nat} {bad : Bool} (h : RR w R v xs bad) : restLen R w = xs.length := by
  obtain ⟨a, c, rfl⟩ := h.slice
  unfold restLen
  rw [h.blk.cell (j := 0) rfl]

set_option maxRecDepth 100000 in
set_option maxHeartbeats 2000000 in
theorem numbers1_in (n l rc kc n₀ R k : Nat) (S : Nat → Prop) (xs : List Nat) (hn : 2 ≤ n) (J Jx : List Nat → World → Prop) (hk : mayB k = true)
    (hr0 : rc < n₀ ∧ ¬ S rc) (hk0 : kc < n₀ ∧ ¬ S kc) (hR0 : R < n₀ ∧ ¬ S R) (hne : rc ≠ R ∧ kc ≠ R)
    (hY : ∀ pre (x : Nat) W, J pre W → pre.length < 1048576 → YieldAt Fence.wide (n - 1) Try.prog l #[.int .u64 x] W fun e W' =>
      (e = .returned (.bool true) ∧ J (pre ++ [x]) W' ∧ KeptS n₀ S W W') ∨ (e = .returned (.bool false) ∧ Jx (pre ++ [x]) W' ∧ KeptS n₀ S W W'))
    (hJ : ∀ pre W W', J pre W → Touch (fun j => j = R) W W' → J pre W')
    (W : World) (hn₀ : n₀ ≤ W.heap.size) (hRC : W.cell? ⟨rc, 0, none⟩ = some (.pointer (some ⟨R, 0, none⟩))) (hKC : W.cell? ⟨kc, 0, none⟩ = some (.int .i64 (k : Nat))) (v : Value) (hr : RR W R v xs false) (hv : xs ≠ [] → ∀ b, v.ownBlock = some b → b < n₀ ∧ ¬ S b) (hx : xs.length < 1048576) (h0 : J [] W) :
    CallsIn Fence.wide n Try.prog 32 #[.func (.yield l) #[] #[], .pointer (some ⟨rc, 0, none⟩), .pointer (some ⟨kc, 0, none⟩)] W fun e W' => (∃ v, e = .returned v) ∧
      ((∃ v, RR W' R v (xs.drop (xs.length / k * k)) false ∧ J (numsK xs k (xs.length / k)) W') ∨ ∃ i v, 1 ≤ i ∧ i ≤ xs.length / k ∧ RR W' R v (xs.drop (i * k)) false ∧ Jx (numsK xs k i) W') := by
  have hk1 : 1 ≤ k ∧ k ≤ 8 := by have := of_decide_eq_true hk; omega
  obtain ⟨q, hq⟩ : ∃ q, xs.length / k = q := ⟨_, rfl⟩
  have HQ : Hid (∀ i, i < q ↔ (i + 1) * k ≤ xs.length) := Lib.hid (fun i => by rw [← hq, ← Nat.le_div_iff_mul_le (by omega)]; exact Iff.rfl)
  rw [hq]
  clear hq
  refine callsIn_of_wp Try.func32 rfl trivial ?_ rfl
  simp only [Try.ntmps32, List.size_toArray, List.length_cons, List.length_nil, Nat.reduceAdd, Nat.reduceSub, Array.replicate_succ, Array.replicate_zero, List.push_toArray, List.append_toArray, List.nil_append, List.cons_append]
  have HR := Lib.hid hr
  have HJ0 := Lib.hid h0
  have HRC := Lib.hid hRC
  have HKC := Lib.hid hKC
  clear h0 hRC hKC hr
  gi_wp2
  gi_loopw [4] (fun _ wr => ∃ i v, i ≤ q ∧ i * k ≤ xs.length ∧ J (numsK xs k i) wr ∧ RR wr R v (xs.drop (i * k)) false ∧ (xs ≠ [] → ∀ b, v.ownBlock = some b → b < n₀ ∧ ¬ S b) ∧ n₀ ≤ wr.heap.size ∧ wr.cell? ⟨rc, 0, none⟩ = some (.pointer (some ⟨R, 0, none⟩)) ∧ wr.cell? ⟨kc, 0, none⟩ = some (.int .i64 (k : Nat))) (fun _ wr => restLen R wr)
  case atStart => exact ⟨0, v, by omega, by omega, HJ0.out, by rw [Nat.zero_mul]; exact HR.out, hv, hn₀, HRC.out, HKC.out⟩
  case round =>
    clear HJ0 HRC HKC HR hn₀ hv
    obtain ⟨i, v, hi, hik, hJs, hr, hv, hn₀, b1, b2⟩ := hrel
    have HJ := Lib.hid hJs
    have HR := Lib.hid hr
    have HV := Lib.hid hv
    have HRL := Lib.hid hr.rest
    have hln : (xs.drop (i * k)).length = xs.length - i * k := List.length_drop
    obtain ⟨av, cv, rfl⟩ := hr.slice
    have b0 := hr.blk.cell (j := 0) rfl
    have HB1 := Lib.hid (And.intro b1 b2)
    clear hJs hr hv
    by_cases hlt : i < q
    · have hnx := (HQ.out i).1 hlt
      rw [Nat.succ_mul] at hnx
      have hge : decide (((xs.drop (i * k)).length : Int) ≥ (k : Int)) = true := decide_eq_true (by omega)
      gi_wp2
      refine wpIn_region_planD (fun W => W.cell? ⟨rc, 0, none⟩ = some (.pointer (some ⟨R, 0, none⟩)) ∧ W.cell? ⟨kc, 0, none⟩ = some (.int .i64 (k : Nat)) ∧ W.cell? ⟨R, 0, none⟩ = some (.slice av (xs.drop (i * k)).length cv)) [([0, 1, 2, 3], 4, true), ([5, 6, 7, 8, 9, 10, 11, 12, 13], 14, false)] (show Fence.wide.round = none from rfl) (by kernel_rfl) (by kernel_rfl) ?_
      refine wpPlanDIn_seg ⟨b1, b2, b0⟩ ?_
      repeat ((first | (apply wpReadDIn_step rfl (fun _ => rfl) (by rfl); (· intro wS hSw; (try have hSw := hSw rfl); (try dsimp only at hSw); (try obtain ⟨k0, k1, k2⟩ := hSw); go_simp; (try with_reducible rfl))) | (apply wpReadDIn_skip rfl (fun _ => rfl) (by rfl))); (try simp only [Act.put, List.setIfInBounds_toArray, List.set_cons_zero, List.set_cons_succ]))
      refine wpReadDIn_nil ?_
      refine wpOpIn_list rfl (fun K hK => ?_)
      go_simp
      refine ⟨trivial, fun _ => by omega, ?_⟩
      refine (callsIn_wide.2 (may_any _ _)).mono ?_
      rintro e w1 ⟨rfl, rfl⟩
      dsimp only
      rw [hk]
      refine hK _ _ ⟨fun _ => ⟨b1, b2, b0⟩, ?_⟩
      clear hK K
      try simp only [Act.put, List.setIfInBounds_toArray, List.set_cons_zero, List.set_cons_succ]
      refine wpPlanDIn_seg ⟨b1, b2, b0⟩ ?_
      repeat ((first | (apply wpReadDIn_step rfl (fun _ => rfl) (by rfl); (· intro wS hSw; (try have hSw := hSw rfl); (try dsimp only at hSw); (try obtain ⟨k0, k1, k2⟩ := hSw); go_simp; (try with_reducible rfl))) | (apply wpReadDIn_skip rfl (fun _ => rfl) (by rfl))); (try simp only [Act.put, List.setIfInBounds_toArray, List.set_cons_zero, List.set_cons_succ]))
      refine wpReadDIn_nil ?_
      refine wpOpIn_list rfl (fun K hK => ?_)
      go_simp
      refine hK _ _ ⟨fun hf => (by cases hf), ?_⟩
      clear hK K
      try simp only [Act.put, List.setIfInBounds_toArray, List.set_cons_zero, List.set_cons_succ]
      refine wpPlanDIn_nil (NoPanic.normal ?_)
      have HJ1 := Lib.hid (hJ _ _ _ HJ.out (Touch.of_none (grownBy_drewN wr 1 none)))
      have HR1 := Lib.hid (HR.out.grown (grownBy_drewN wr 1 none))
      have hn1 : n₀ ≤ wr.drew.heap.size := hn₀
      have b1 : wr.drew.cell? ⟨rc, 0, none⟩ = some (.pointer (some ⟨R, 0, none⟩)) := b1
      have b2 : wr.drew.cell? ⟨kc, 0, none⟩ = some (.int .i64 (k : Nat)) := b2
      obtain ⟨w1, hw1⟩ : ∃ w1, wr.drew = w1 := ⟨_, rfl⟩
      rw [show wr.drewN 1 = wr.drew from rfl, hw1] at HJ1 HR1
      rw [hw1] at hn1 b1 b2 ⊢
      clear hw1 b0 HJ HR HB1 hge
      have hpa : pastB xs (i * k) = false := decide_eq_false (by omega)
      have hpb : pastB xs (i * k + k) = false := decide_eq_false (by omega)
      have HNUM := Lib.hid (rnum_any R _ _ _ k w1 HR1.out)
      unfold NPost at HNUM
      rw [← hpa] at HNUM
      rw [askN_yes hk, left_at xs (i * k) k hk1.1, bad_at xs (i * k) k hk1.1, take_at xs (i * k) k hk1.1, hpb] at HNUM
      have HKL := Lib.hid hln
      clear hln
      gi_wp2
      refine ⟨trivial, fun _ => by omega, ?_⟩
      refine (callsIn_wide.2 HNUM.out).mono ?_
      rintro e w2 ⟨v2, rfl, r2, o2, g2⟩
      have HJ2 := Lib.hid (hJ _ _ _ HJ1.out (Touch.of g2 (fun j e => by cases e; rfl)))
      have HR2 := Lib.hid r2
      have HV2 : Hid (xs ≠ [] → ∀ b, v2.ownBlock = some b → b < n₀ ∧ ¬ S b) := Lib.hid (fun hne b hb => HV.out hne b (o2 b hb))
      have hn2 : n₀ ≤ w2.heap.size := Nat.le_trans hn1 g2.size
      have c1 := g2.cell b1 (by simp; exact hne.1)
      have c2 := g2.cell b2 (by simp; exact hne.2)
      have hsc := numsK_succ xs k i
      have HSC := Lib.hid hsc
      have H4 : Hid ((numsK xs k i).length < 1048576) := Lib.hid (by
        rw [numsK_len]
        have : i ≤ i * k := Nat.le_mul_of_pos_right i (by omega)
        omega)
      obtain ⟨x, hxn⟩ : ∃ x, numAt xs (i * k) k = x := ⟨_, rfl⟩
      rw [hxn] at HSC ⊢
      clear r2 o2 g2 b1 b2 HNUM HJ1 HR1 HV hsc hxn hpa hpb
      obtain ⟨fn, tmps, assign, body, hyy, hR2⟩ := hY _ x w2 HJ2.out H4.out
      have HRD := Lib.hid hR2
      clear hR2
      gi_wp2
      refine ⟨fun _ => by omega, ?_⟩
      refine HRD.out.mono ?_
      rintro e W3 (⟨rfl, hJ3, hk3⟩ | ⟨rfl, hJx3, hk3⟩)
      · rw [← HSC.out] at hJ3
        have HJ3 := Lib.hid hJ3
        have HR3 := Lib.hid (HR2.out.keptS hk3 hR0 (fun hne => HV2.out (fun e => hne (by rw [e]; simp))))
        have d1 := (hk3.cell (p := ⟨rc, 0, none⟩) hr0.1 hr0.2).trans c1
        have d2 := (hk3.cell (p := ⟨kc, 0, none⟩) hk0.1 hk0.2).trans c2
        have hn3 : n₀ ≤ W3.heap.size := Nat.le_trans hn2 hk3.1
        have HD := Lib.hid (And.intro d1 d2)
        clear hJ3 hk3 d1 d2 c1 c2
        gi_wp2
        go_roundw
        case rel => exact ⟨i + 1, v2, by omega, by rw [Nat.succ_mul]; omega, HJ3.out, by rw [Nat.succ_mul]; exact HR3.out, HV2.out, hn3, HD.out.1, HD.out.2⟩
        case measure =>
          rw [HR3.out.rest, HRL.out, List.length_drop, HKL.out]
          omega
      · rw [← HSC.out] at hJx3
        have HX := Lib.hid hJx3
        have HR3 := Lib.hid (HR2.out.keptS hk3 hR0 (fun hne => HV2.out (fun e => hne (by rw [e]; simp))))
        clear hJx3 hk3
        gi_wp2
        refine bodyPost_ret (results_none rfl _ _ _) rfl ?_
        exact ⟨⟨_, rfl⟩, .inr ⟨i + 1, v2, by omega, by omega, by rw [Nat.succ_mul]; exact HR3.out, HX.out⟩⟩
    · obtain rfl : q = i := by omega
      have hnx : ¬ (q + 1) * k ≤ xs.length := fun h => by have := (HQ.out q).2 h; omega
      rw [Nat.succ_mul] at hnx
      have hge : decide (((xs.drop (q * k)).length : Int) ≥ (k : Int)) = false := decide_eq_false (by omega)
      gi_wp2
      refine wpIn_region_planD (fun W => W.cell? ⟨rc, 0, none⟩ = some (.pointer (some ⟨R, 0, none⟩)) ∧ W.cell? ⟨kc, 0, none⟩ = some (.int .i64 (k : Nat)) ∧ W.cell? ⟨R, 0, none⟩ = some (.slice av (xs.drop (q * k)).length cv)) [([0, 1, 2, 3], 4, true), ([5, 6, 7, 8, 9, 10, 11, 12, 13], 14, false)] (show Fence.wide.round = none from rfl) (by kernel_rfl) (by kernel_rfl) ?_
      refine wpPlanDIn_seg ⟨b1, b2, b0⟩ ?_
      repeat ((first | (apply wpReadDIn_step rfl (fun _ => rfl) (by rfl); (· intro wS hSw; (try have hSw := hSw rfl); (try dsimp only at hSw); (try obtain ⟨k0, k1, k2⟩ := hSw); go_simp; (try with_reducible rfl))) | (apply wpReadDIn_skip rfl (fun _ => rfl) (by rfl))); (try simp only [Act.put, List.setIfInBounds_toArray, List.set_cons_zero, List.set_cons_succ]))
      refine wpReadDIn_nil ?_
      refine wpOpIn_list rfl (fun K hK => ?_)
      go_simp
      refine ⟨trivial, fun _ => by omega, ?_⟩
      refine (callsIn_wide.2 (may_any _ _)).mono ?_
      rintro e w1 ⟨rfl, rfl⟩
      dsimp only
      rw [hk]
      refine hK _ _ ⟨fun _ => ⟨b1, b2, b0⟩, ?_⟩
      clear hK K
      try simp only [Act.put, List.setIfInBounds_toArray, List.set_cons_zero, List.set_cons_succ]
      refine wpPlanDIn_seg ⟨b1, b2, b0⟩ ?_
      repeat ((first | (apply wpReadDIn_step rfl (fun _ => rfl) (by rfl); (· intro wS hSw; (try have hSw := hSw rfl); (try dsimp only at hSw); (try obtain ⟨k0, k1, k2⟩ := hSw); go_simp; (try with_reducible rfl))) | (apply wpReadDIn_skip rfl (fun _ => rfl) (by rfl))); (try simp only [Act.put, List.setIfInBounds_toArray, List.set_cons_zero, List.set_cons_succ]))
      refine wpReadDIn_nil ?_
      refine wpOpIn_list rfl (fun K hK => ?_)
      go_simp
      refine hK _ _ ⟨fun hf => (by cases hf), ?_⟩
      clear hK K
      try simp only [Act.put, List.setIfInBounds_toArray, List.set_cons_zero, List.set_cons_succ]
      refine wpPlanDIn_nil (NoPanic.normal ?_)
      have HJ1 := Lib.hid (hJ _ _ _ HJ.out (Touch.of_none (grownBy_drewN wr 1 none)))
      have HR1 := Lib.hid (HR.out.grown (grownBy_drewN wr 1 none))
      clear b0 b1 b2 HJ HR HB1
      gi_wp2
      go_end0
      exact ⟨⟨_, rfl⟩, .inl ⟨_, HR1.out, HJ1.out⟩⟩

end Go.Proofs.Ytmmkfchijafjeaa
