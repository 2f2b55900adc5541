/- package sketch: places. -/
import Derived.Test.YtfdkncabicmmiaaSkN
import Derived.Test.YtfdkncabicmmiaaKeptS
import Derived.Test.YtfdkncabicmmiaaPlan2
import Derived.Test.YtfdkncabicmmiaaPlan2R
import Derived.Laws.EntriesVeiled
namespace Go.Proofs.Ytfdkncabicmmiaa
open Go.RowKit Go.Shelf
attribute [local go_sem] Oper.semAt_some

def apartB : BitVec 64 := 11400714819323198485#64
/-- A number's place in row i. -/
def plN (m : Nat) (h : BitVec 64) (i : Nat) : Nat := (scr (h + BitVec.ofNat 64 i * apartB)).toNat % m
def plV (m : Nat) (g : Nat → Nat) (h : BitVec 64) (i : Nat) : Value := .pointer (some ⟨g i, plN m h i, none⟩)
def first4 (k : Nat) : List (Fin 4) := (List.finRange 4).take k
theorem first4_succ (k : Nat) (hk : k < 4) : first4 (k + 1) = first4 k ++ [⟨k, hk⟩] := by
  rcases (show k = 0 ∨ k = 1 ∨ k = 2 ∨ k = 3 by omega) with rfl | rfl | rfl | rfl <;> rfl
theorem first4_len (k : Nat) (hk : k ≤ 4) : (first4 k).length = k := by
  simp [first4]; omega

theorem places_calls (B : Nat) (h : Int) (w : World) :
    Calls Try.prog 26 #[.pointer (some ⟨B, 0, none⟩), .int .u64 h] w fun e w' => e = .returned (.func (.func 39) #[] #[.pointer (some ⟨w.heap.size + 1, 0, none⟩), .pointer (some ⟨w.heap.size, 0, none⟩)]) ∧ w' = (w.alloc (.cells #[.pointer (some ⟨B, 0, none⟩)] 23)).alloc (.cells #[.int .u64 h] 26) := by
  go_enter Try.func26, Try.ntmps26
  go_wp2
  go_ret
  exact ⟨rfl, rfl⟩

theorem pl_math (k m : Nat) (h : BitVec 64) (hk : k < 4) (hm : 2 ≤ m ∧ m ≤ 4096) :
    IntKind.u64.wrap (k : Int) = (k : Int) ∧ (∃ z : Int, IntKind.u64.wrap ((k : Int) * 11400714819323198485) = z ∧ IntKind.u64.wrap (U h + z) = U (h + BitVec.ofNat 64 k * apartB)) ∧
    IntKind.u64.wrap (m : Int) = (m : Int) ∧ ((m : Int) == 0) = false ∧ (U (scr (h + BitVec.ofNat 64 k * apartB))).tmod (m : Int) = (plN m h k : Nat) ∧ plN m h k < m ∧ ¬ m = 0 := by
  have e0 : (k : Int) = U (BitVec.ofNat 64 k) := by
    unfold U
    rw [BitVec.toNat_ofNat]
    omega
  refine ⟨IntWalk.u64_in _ ⟨by omega, by omega⟩, ⟨U (BitVec.ofNat 64 k * apartB), ?_, U_add _ _⟩, IntWalk.u64_in _ ⟨by omega, by omega⟩, by simp; omega, ?_, Nat.mod_lt _ (by omega), by omega⟩
  · have := U_mul (BitVec.ofNat 64 k) apartB
    rw [← e0] at this
    exact this
  · rfl

set_option maxRecDepth 100000 in
set_option maxHeartbeats 2000000 in
theorem places1_in (n l s hc n₀ B m age : Nat) (S : Nat → Prop) (g : Nat → Nat) (h : BitVec 64) (hn : 1 ≤ n) (J Jx : List (Fin 4) → World → Prop) (hp : Pow2 m)
    (hs0 : s < n₀ ∧ ¬ S s) (hc0 : hc < n₀ ∧ ¬ S hc) (hB0 : B < n₀ ∧ ¬ S B)
    (hY : ∀ pre (x' : Fin 4) W, J pre W → pre.length < 1048576 → YieldAt Fence.wide (n - 1) Try.prog l #[plV m g h x'] W fun e W' =>
      (e = .returned (.bool true) ∧ J (pre ++ [x']) W' ∧ KeptS n₀ S W W') ∨ (e = .returned (.bool false) ∧ Jx (pre ++ [x']) W'))
    (hJ : ∀ pre W W', J pre W → W.grownBy W' none → J pre W')
    (W : World) (hn₀ : n₀ ≤ W.heap.size) (hS : W.cell? ⟨s, 0, none⟩ = some (.pointer (some ⟨B, 0, none⟩))) (hH : W.cell? ⟨hc, 0, none⟩ = some (.int .u64 (U h))) (hb : Blk W B 55 (hdrV m age g)) (h0 : J [] W) :
    CallsIn Fence.wide n Try.prog 39 #[.func (.yield l) #[] #[], .pointer (some ⟨hc, 0, none⟩), .pointer (some ⟨s, 0, none⟩)] W fun e W' => (∃ v, e = .returned v) ∧
      (J (first4 4) W' ∨ ∃ pre, Jx pre W') := by
  have hl := pow2_le hp
  refine callsIn_of_wp Try.func39 rfl trivial ?_ rfl
  simp only [Try.ntmps39, List.size_toArray, List.length_cons, List.length_nil, Nat.reduceAdd, Nat.reduceSub, Array.replicate_succ, Array.replicate_zero, List.push_toArray, List.append_toArray, List.nil_append, List.cons_append]
  have HL := Lib.hid hl
  have HJ0 := Lib.hid h0
  have HS := Lib.hid hS
  have HH := Lib.hid hH
  have HB := Lib.hid hb
  clear hl h0 hS hH hb hp
  gi_wp2
  gi_loopw [6] (fun i wr => ∃ k : Nat, k ≤ 4 ∧ i = .int .i64 k ∧ J (first4 k) wr ∧ KeptS n₀ S W wr) (fun i _ => 4 - (intOf i).toNat)
  case atStart => exact ⟨0, by omega, rfl, HJ0.out, KeptS.refl _ _ _⟩
  case round =>
    obtain ⟨k, hk, rfl, hJs, hks⟩ := hrel
    have HJ := Lib.hid hJs
    have HK := Lib.hid hks
    clear hJs hks HJ0
    by_cases hlt : k < 4
    · obtain ⟨m1, ⟨z, m2, m3⟩, m4, m5, m6, m7, hmz⟩ := pl_math k m h hlt HL.out
      have HSC := Lib.hid (scramble_any (h + BitVec.ofNat 64 k * apartB))
      have b0 := (HK.out.cell (p := ⟨s, 0, none⟩) hs0.1 hs0.2).trans HS.out
      have b1 := (HK.out.cell (p := ⟨hc, 0, none⟩) hc0.1 hc0.2).trans HH.out
      have b2 := (HB.out.keptS HK.out hB0.1 hB0.2).cell (j := 0) rfl
      have HM := Lib.hid m7
      have H4 : Hid ((first4 k).length < 1048576) := Lib.hid (by rw [first4_len k hk]; clear m1 m2 m3 m4 m5 m6; omega)
      have H2 : Hid (n₀ ≤ wr.heap.size) := Lib.hid (Nat.le_trans hn₀ HK.out.1)
      clear m7
      generalize scr (h + BitVec.ofNat 64 k * apartB) = sx at *
      generalize h + BitVec.ofNat 64 k * apartB = hx at *
      gi_wp2
      refine wpIn_region_planD (fun w' => wr.grownBy w' none) [([0, 1, 2, 3, 4, 6, 7, 8, 9, 10], 5, true), ([11], 12, false)] (show Fence.wide.round = none from rfl) (by kernel_rfl) (by kernel_rfl) ?_
      refine wpPlanDIn_seg (grownBy_drewN wr 1 none) ?_
      repeat ((first | (apply wpReadDIn_step rfl (fun _ => rfl) (by rfl); (· intro wS hSw; (try have hSw := hSw rfl); (try dsimp only at hSw); (try have b0 := hSw.cell b0 (by simp)); (try have b1 := hSw.cell b1 (by simp)); (try have b2 := hSw.cell b2 (by simp)); go_simp; (try with_reducible rfl))) | (apply wpReadDIn_skip rfl (fun _ => rfl) (by rfl))); (try simp only [Act.put, List.setIfInBounds_toArray, List.set_cons_zero, List.set_cons_succ]))
      refine wpReadDIn_nil ?_
      refine wpOpIn_list rfl (fun K hK => ?_)
      go_simp
      refine ⟨trivial, ?_⟩
      refine (callsIn_wide.2 (HSC.out _)).mono ?_
      rintro e w1 ⟨rfl, g1⟩
      dsimp only
      have g2 := grownBy_trans (grownBy_drewN wr 1 none) g1
      refine hK _ _ ⟨fun _ => g2, ?_⟩
      have G2 := Lib.hid g2
      clear hK K g1 g2 b0 b1 b2 m1 m2 m3 m4
      try simp only [Act.put, List.setIfInBounds_toArray, List.set_cons_zero, List.set_cons_succ]
      refine wpPlanDIn_seg G2.out ?_
      repeat ((first | (apply wpReadDIn_step rfl (fun _ => rfl) (by rfl); (· intro wS hSw; go_simp; (try rw [if_neg hmz]); (try with_reducible rfl))) | (apply wpReadDIn_skip rfl (fun _ => rfl) (by rfl))); (try simp only [Act.put, List.setIfInBounds_toArray, List.set_cons_zero, List.set_cons_succ]))
      refine wpReadDIn_nil ?_
      refine wpOpIn_list rfl (fun K hK => ?_)
      go_simp
      refine hK _ _ ⟨fun hf => (by cases hf), ?_⟩
      clear hK K
      refine wpPlanDIn_nil (NoPanic.normal ?_)
      clear m5 m6 hmz
      have b0 := G2.out.cell ((HK.out.cell (p := ⟨s, 0, none⟩) hs0.1 hs0.2).trans HS.out) (by simp)
      have b2 := (((HB.out.keptS HK.out hB0.1 hB0.2).grown G2.out (by simp))).cell (j := 2 + k) (v := slV (g k) m) (by rcases (show k = 0 ∨ k = 1 ∨ k = 2 ∨ k = 3 by omega) with rfl | rfl | rfl | rfl <;> rfl)
      unfold slV at b2
      have HJ1 := Lib.hid (hJ _ _ _ HJ.out G2.out)
      have HK1 := Lib.hid (HK.out.trans (keptS_grown (n := n₀) (S := S) G2.out H2.out))
      obtain ⟨fn, tmps, assign, body, hyy, hR2⟩ := hY _ ⟨k, hlt⟩ w1 HJ1.out H4.out
      unfold plV at hyy
      simp only at hyy
      have HM0 := HM.out
      have HR := Lib.hid hR2
      clear hR2 HJ HK
      obtain ⟨pk, hpk⟩ : ∃ pk, plN m h k = pk := ⟨_, rfl⟩
      rw [hpk] at hyy HM0 ⊢
      clear hpk
      gi_wp2_with (refine HR.out.mono ?_)
      rintro e W3 (⟨rfl, hJ3, hk3⟩ | ⟨rfl, hJx3⟩)
      · have HJ3 := Lib.hid hJ3
        have HK3 := Lib.hid (HK1.out.trans hk3)
        clear hJ3 hk3
        gi_wp2
        go_roundw
        case rel => exact ⟨k + 1, by omega, by go_num, by rw [first4_succ k hlt]; exact HJ3.out, HK3.out⟩
        case measure => simp [intOf]; omega
      · have HX := Lib.hid hJx3
        clear hJx3
        gi_wp2
        refine bodyPost_ret (results_none rfl _ _ _) rfl ?_
        exact ⟨⟨_, rfl⟩, .inr ⟨_, HX.out⟩⟩
    · obtain rfl : k = 4 := by omega
      gi_wp2
      go_end0
      exact ⟨⟨_, rfl⟩, .inl HJ.out⟩

theorem places1_stops (n s hc n₀ B m age : Nat) (S : Nat → Prop) (g : Nat → Nat) (h : BitVec 64) (hn : 1 ≤ n) (hp : Pow2 m) (w : World) (hs0 : s < n₀ ∧ ¬ S s) (hc0 : hc < n₀ ∧ ¬ S hc) (hB0 : B < n₀ ∧ ¬ S B) (hn₀ : n₀ ≤ w.heap.size)
    (hS : w.cell? ⟨s, 0, none⟩ = some (.pointer (some ⟨B, 0, none⟩))) (hH : w.cell? ⟨hc, 0, none⟩ = some (.int .u64 (U h))) (hb : Blk w B 55 (hdrV m age g)) :
    SeqStopsK Fence.wide n Try.prog 39 #[.pointer (some ⟨hc, 0, none⟩), .pointer (some ⟨s, 0, none⟩)] (fun i : Fin 4 => #[plV m g h i]) (KeptS n₀ S) (fun ys => ys = first4 4)
      (fun _ => True) 1048576 w := fun l J Jx W hW hA _ hY h0 => by
  have hW' : KeptS n₀ S w W := keptS_of_below (hW.mono hn₀)
  have c1 := (hW'.cell (p := ⟨s, 0, none⟩) hs0.1 hs0.2).trans hS
  have c2 := (hW'.cell (p := ⟨hc, 0, none⟩) hc0.1 hc0.2).trans hH
  refine (places1_in n l s hc n₀ B m age S g h hn J Jx hp hs0 hc0 hB0 hY ?_ W (Nat.le_trans hn₀ hW'.1) c1 c2 (hb.keptS hW' hB0.1 hB0.2) h0).mono ?_
  · exact fun pre A B h1 h2 => hA pre A B none h1 h2 (fun r e => by cases e)
  · rintro e W' ⟨he, hj | ⟨pre, hj⟩⟩
    · exact ⟨he, .inl ⟨_, rfl, hj⟩⟩
    · exact ⟨he, .inr ⟨pre, trivial, hj⟩⟩

end Go.Proofs.Ytfdkncabicmmiaa
