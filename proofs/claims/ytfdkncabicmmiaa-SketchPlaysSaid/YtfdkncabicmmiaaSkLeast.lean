/- Layer 23: the walk of SketchLeast. -/
import Derived.Test.YtfdkncabicmmiaaSkAges
import Derived.Test.YtfdkncabicmmiaaArgUs
import Derived.Laws.Small
namespace Go.Proofs.Ytfdkncabicmmiaa
open Go.RowKit Go.WideShapes Go.ChangeShapes Go.ChangeAt

theorem take_more (xs : List (BitVec 64)) (k : Nat) (h : k < xs.length) : xs.take (k + 1) = xs.take k ++ [xs.getD k 0] := by
  rw [List.take_succ_eq_append_getElem h]
  simp [List.getD, h]

/-- Behind the marks of some numbers. -/
structure Least (w w' : World) (B : Nat) (g : Nat → Nat) (m : Nat) (ms : List (BitVec 64)) (C : Nat → Nat) : Prop where
  sk : SK w' B g m ms.length C
  mkd : Marked m C ms
  newB : w.heap.size ≤ B
  newG : ∀ i, i < 4 → w.heap.size ≤ g i
  grown : w.grownBy w' none
theorem Least.own {w w' : World} {B : Nat} {g : Nat → Nat} {m : Nat} {ms : List (BitVec 64)} {C : Nat → Nat} (h : Least w w' B g m ms C) : ∀ j, KOwn B g j → w.heap.size ≤ j := fun j hj => by
  rcases hj with rfl | ⟨i, hi, rfl⟩
  · exact h.newB
  · exact h.newG i hi
theorem Least.later {w w' w'' : World} {B : Nat} {g : Nat → Nat} {m : Nat} {ms : List (BitVec 64)} {C : Nat → Nat} (h : Least w w' B g m ms C) (hg : w'.grownBy w'' none) : Least w w'' B g m ms C :=
  ⟨h.sk.grown hg, h.mkd, h.newB, h.newG, grownBy_trans h.grown hg⟩

set_option maxRecDepth 100000 in
set_option maxHeartbeats 2000000 in
theorem sketchLeast_walk0 (b : Nat) (hb : b ≤ 255) (xs : List (BitVec 64)) (a : Option Addr) (c : Nat) (w : World) (hr : Rds w 1 (.slice a xs.length c) xs.length (u64sV xs)) :
    Calls Try.prog 3 #[.int .u8 (b : Int), .slice a xs.length c] w fun e w' => e = .returned (.bool true) ∧ Below w.heap.size w w' := by
  have hw8 : IntKind.i64.wrap (b : Int) = b := IntWalk.i64_in _ ⟨by omega, by omega⟩
  have hml := hr.2.1
  unfold maxLen at hml
  have HR := Lib.hid hr
  clear hr
  obtain ⟨t, ht⟩ : ∃ t, b % 5 = t := ⟨_, rfl⟩
  have ht5 : t < 5 := by omega
  have hti : (b : Int) % 5 = (t : Int) := by omega
  have HT := Lib.hid hti
  clear ht hti
  obtain ⟨n, hn⟩ : ∃ n, xs.length = n := ⟨_, rfl⟩
  have HN := Lib.hid hn
  rw [hn] at HR hml ⊢
  clear hn
  go_enter Try.func3, Try.ntmps3
  go_wp2_with fail
  go_loop [5, 6] (fun wd i => ∃ j : Nat, j ≤ t ∧ i = .int .i64 j ∧ wd = .int .i64 ((2 ^ (5 + j) : Nat) : Int)) (fun _ i => t - (intOf i).toNat)
  case atStart => exact ⟨0, by omega, rfl, rfl⟩
  case round =>
    obtain ⟨j, hj, rfl, rfl⟩ := hrel
    have hps := pow_step 5 j
    have hpl := pow2_le (pow_up (a := 5) (j := j) (by omega) (by omega))
    have HPS := Lib.hid hps
    have ht' := HT.out
    by_cases hlt : j < t
    · have hd : decide ((j : Int) < (b : Int) % 5) = true := decide_eq_true (by omega)
      clear hps
      generalize hP : 2 ^ (5 + j) = P at *
      go_wp2_with fail
      exact ⟨⟨j + 1, by omega, by go_num, by rw [HPS.out]⟩, by simp [intOf]; omega⟩
    · obtain rfl : t = j := by omega
      have hd : decide ((t : Int) < (b : Int) % 5) = false := decide_eq_false (by omega)
      have hpw := pow_up (a := 5) (j := t) (by omega) (by omega)
      clear hps HPS
      generalize hP : 2 ^ (5 + t) = m at *
      clear hP
      have HPW := Lib.hid hpw
      clear hpw
      by_cases h3 : 300 < n
      · have d3 : decide (300 < n) = true := decide_eq_true h3
        go_wp2_with fail
        go_ret
        exact ⟨rfl, Below.refl _ _⟩
      by_cases h4 : 10 * m ≤ n
      · have d3 : decide (300 < n) = false := decide_eq_false h3
        have d4 : decide (10 * (m : Int) ≤ (n : Int)) = true := decide_eq_true (by omega)
        go_wp2_with fail
        go_ret
        exact ⟨rfl, Below.refl _ _⟩
      have d3 : decide (300 < n) = false := decide_eq_false h3
      have d4 : decide (10 * (m : Int) ≤ (n : Int)) = false := decide_eq_false (by omega)
      go_wp2_with fail
      refine (knew_any m HPW.out _).mono ?_
      rintro e w1 ⟨B, g, rfl, s1, hB, hg, g1⟩
      have L0 : Hid (Least w w1 B g m (xs.take 0) (fun _ => 0)) := Lib.hid ⟨s1, marked_none m, hB, hg, g1⟩
      clear s1 hB hg g1
      go_wp2_with fail
      go_loopw [8] (fun i wr => ∃ (k : Nat) (C : Nat → Nat), k ≤ n ∧ i = .int .i64 k ∧ Least w wr B g m (xs.take k) C) (fun i _ => n - (intOf i).toNat)
      case atStart => exact ⟨0, _, by omega, rfl, L0.out⟩
      case round =>
        clear L0
        obtain ⟨k, C, hk, rfl, hA⟩ := hrel
        have HA := Lib.hid hA
        clear hA
        by_cases hlk : k < n
        · obtain ⟨bb, o, rfl, hc⟩ := HR.out.at' (by omega)
          have hkx : k < xs.length := by have := HN.out; omega
          have x0 := HA.out.grown.cell (hc k _ (u64sV_get xs k hkx)) (by simp)
          have htk := take_more xs k hkx
          have htl : (xs.take k).length = k := by rw [List.length_take]; omega
          obtain ⟨q, hq⟩ : ∃ q, xs.getD k 0 = q := ⟨_, rfl⟩
          rw [hq] at x0 htk
          have HTK := Lib.hid htk
          have HTL := Lib.hid htl
          clear hc hkx htk htl hq
          go_wp2_with fail
          have hs := HA.out.sk
          refine (mark_any B g m _ C q _ hs (by rw [HTL.out]; omega)).mono ?_
          rintro e w3 ⟨rfl, s3, t3⟩
          have hne : ¬ (xs.take k).length + 1 = 10 * m := by rw [HTL.out]; omega
          unfold markA markD at s3
          rw [if_neg hne, if_neg hne] at s3
          have hL : Least w w3 B g m (xs.take (k + 1)) (markC m C q) := by
            rw [HTK.out]
            refine ⟨?_, HA.out.mkd.more q, HA.out.newB, HA.out.newG, Touch.grown HA.out.grown t3 HA.out.own⟩
            rw [List.length_append, List.length_singleton]
            exact s3
          have HL := Lib.hid hL
          clear hL s3 t3 hs hne x0
          go_wp2_with fail
          exact ⟨⟨k + 1, _, by omega, by go_num, HL.out⟩, by simp [intOf]; omega⟩
        · obtain rfl : n = k := by omega
          have hall : xs.take n = xs := List.take_of_length_le (by have := HN.out; omega)
          have hA2 := HA.out
          rw [hall] at hA2
          have HA := Lib.hid hA2
          clear hA2 hall
          go_wp2_with fail
          go_loopw [9] (fun i wr => ∃ k : Nat, k ≤ n ∧ i = .int .i64 k ∧ Least w wr B g m xs C) (fun i _ => n - (intOf i).toNat)
          case atStart => exact ⟨0, by omega, rfl, HA.out⟩
          case round =>
            clear HA
            obtain ⟨i, hi, rfl, hA⟩ := hrel
            have HA := Lib.hid hA
            clear hA
            by_cases hli : i < n
            · obtain ⟨bb, o, rfl, hc⟩ := HR.out.at' (by omega)
              have HC := Lib.hid hc
              have hix : i < xs.length := by have := HN.out; omega
              have x9 := Lib.hid (hc i _ (u64sV_get xs i hix))
              obtain ⟨q, hq⟩ : ∃ q, xs.getD i 0 = q := ⟨_, rfl⟩
              rw [hq] at x9
              clear hc hix hq
              have di : decide ((i : Int) < (n : Int)) = true := decide_eq_true (by omega)
              go_wp2_with fail
              generalize hwo : wr = wo at *
              clear hwo
              go_loopw [10, 11] (fun cnt k wr => ∃ k' : Nat, k' ≤ n ∧ k = .int .i64 k' ∧ cnt = .int .i64 ((xs.take k').count q : Nat) ∧ Least w wr B g m xs C) (fun _ k _ => n - (intOf k).toNat)
              case atStart => exact ⟨0, by omega, rfl, rfl, HA.out⟩
              case round =>
                clear HA
                obtain ⟨k', hk', rfl, rfl, hA⟩ := hrel
                have HA := Lib.hid hA
                clear hA
                have hcle : (xs.take k').count q ≤ k' := Nat.le_trans List.count_le_length (List.length_take_le _ _)
                obtain ⟨ct, hct⟩ : ∃ ct, (xs.take k').count q = ct := ⟨_, rfl⟩
                rw [hct] at hcle ⊢
                have HCT := Lib.hid hct
                clear hct
                by_cases hlk' : k' < n
                · have hkx : k' < xs.length := by have := HN.out; omega
                  have x0 := HA.out.grown.cell (HC.out k' _ (u64sV_get xs k' hkx)) (by simp)
                  have x1 := HA.out.grown.cell x9.out (by simp)
                  have htk := take_more xs k' hkx
                  obtain ⟨q2, hq2⟩ : ∃ q2, xs.getD k' 0 = q2 := ⟨_, rfl⟩
                  rw [hq2] at x0 htk
                  have HTK := Lib.hid htk
                  clear hkx htk hq2
                  go_wp2_with fail
                  refine wp_region_planD (fun w' => w'.cell? ⟨bb, o + k', none⟩ = some (.int .u64 (U q2)) ∧ w'.cell? ⟨bb, o + i, none⟩ = some (.int .u64 (U q))) [([0, 1, 2, 3, 4, 5, 6, 7], 8, false)] (by kernel_rfl) (by kernel_rfl) ?_
                  refine wpPlanD_seg ⟨x0, x1⟩ ?_
                  repeat ((first | (apply wpReadD_step rfl (by rfl); (· intro wS hSw; (try have hSw := hSw rfl); (try dsimp only at hSw); (try obtain ⟨k0, k1⟩ := hSw); go_simp; (try with_reducible rfl))) | (apply wpReadD_skip rfl (by rfl))); (try simp only [Act.put, List.setIfInBounds_toArray, List.set_cons_zero, List.set_cons_succ]))
                  refine wpReadD_nil ?_
                  refine wpOp_list rfl (fun K hK => ?_)
                  have HLD : Hid (Least w wr.drew B g m xs C) := Lib.hid (HA.out.later (grownBy_drewN wr 1 none))
                  by_cases hqq : q2 = q
                  · have b1 : (U q2 == U q) = true := by rw [hqq]; simp
                    have HNX : Hid ((xs.take (k' + 1)).count q = ct + 1) := Lib.hid (by rw [HTK.out, List.count_append, HCT.out, hqq]; simp)
                    clear hqq
                    go_simp
                    refine hK _ _ ⟨fun hf => (by cases hf), ?_⟩
                    clear hK K x0 x1 b1 HA
                    refine wpPlanD_nil (NoPanic.normal ?_)
                    generalize wr.drew = wq at *
                    go_wp2_with fail
                    exact ⟨⟨k' + 1, by omega, by go_num, by rw [HNX.out]; go_num, HLD.out⟩, by simp [intOf]; omega⟩
                  · have b1 : (U q2 == U q) = false := by rw [U_eq]; simpa using hqq
                    have HNX : Hid ((xs.take (k' + 1)).count q = ct) := Lib.hid (by rw [HTK.out, List.count_append, HCT.out, List.count_cons_of_ne hqq]; simp)
                    clear hqq
                    go_simp
                    refine hK _ _ ⟨fun hf => (by cases hf), ?_⟩
                    clear hK K x0 x1 b1 HA
                    refine wpPlanD_nil (NoPanic.normal ?_)
                    generalize wr.drew = wq at *
                    go_wp2_with fail
                    exact ⟨⟨k' + 1, by omega, by go_num, by rw [HNX.out], HLD.out⟩, by simp [intOf]; omega⟩
                · obtain rfl : n = k' := by omega
                  have hcq : xs.count q = ct := by rw [← HCT.out, List.take_of_length_le (by have := HN.out; omega)]
                  have hlow : min ct 15 ≤ gs m C q := le_gs m C q _ (by omega) (fun i => by rw [← hcq]; exact HA.out.mkd.low q i)
                  have hup : gs m C q ≤ n := Nat.le_trans (gs_at m C q 0) (by have := HA.out.mkd.up (plC m q 0); have := HN.out; omega)
                  have x1 := HA.out.grown.cell x9.out (by simp)
                  have HGU := Lib.hid (guess_any B g m _ C q _ HA.out.sk)
                  generalize gs m C q = gv at *
                  have HLO := Lib.hid hlow
                  clear hcq hlow HCT
                  have dg : decide ((gv : Int) > (n : Int)) = false := decide_eq_false (by omega)
                  go_wp2_with fail
                  refine HGU.out.mono ?_
                  rintro e w4 ⟨rfl, g4⟩
                  have HA4 := Lib.hid (HA.out.later g4)
                  clear g4 HA HGU x1
                  by_cases h15 : (15 : Int) < (ct : Int)
                  · have hlo : ¬ (gv : Int) < 15 := by have := HLO.out; omega
                    go_wp2_with fail
                    exact ⟨⟨i + 1, by omega, by go_num, HA4.out⟩, by simp [intOf]; omega⟩
                  · have hlo : ¬ (gv : Int) < (ct : Int) := by have := HLO.out; omega
                    go_wp2_with fail
                    exact ⟨⟨i + 1, by omega, by go_num, HA4.out⟩, by simp [intOf]; omega⟩
            · obtain rfl : n = i := by omega
              have HX := Lib.hid HA.out.sk
              rw [HN.out] at HX
              have HG := Lib.hid HA.out.grown
              clear HA
              go_wp2_with fail
              refine (age_any B g m n C _ HX.out).mono ?_
              rintro e w5 ⟨rfl, rfl⟩
              go_wp2_with fail
              refine (kawake_any _).mono ?_
              rintro e w6 ⟨rfl, g6⟩
              have HG6 := Lib.hid (below_grownBy (grownBy_trans HG.out g6))
              clear g6 HG
              go_wp2_with fail
              go_ret
              exact ⟨rfl, HG6.out⟩

section
variable {H : Type} {enc : TypeId × Value → H} {r : Reach} {b0 : Nat}
theorem sketchLeast_walk (w : World) {v0 v1 : Value} {d0 d1 : DataW H} {p0 p1 : List MemPlace} (k0 : Value.okWide Try.prog w r b0 5 v0) (k1 : Value.okWide Try.prog w r b0 22 v1) (h0 : DataW.Trod enc Try.prog w 0 (fun _ => true) true 5 v0 d0 p0) (h1 : DataW.Trod enc Try.prog w 0 (fun _ => true) true 22 v1 d1 p1) :
    Calls Try.prog 3 #[v0, v1] w fun e w' => e = .returned (.bool true) ∧ Below w.heap.size w w' := by
  obtain ⟨b, rfl, hb⟩ := arg_u8 w k0 h0
  obtain ⟨xs, a, c, rfl, hr⟩ := arg_u64s w k1 h1
  exact sketchLeast_walk0 b hb xs a c w hr
end

end Go.Proofs.Ytfdkncabicmmiaa
