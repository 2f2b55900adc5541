/- The walks of the reference of layer 16. -/
import Derived.Test.YtndccejgljknkaaTally4
import Derived.Test.YtndccejgljknkaaTally2
namespace Go.Proofs.Ytndccejgljknkaa
open Go.RowKit

theorem rsadd_no (v : Value) (xs : List Int) (k x : Int) (w : World) (hr : Rds w 1 v xs.length (xs.map (Value.int .i64))) (h : inB k xs.length = false ∨ x < 0) :
    Calls Try.prog 14 #[v, .int .i64 k, .int .i64 x] w fun e w' => e = .returned (.tuple #[v, .bool false]) ∧ w = w' := by
  obtain ⟨a, c, rfl⟩ := hr.slice
  have hm := hr.2.1
  unfold maxLen at hm
  clear hr
  by_cases h0 : k < 0
  · go_enter Try.func14, Try.ntmps14
    go_wp2
    go_ret2
    exact ⟨rfl, rfl⟩
  · by_cases h1 : (xs.length : Int) ≤ k
    · go_enter Try.func14, Try.ntmps14
      go_wp2
      go_ret2
      exact ⟨rfl, rfl⟩
    · have h2 : x < 0 := by
        rcases h with h | h
        · simp [inB] at h; omega
        · exact h
      clear h
      go_enter Try.func14, Try.ntmps14
      go_wp2
      go_ret2
      exact ⟨rfl, rfl⟩

theorem rsadd_yes (v : Value) (xs : List Int) (k : Nat) (x : Int) (w : World) (hr : Rds w 1 v xs.length (xs.map (Value.int .i64))) (hl : xs.length ≤ 64) (hk : k < xs.length) (hx : 0 ≤ x) (hx1 : x ≤ 9223372036854775807)
    (hb : 0 ≤ xs.getD k 0 ∧ xs.getD k 0 ≤ 1152921504606846976) :
    Calls Try.prog 14 #[v, .int .i64 k, .int .i64 x] w fun e w' => ∃ v', e = .returned (.tuple #[v', .bool true]) ∧
      w'.ownsRow w.heap.size 3 1 v' xs.length ((xs.set k (capN (xs.getD k 0) x)).map (Value.int .i64)) ∧ w.grownBy w' none := by
  obtain ⟨i0, hi, hz0, hz1, hz2⟩ := info_parts infoInt
  obtain ⟨a, c, rfl⟩ := hr.slice
  have hr0 := Lib.hid hr
  clear hr
  have hcap : capN (xs.getD k 0) x = if x > 1152921504606846976 - xs.getD k 0 then 1152921504606846976 else xs.getD k 0 + x := by unfold capN; split <;> split <;> omega
  have hset : (xs.set k (capN (xs.getD k 0) x)).map (Value.int .i64) = (xs.map (Value.int .i64)).set k (.int .i64 (if x > 1152921504606846976 - xs.getD k 0 then 1152921504606846976 else xs.getD k 0 + x)) := by
    rw [hcap, List.map_set]
  have hg := getD_map_int xs k hk
  rw [hset]
  clear hset hcap
  have HG := Lib.hid hg
  clear hg
  generalize xs.getD k 0 = y at *
  have hlm : (xs.length : Int) ≤ 64 := by omega
  by_cases hgt : x > 1152921504606846976 - y
  · rw [if_pos hgt]
    go_enter Try.func14, Try.ntmps14
    go_wp2_with (at_builtin; refine wpList_append_rds rfl _ _ 22 rfl w.heap.size 3 i0 (.int .i64 0) 1 8 Try.underlying22 hi hz0 hz1 hz2 rfl (by decide) (v := .slice (some ⟨w.heap.size, 0, none⟩) 0 0) (n := 0) (xs := []) (sv := .slice a xs.length c) rfl (World.ownsRow_made w #[] 0 (Nat.le_refl _) (by simp) (by simp)) rfl (hr0.out.alloc _) (by simp [Value.oneCell']) (by unfold maxLen; omega) (by omega) (by simp) ?_; intro v' w' h1 h2 _; simp only [Nat.zero_add, List.nil_append] at h1; obtain ⟨g, cap, rfl⟩ := ownsRow_pos h1 (by omega); have hcl := (h1.cellAt k (by omega)).trans HG.out; have hfz := h1.frozenAt k; have hge := (h1.lt g rfl).1; have H1 := Lib.hid h1; have H2 := Lib.hid h2; clear h1 h2)
    go_ret2
    exact ⟨_, rfl, (H1.out.stored k _).1, grownBy_base H2.out (grownBy_setCell _ ⟨g, k, none⟩ _) hge⟩
  · rw [if_neg hgt]
    go_enter Try.func14, Try.ntmps14
    go_wp2_with (at_builtin; refine wpList_append_rds rfl _ _ 22 rfl w.heap.size 3 i0 (.int .i64 0) 1 8 Try.underlying22 hi hz0 hz1 hz2 rfl (by decide) (v := .slice (some ⟨w.heap.size, 0, none⟩) 0 0) (n := 0) (xs := []) (sv := .slice a xs.length c) rfl (World.ownsRow_made w #[] 0 (Nat.le_refl _) (by simp) (by simp)) rfl (hr0.out.alloc _) (by simp [Value.oneCell']) (by unfold maxLen; omega) (by omega) (by simp) ?_; intro v' w' h1 h2 _; simp only [Nat.zero_add, List.nil_append] at h1; obtain ⟨g, cap, rfl⟩ := ownsRow_pos h1 (by omega); have hcl := (h1.cellAt k (by omega)).trans HG.out; have hfz := h1.frozenAt k; have hge := (h1.lt g rfl).1; have H1 := Lib.hid h1; have H2 := Lib.hid h2; clear h1 h2)
    go_ret2
    exact ⟨_, rfl, (H1.out.stored k _).1, grownBy_base H2.out (grownBy_setCell _ ⟨g, k, none⟩ _) hge⟩

/-- How much a count is above another, as the reference reckons it. -/
theorem over_cases (c o : Int) (hc : 0 ≤ c) : (o ≤ 0 → over c o = c) ∧ (0 < o → c ≤ o → over c o = 0) ∧ (0 < o → o < c → over c o = c - o) := by
  unfold over
  refine ⟨?_, ?_, ?_⟩ <;> omega

theorem set_upto (f : Nat → Int) (cs : List Int) (k : Nat) (hk : k < cs.length) : ((upto f k ++ cs.drop k).map (Value.int .i64)).set k (.int .i64 (f k)) = (upto f (k + 1) ++ cs.drop (k + 1)).map (Value.int .i64) := by
  rw [← List.map_set, upto_succ, List.set_append, upto_length, if_neg (Nat.lt_irrefl _), Nat.sub_self, List.drop_eq_getElem_cons hk, List.set_cons_zero]
  simp

theorem upto_keep (f : Nat → Int) (cs : List Int) (k : Nat) (hk : k < cs.length) (h : f k = cs.getD k 0) : upto f k ++ cs.drop k = upto f (k + 1) ++ cs.drop (k + 1) := by
  rw [upto_succ, h, List.drop_eq_getElem_cons hk]
  simp [List.getD, hk]

theorem rssince (a b : Option Addr) (c1 c2 : Nat) (cs was : List Int) (hpos : 1 ≤ cs.length) (hlen : cs.length ≤ 64) (hcs : ∀ c ∈ cs, 0 ≤ c ∧ c ≤ 1152921504606846976) (w : World)
    (hwas : ∀ c ∈ was, -9223372036854775808 ≤ c ∧ c ≤ 9223372036854775807)
    (hr : Rds w 1 (.slice a cs.length c1) cs.length (cs.map (Value.int .i64))) (hu : Rds w 1 (.slice b was.length c2) was.length (was.map (Value.int .i64))) :
    Calls Try.prog 15 #[.slice a cs.length c1, .slice b was.length c2] w fun e w' => ∃ v', e = .returned v' ∧
      w'.ownsRow w.heap.size 3 1 v' cs.length ((upto (sinceF cs was) cs.length).map (Value.int .i64)) ∧ w.grownBy w' none := by
  obtain ⟨i0, hi, hz0, hz1, hz2⟩ := info_parts infoInt
  have hr0 := Lib.hid hr
  have hu0 := Lib.hid hu
  have hm := hu.2.1
  unfold maxLen at hm
  clear hr hu
  go_enter Try.func15, Try.ntmps15
  go_wp2_with (at_builtin; refine wpList_append_rds rfl _ _ 22 rfl w.heap.size 3 i0 (.int .i64 0) 1 8 Try.underlying22 hi hz0 hz1 hz2 rfl (by decide) (v := .slice (some ⟨w.heap.size, 0, none⟩) 0 0) (n := 0) (xs := []) (sv := .slice a cs.length c1) rfl (World.ownsRow_made w #[] 0 (Nat.le_refl _) (by simp) (by simp)) rfl (hr0.out.alloc _) (by simp [Value.oneCell']) (by unfold maxLen; omega) (by omega) (by simp) ?_; intro v' w' h1 h2 _; simp only [Nat.zero_add, List.nil_append] at h1; obtain ⟨g, cap, rfl⟩ := ownsRow_pos h1 (by omega); have hge := (h1.lt g rfl).1; have H1 := Lib.hid h1; have H2 := Lib.hid h2; clear h1 h2)
  go_loopw [6] (fun i wr => ∃ k : Nat, k ≤ cs.length ∧ i = .int .i64 k ∧ wr.ownsRow w.heap.size 3 1 (.slice (some ⟨g, 0, none⟩) cs.length cap) cs.length ((upto (sinceF cs was) k ++ cs.drop k).map (Value.int .i64)) ∧ w.grownBy wr none) (fun i _ => cs.length - (intOf i).toNat)
  case atStart => exact ⟨0, Nat.zero_le _, rfl, by simpa [upto] using H1.out, grownBy_new H2.out⟩
  case round =>
    obtain ⟨k, hk, rfl, ho, hg⟩ := hrel
    by_cases hlt : k < cs.length
    · have hmem : cs.getD k 0 ∈ cs := by simp [hlt, List.getD]
      have hcb := hcs _ hmem
      have hcell : wr.cell? ⟨g, k, none⟩ = some (.int .i64 (cs.getD k 0)) := by
        rw [ho.cellAt k (by omega), getD_map_int _ _ (by simp [upto_length]; omega)]
        congr 2
        simp [List.getD, List.getElem?_append, upto_length, List.getElem?_drop]
      have hfz := ho.frozenAt k
      have hov := over_cases (cs.getD k 0) (was.getD k 0) hcb.1
      have hsf : sinceF cs was k = over (cs.getD k 0) (was.getD k 0) := rfl
      have hset := set_upto (sinceF cs was) cs k hlt
      have hkeep := upto_keep (sinceF cs was) cs k hlt
      rw [hsf] at hset hkeep
      have HSET := Lib.hid hset
      have HKEEP := Lib.hid hkeep
      have HO := Lib.hid ho
      have HG := Lib.hid hg
      have hst := fun u => (ho.stored k u)
      have HST := Lib.hid hst
      clear hset hkeep ho hg hst hsf hmem
      by_cases hw : k < was.length
      · obtain ⟨b2, o2, rfl, hc2⟩ := hu0.out.at' (by omega)
        have hwm : was.getD k 0 ∈ was := by simp [hw, List.getD]
        have hwb := hwas _ hwm
        have hcw : wr.cell? ⟨b2, o2 + k, none⟩ = some (.int .i64 (was.getD k 0)) := by
          obtain ⟨b3, o3, he3, hc3⟩ := (hu0.out.grown HG.out (by simp)).at' (by omega)
          simp only [Option.some.injEq, Addr.mk.injEq] at he3
          obtain ⟨rfl, rfl, _⟩ := he3
          exact hc3 k _ (getD_map_int was k hw)
        clear hc2 hwm
        generalize cs.getD k 0 = c at *
        generalize was.getD k 0 = o at *
        by_cases ho : o ≤ 0
        · have e1 := hov.1 ho
          rw [e1] at HKEEP
          have HK := Lib.hid (HKEEP.out rfl)
          clear hov e1 HSET HKEEP
          go_wp2
          go_roundw
          case rel => exact ⟨k + 1, by omega, by go_num, by rw [← HK.out]; exact HO.out, HG.out⟩
          case measure => simp [intOf]; omega
        · by_cases hco : c ≤ o
          · have e1 := hov.2.1 (by omega) hco
            rw [e1] at HSET
            have hb : decide (c ≤ o) = true := by simp [hco]
            clear hov e1 HKEEP hco
            go_wp2
            go_quiet (fail)
            go_wp2
            go_roundw
            case rel => exact ⟨k + 1, by omega, by go_num, by rw [← HSET.out]; exact (HST.out _).1, grownBy_base2 (grownBy_trans HG.out (grownBy_drewN _ nq _)) (grownBy_setCell _ ⟨g, k, none⟩ _) hge⟩
            case measure => simp [intOf]; omega
          · have e1 := hov.2.2 (by omega) (by omega)
            rw [e1] at HSET
            have hw1 := IntWalk.i64_in (c - o) (by omega)
            have hb : decide (c ≤ o) = false := by simp; omega
            have hco2 : o < c := by omega
            clear hov e1 HKEEP hco
            go_wp2
            go_quiet (fail)
            have hcell' : (wr.drewN nq).cell? ⟨g, k, none⟩ = some (.int .i64 c) := hcell
            have hcw' : (wr.drewN nq).cell? ⟨b2, o2 + k, none⟩ = some (.int .i64 o) := hcw
            have hfz' : (wr.drewN nq).frozen? ⟨g, k, none⟩ = false := hfz
            have HST' : Hid (∀ u, ((wr.drewN nq).setCell ⟨g, k, none⟩ u).ownsRow w.heap.size 3 1 (.slice (some ⟨g, 0, none⟩) cs.length cap) cs.length (((upto (sinceF cs was) k ++ cs.drop k).map (Value.int .i64)).set k u)) := Lib.hid (fun u => (HST.out u).1)
            have HG' : Hid (w.grownBy (wr.drewN nq) none) := Lib.hid (grownBy_trans HG.out (grownBy_drewN _ _ _))
            clear hcell hcw hfz HST HG HO
            generalize wr.drewN nq = wq at *
            go_wp2
            go_still_tail 10, (by kernel_rfl)
            go_wp2
            go_roundw
            case rel => exact ⟨k + 1, by omega, by go_num, by rw [← HSET.out]; exact HST'.out _, grownBy_base2 HG'.out (grownBy_trans (grownBy_setCell _ ⟨g, k, none⟩ _) (grownBy_drewN _ 1 _)) hge⟩
            case measure => simp [intOf]; omega
      · have h0 : was.getD k 0 = 0 := by simp [List.getD, List.getElem?_eq_none (Nat.le_of_not_lt hw)]
        rw [h0] at hov HKEEP
        have e1 := hov.1 (Int.le_refl _)
        rw [e1] at HKEEP
        have HK := Lib.hid (HKEEP.out rfl)
        clear hov e1 h0 HSET HKEEP
        go_wp2
        go_roundw
        case rel => exact ⟨k + 1, by omega, by go_num, by rw [← HK.out]; exact HO.out, HG.out⟩
        case measure => simp [intOf]; omega
    · obtain rfl : k = cs.length := by omega
      have HO := Lib.hid ho
      clear ho
      go_wp2
      go_ret
      exact ⟨_, rfl, by simpa using HO.out, hg⟩

end Go.Proofs.Ytndccejgljknkaa
