/- slices.Clone, slices.Delete at entries; bucket.Drop. -/
import Derived.Test.YtddpjfmogjcimaaRow4
import Derived.Test.YtddpjfmogjcimaaPlace
import Derived.Test.YtddpjfmogjcimaaPlan3
import Derived.Test.YtddpjfmogjcimaaBkFr
namespace Go.Proofs.Ytddpjfmogjcimaa
open Go Go.RowKit

theorem not_rowB {w : World} {B base : Nat} {T e : TypeId} {vs xs : List Value} {sz n : Nat} {v : Value} (hb : Blk w B T vs) (ho : w.ownsRow base e sz v n xs) (hte : T ≠ e) : v.ownBlock ≠ some B := by
  intro h
  rcases ho.2 with ⟨rfl, _⟩ | ⟨g, cap, cur, rfl, _, hg, _⟩
  · simp [Value.ownBlock] at h
  · simp [Value.ownBlock] at h
    subst h
    unfold Blk at hb
    rw [hg] at hb
    simp at hb
    exact hte hb.2.symm
set_option maxRecDepth 100000 in
set_option maxHeartbeats 4000000 in
theorem clone_any (xs : List Ent) (a : Option Addr) (c : Nat) (w : World) (hx : xs.length ≤ 300) (hr : Rds w 4 (.slice a xs.length c) xs.length (entsV xs)) :
    Calls Try.prog 53 #[.slice a xs.length c] w fun e w' => ∃ v, e = .returned v ∧ w'.ownsRow w.heap.size 41 4 v xs.length (entsV xs) ∧ w.grownBy w' none := by
  obtain ⟨i0, hi, hz0, hz1, hz2⟩ := info_parts infoEnt
  cases a with
  | none =>
    have h0 : xs = [] := by
      rcases hr.2.2 with ⟨h, _⟩ | ⟨_, _, h, _⟩
      · simp at h
        exact h.1
      · cases h
    subst h0
    have hc0 : c = 0 := by
      rcases hr.2.2 with ⟨h, _⟩ | ⟨_, _, h, _⟩
      · simp at h
        exact h
      · cases h
    subst hc0
    have heq := fun W => Lib.run_eql_slice_nil (P := Try.prog) W 27 41 none 0 0 0 0 Try.underlying27
    clear hr
    go_enter Try.func53, Try.ntmps53
    go_wp2_with fail
    go_ret
    exact ⟨_, rfl, World.ownsRow_nil _ _ _ _, grownBy_refl _ _⟩
  | some ad =>
    have heq := fun W => Lib.run_eql_slice_nil (P := Try.prog) W 27 41 (some ad) xs.length c 0 0 Try.underlying27
    have HM0 : Hid ((w.alloc (.cells #[] 41)).ownsRow w.heap.size 41 4 (.slice (some ⟨w.heap.size, 0, none⟩) 0 0) 0 []) := Lib.hid (World.ownsRow_made w #[] 0 (Nat.le_refl _) (by simp) (by simp))
    have HR1 := Lib.hid (hr.grown (World.grownBy_alloc w (.cells #[] 41) none) (by simp))
    clear hr
    go_enter Try.func53, Try.ntmps53
    go_wp2_with (at_builtin; refine wpList_append_rds rfl _ _ 27 rfl w.heap.size 41 i0 _ 4 32 Try.underlying27 hi hz0 hz1 hz2 rfl (by decide) (v := .slice (some ⟨w.heap.size, 0, none⟩) 0 0) (n := 0) (xs := []) (sv := .slice (some ad) xs.length c) rfl HM0.out rfl HR1.out (ents_one xs) (by unfold maxLen; omega) (by omega) (by simp) ?_; intro v5 w5 h1 h2 _; rw [Nat.zero_add, List.nil_append] at h1; have G5 := Lib.hid (grownBy_new h2); have O5 := Lib.hid h1; clear h1 h2)
    go_ret
    exact ⟨_, rfl, O5.out, G5.out⟩

/-- A row taken whole. -/
theorem row_parts {w : World} {B n : Nat} {v : Value} {xs : List Value} (h : w.ownsRow B tE 4 v n xs) (hn : 0 < n) : ∃ g c sp, v = .slice (some ⟨g, 0, none⟩) n c ∧ B ≤ g ∧ Blk w g tE (xs ++ sp) ∧ n ≤ c ∧ c ≤ maxLen ∧ (xs ++ sp).length = c * 4 := by
  rcases h.2 with ⟨_, h0⟩ | ⟨g, c, cur, rfl, hB, hg, h1, h2, h3, h4⟩
  · omega
  · refine ⟨g, c, cur.toList.drop (n * 4), rfl, hB, ?_, h1, h2, ?_⟩
    · rw [← h4, List.take_append_drop]
      exact hg
    · rw [← h4, List.take_append_drop, Array.length_toList, h3]
theorem row_make {w : World} {B g n c : Nat} {xs sp : List Value} (hb : Blk w g tE (xs ++ sp)) (hB : B ≤ g) (hn : n ≤ c) (hc : c ≤ maxLen) (hl : (xs ++ sp).length = c * 4) (hx : xs.length = n * 4) : w.ownsRow B tE 4 (.slice (some ⟨g, 0, none⟩) n c) n xs :=
  owns_of_blk hb hB hn hc hl (by rw [← hx, List.take_left']; rfl) hx
theorem ents_split (xs : List Ent) (i : Nat) (h : i < xs.length) : entsV xs = entsV (xs.take i) ++ ((xs.getD i Ent.zero).cells ++ entsV (xs.drop (i + 1))) := by
  rw [← entsV_one (xs.getD i Ent.zero), ← entsV_app, ← entsV_app]
  congr 1
  rw [show xs.getD i Ent.zero = xs[i] by simp [List.getD, h], List.singleton_append, List.getElem_cons_drop, List.take_append_drop]

set_option maxRecDepth 100000 in
set_option maxHeartbeats 8000000 in
theorem delete_any (xs : List Ent) (i B : Nat) (v : Value) (w : World) (hx : xs.length ≤ 300) (hi : i < xs.length) (ho : w.ownsRow B 41 4 v xs.length (entsV xs)) :
    Calls Try.prog 54 #[v, .int .i64 i, .int .i64 ((i : Int) + 1)] w fun e w' => ∃ v', e = .returned v' ∧ w'.ownsRow B 41 4 v' (xs.take i ++ xs.drop (i + 1)).length (entsV (xs.take i ++ xs.drop (i + 1))) ∧ w.grownBy w' v.ownBlock := by
  obtain ⟨g, c, sp, rfl, hB, hb, hnc, hcm, hl⟩ := row_parts ho (by omega)
  obtain ⟨n, hn⟩ : ∃ n, xs.length = n := ⟨_, rfl⟩
  have hspl := ents_split xs i hi
  have hxl := entsV_len xs
  have hll : (xs.take i ++ xs.drop (i + 1)).length = n - 1 := by rw [List.length_append, List.length_take, List.length_drop]; omega
  have hl1 : (entsV (xs.take i)).length = i * 4 := by rw [entsV_len, List.length_take]; congr 1; omega
  have hl2 : (entsV (xs.drop (i + 1))).length = (n - 1 - i) * 4 := by rw [entsV_len, List.length_drop]; congr 1; omega
  have hXl : (xs.getD i Ent.zero).cells.length = 4 := rfl
  have h1D : ∀ u ∈ entsV (xs.drop (i + 1)), u.oneCell' = true := ents_one _
  have hn3 : n ≤ 300 := by omega
  rw [hll]
  have hfin : entsV (xs.take i ++ xs.drop (i + 1)) = entsV (xs.take i) ++ entsV (xs.drop (i + 1)) := entsV_app _ _
  rw [hfin]
  rw [hn] at hnc hi hxl ⊢
  rw [hspl] at hb hl
  obtain ⟨P1, hP1⟩ : ∃ P, entsV (xs.take i) = P := ⟨_, rfl⟩
  obtain ⟨X, hX⟩ : ∃ P, (xs.getD i Ent.zero).cells = P := ⟨_, rfl⟩
  obtain ⟨D, hD⟩ : ∃ P, entsV (xs.drop (i + 1)) = P := ⟨_, rfl⟩
  rw [hP1, hX, hD] at hb hl
  rw [hP1] at hl1
  rw [hX] at hXl
  rw [hD] at hl2 h1D
  rw [hP1, hD]
  clear hP1 hX hD hspl hll hfin hxl ho
  obtain ⟨wd, hwd⟩ : ∃ wd, w.drew = wd := ⟨_, rfl⟩
  have hb : Blk wd g tE (P1 ++ (X ++ D) ++ sp) := by rw [← hwd]; exact hb.drew
  have hgd : w.grownBy wd (some g) := by rw [← hwd]; exact grownBy_drewN w 1 _
  have hlE : i + (n - (i + 1)) = n - 1 := by omega
  have hb1 : Blk wd g tE (P1 ++ ((X ++ D).take D.length ++ ((X ++ D).drop D.length ++ sp))) := by
    have e : P1 ++ ((X ++ D).take D.length ++ ((X ++ D).drop D.length ++ sp)) = (P1 ++ (X ++ D)) ++ sp := by rw [← List.append_assoc ((X ++ D).take D.length), List.take_append_drop]; simp
    rw [e]; exact hb
  have hbn : Blk (wd.setCells g (i * 4) D) g tE ((P1 ++ D) ++ ((X ++ D).drop D.length ++ sp)) := by
    have h := blk_setCells g tE D ((X ++ D).take D.length) P1 ((X ++ D).drop D.length ++ sp) wd (by rw [List.length_take, List.length_append]; omega) hb1
    rw [hl1] at h
    rw [List.append_assoc]; exact h
  have hbf : Blk ((wd.setCells g (i * 4) D).setCells g ((n - 1) * 4) zeroE) g tE ((P1 ++ D) ++ (zeroE ++ sp)) := by
    have h := blk_setCells g tE zeroE ((X ++ D).drop D.length) (P1 ++ D) sp (wd.setCells g (i * 4) D) (by rw [List.length_drop, List.length_append, hXl]; simp [zeroE]) hbn
    rw [show (P1 ++ D).length = (n - 1) * 4 by rw [List.length_append, hl1, hl2]; omega] at h
    exact h
  have hlen : ((P1 ++ D) ++ (zeroE ++ sp)).length = c * 4 := by
    simp only [List.length_append] at hl ⊢
    rw [show zeroE.length = 4 from rfl]
    omega
  have HOF : Hid (World.ownsRow _ B tE 4 (.slice (some ⟨g, 0, none⟩) (n - 1) c) (n - 1) (P1 ++ D)) := Lib.hid (row_make hbf hB (by omega) hcm hlen (by rw [List.length_append, hl1, hl2]; omega))
  have HGF : Hid (w.grownBy ((wd.setCells g (i * 4) D).setCells g ((n - 1) * 4) zeroE) (some g)) := Lib.hid (grownBy_trans hgd (grownBy_trans (grownBy_setCells g _ _ _) (grownBy_setCells g _ _ _)))
  have HAP : Hid (∀ (ty : TypeId) (a : Addr) (c' : Nat), (D = [] ∨ a = ⟨g, (i + 1) * 4, none⟩) → (Builtin.append_ #[tS, tS] ty #[.slice (some ⟨g, 0, none⟩) i c, .slice (some a) (n - (i + 1)) c']).run Try.prog wd = .ok (.slice (some ⟨g, 0, none⟩) (n - 1) c) (wd.setCells g (i * 4) D)) := Lib.hid (fun ty a c' ha => by
    rw [← hlE]
    refine run_append_in wd ty g i c (n - (i + 1)) a c' _ D hb (by exact hl) (by omega) (by rw [hl2]; congr 1; omega) (fun j u hj => ?_) h1D
    rcases ha with rfl | rfl
    · simp at hj
    · have hjl := (List.getElem?_eq_some_iff.1 hj).1
      have h := hb.cell (j := (i + 1) * 4 + j) (v := u) (by
        rw [List.append_assoc, List.append_assoc, List.getElem?_append_right (by omega), List.getElem?_append_right (by omega), List.getElem?_append_left (by omega)]
        rw [show (i + 1) * 4 + j - P1.length - X.length = j by omega]
        exact hj)
      unfold Addr.add
      by_cases h0 : j = 0
      · rw [if_pos h0]; rw [h0, Nat.add_zero] at h; exact h
      · rw [if_neg h0]; exact h)
  have HCL : Hid (∀ (ty : TypeId) (c' : Nat), (Builtin.clear_ #[tS] ty #[.slice (some ⟨g, (n - 1) * 4, none⟩) 1 c']).run Try.prog (wd.setCells g (i * 4) D) = .ok (.tuple #[]) ((wd.setCells g (i * 4) D).setCells g ((n - 1) * 4) zeroE)) := Lib.hid (fun ty c' => run_clear_one _ ty g _ c' _ hbn (by simp only [List.length_append, List.length_drop]; omega))
  have hD0 : Hid (n = i + 1 → D = []) := Lib.hid (fun h => List.eq_nil_of_length_eq_zero (by omega))
  clear hb hb1 hbn hbf hlen hl hl1 hl2 hXl h1D hB hn
  have hne : ((i : Int) == (i : Int) + 1) = false := beq_eq_false_iff_ne.2 (by omega)
  have hw1 : IntKind.i64.wrap ((i : Int) + 1) = (i : Int) + 1 := IntWalk.i64_in _ ⟨by omega, by omega⟩
  have k1 : (i : Int) + 1 ≤ (n : Int) := by omega
  have k2 : (n : Int) ≤ (c : Int) := by omega
  have k3 : (0 : Int) ≤ (i : Int) + 1 := by omega
  have k4 : (i : Int) ≤ (i : Int) + 1 := by omega
  have k5 : (i : Int) ≤ (c : Int) := by omega
  have ht1 : ((i : Int) + 1).toNat = i + 1 := by omega
  go_enter Try.func54, Try.ntmps54
  have m1 : (0 : Int) ≤ ((n - 1 : Nat) : Int) := by omega
  have m2 : ((n - 1 : Nat) : Int) ≤ (n : Int) := by omega
  have m3 : n - (n - 1) = 1 := by omega
  have m4 : ¬ c = n - 1 := by omega
  go_wp2_with fail
  refine wp_region_planM (fun _ => True) [([], [0, 1, 2, 3, 4, 5], 6, false), ([], [], 7, false)] (by kernel_rfl) (by kernel_rfl) ?_
  refine wpPlanM_here ?_
  rw [hwd]
  clear hwd
  by_cases hci : c = i + 1
  · have hcd := hci
    subst hcd
    obtain rfl : n = i + 1 := by omega
    have hD := hD0.out rfl
    have hap0 := fun ty => HAP.out ty ⟨g, 0, none⟩ 0 (.inl hD)
    simp only [Nat.sub_self] at hap0
    subst hD
    iterate 6 ((apply wpReadD_step rfl (by rfl); (· intro wS hSw; (try have hSw := hSw rfl); (try dsimp only at hSw); (try subst hSw); go_simp; (try with_reducible rfl))); try simp only [Act.put, List.setIfInBounds_toArray, List.set_cons_zero, List.set_cons_succ])
    refine wpReadD_nil ?_
    refine wpOp_list rfl (fun K hK => ?_)
    refine step_append_run (by rfl) _ _ tS tS (by rfl) (by rfl) (by rfl) (hap0 _) (hK _ _ ⟨_, fun _ h => h, fun hf => (by cases hf), ?_⟩)
    clear hK K
    try simp only [Act.put, List.setIfInBounds_toArray, List.set_cons_zero, List.set_cons_succ]
    refine wpPlanM_here ?_
    refine wpReadD_nil ?_
    refine wpOp_list rfl (fun K hK => ?_)
    go_simp
    refine hK _ _ ⟨_, fun _ h => h, fun hf => (by cases hf), ?_⟩
    clear hK K
    try simp only [Act.put, List.setIfInBounds_toArray, List.set_cons_zero, List.set_cons_succ]
    refine wpPlanM_nil (NoPanic.normal ?_)
    have hcl := HCL.out
    simp only [Nat.add_sub_cancel] at hcl m1 m2 m3 m4 HOF HGF
    go_wp2_with fail
    go_ret
    have ho := HOF.out
    rw [List.append_nil] at ho
    exact ⟨_, rfl, ho, HGF.out⟩
  · iterate 6 ((apply wpReadD_step rfl (by rfl); (· intro wS hSw; (try have hSw := hSw rfl); (try dsimp only at hSw); (try subst hSw); go_simp; (try with_reducible rfl))); try simp only [Act.put, List.setIfInBounds_toArray, List.set_cons_zero, List.set_cons_succ])
    refine wpReadD_nil ?_
    refine wpOp_list rfl (fun K hK => ?_)
    refine step_append_run (by rfl) _ _ tS tS (by rfl) (by rfl) (by rfl) (HAP.out _ _ _ (.inr rfl)) (hK _ _ ⟨_, fun _ h => h, fun hf => (by cases hf), ?_⟩)
    clear hK K
    try simp only [Act.put, List.setIfInBounds_toArray, List.set_cons_zero, List.set_cons_succ]
    refine wpPlanM_here ?_
    refine wpReadD_nil ?_
    refine wpOp_list rfl (fun K hK => ?_)
    go_simp
    refine hK _ _ ⟨_, fun _ h => h, fun hf => (by cases hf), ?_⟩
    clear hK K
    try simp only [Act.put, List.setIfInBounds_toArray, List.set_cons_zero, List.set_cons_succ]
    refine wpPlanM_nil (NoPanic.normal ?_)
    have hcl := HCL.out
    go_wp2_with fail
    go_ret
    exact ⟨_, rfl, HOF.out, HGF.out⟩

set_option maxRecDepth 100000 in
set_option maxHeartbeats 4000000 in
theorem drop_any (d p : Int) (xs : List Ent) (h : Int) (a : Option Addr) (c : Nat) (w : World) (hx : xs.length ≤ 300) (hs : xs.Pairwise (fun x y => U x.h < U y.h)) (hr : Rds w 4 (.slice a xs.length c) xs.length (entsV xs)) :
    Calls Try.prog 23 #[.agg #[.int .i64 d, .int .i64 p, .slice a xs.length c], .int .u64 h] w fun e w' => ∃ (i : Nat) (a' : Option Addr) (c' : Nat) (ys : List Ent), Plc xs h i ∧ ys = (if hasB xs h i = true then xs.take i ++ xs.drop (i + 1) else xs) ∧ e = .returned (.tuple #[.agg #[.int .i64 d, .int .i64 p, .slice a' ys.length c'], .bool (hasB xs h i)]) ∧ w'.ownsRow w.heap.size 41 4 (.slice a' ys.length c') ys.length (entsV ys) ∧ w.grownBy w' none := by
  have HR := Lib.hid hr
  have HS := Lib.hid hs
  clear hr hs
  go_enter Try.func23, Try.ntmps23
  go_wp2_with fail
  obtain ⟨w1, hw1⟩ : ∃ w1, (w.alloc (.cells #[.int .i64 d, .int .i64 p, .slice a xs.length c] 29)).alloc (.cells #[.int .i64 0, .int .i64 0, .slice none 0 0] 29) = w1 := ⟨_, rfl⟩
  have hb0 : Blk w1 w.heap.size 29 [.int .i64 d, .int .i64 p, .slice a xs.length c] := by rw [← hw1]; exact (Blk.new w _ _).alloc _
  have hb1 : Blk w1 (w.heap.size + 1) 29 [.int .i64 0, .int .i64 0, .slice none 0 0] := by
    rw [← hw1]
    have := Blk.new (w.alloc (.cells #[.int .i64 d, .int .i64 p, .slice a xs.length c] 29)) 29 [.int .i64 0, .int .i64 0, .slice none 0 0]
    rw [World.size_alloc] at this
    exact this
  have hg1 : w.grownBy w1 none := by rw [← hw1]; exact grownBy_trans (World.grownBy_alloc w _ none) (World.grownBy_alloc _ _ none)
  rw [hw1]
  have HB0 := Lib.hid hb0
  have HB1 := Lib.hid hb1
  have HG1 := Lib.hid hg1
  have HP := Lib.hid (place_any d p xs h a c w1 hx HS.out (HR.out.grown hg1 (by simp)))
  clear hw1 hb0 hb1 hg1
  refine HP.out.mono ?_
  rintro e w2 ⟨i, rfl, hpl, g2⟩
  have HPL := Lib.hid hpl
  have HB0 := Lib.hid (HB0.out.grown g2 (by simp))
  have HB1 := Lib.hid (HB1.out.grown g2 (by simp))
  have HG2 := Lib.hid (grownBy_trans HG1.out g2)
  have x0 := HB0.out.cell (j := 0) rfl; have x1 := HB0.out.cell (j := 1) rfl; have x2 := HB0.out.cell (j := 2) rfl
  clear hpl g2 HG1 HP
  go_wp2_with fail
  refine (clone_any xs a c w2 hx (HR.out.grown HG2.out (by simp))).mono ?_
  rintro e w3 ⟨v3, rfl, o3, g3⟩
  have HB0 := Lib.hid (HB0.out.grown g3 (by simp))
  have HB1 := Lib.hid (HB1.out.grown g3 (by simp))
  have HG3 := Lib.hid (grownBy_trans HG2.out g3)
  have HO3 := Lib.hid (ownsRow_mono o3 HG2.out.size)
  clear o3 g3 HG2 x0 x1 x2
  have HHB : Hid (hasB xs h i = hasB xs h i) := Lib.hid rfl
  have hlt : hasB xs h i = true → i < xs.length := fun e => by
    unfold hasB at e
    rw [Bool.and_eq_true] at e
    exact of_decide_eq_true e.1
  obtain ⟨tb, htb⟩ : ∃ tb, hasB xs h i = tb := ⟨_, rfl⟩
  rw [htb] at hlt ⊢
  have HTB := Lib.hid htb
  clear htb HHB
  cases tb
  · obtain ⟨a3, c3, rfl⟩ := (Rds.of_owns HO3.out).slice
    have x0 := HB0.out.cell (j := 0) rfl; have x1 := HB0.out.cell (j := 1) rfl; have x2 := HB0.out.cell (j := 2) rfl
    clear hlt
    go_wp2_with fail
    refine (with_any d p (.slice a xs.length c) (.slice a3 xs.length c3) a a3 _ _ c c3 rfl rfl _).mono ?_
    rintro e w5 ⟨rfl, g5⟩
    have HB1 := Lib.hid (HB1.out.grown g5 (by simp))
    have HG5 := Lib.hid (grownBy_trans HG3.out g5)
    have HO5 := Lib.hid (owns_grown HO3.out g5)
    clear g5 x0 x1 x2
    have y0 := HB1.out.cell (j := 0) rfl; have y1 := HB1.out.cell (j := 1) rfl; have y2 := HB1.out.cell (j := 2) rfl
    have f0 := HB1.out.frozen 0; have f1 := HB1.out.frozen 1; have f2 := HB1.out.frozen 2
    go_wp2_with fail
    have hbf := ((HB1.out.setCell 0 (.int .i64 d)).setCell 1 (.int .i64 p)).setCell 2 (.slice a3 xs.length c3)
    have hgf : w5.grownBy (((w5.setCell ⟨w.heap.size + 1, 0, none⟩ (.int .i64 d)).setCell ⟨w.heap.size + 1, 1, none⟩ (.int .i64 p)).setCell ⟨w.heap.size + 1, 2, none⟩ (.slice a3 xs.length c3)) (some (w.heap.size + 1)) := grownBy_trans (grownBy_trans (grownBy_setCell _ _ _) (grownBy_setCell _ _ _)) (grownBy_setCell _ _ _)
    simp only [List.set_cons_zero, List.set_cons_succ] at hbf
    have z0 := hbf.cell (j := 0) rfl; have z1 := hbf.cell (j := 1) rfl; have z2 := hbf.cell (j := 2) rfl
    refine bodyPost_ret (v := .tuple #[.agg #[.int .i64 d, .int .i64 p, .slice a3 xs.length c3], .bool false]) (by simp [results, Try.results23, go_sem, z0, z1, z2]) rfl ?_
    refine ⟨i, a3, _, xs, HPL.out, ?_, by rw [HTB.out], HO5.out.kept hgf (.inr (not_rowB HB1.out HO5.out (by decide))), grownBy_base2 HG5.out hgf (by omega)⟩
    rw [HTB.out]
    rfl
  · have hil := hlt rfl
    have hw1 : IntKind.i64.wrap ((i : Int) + 1) = (i : Int) + 1 := IntWalk.i64_in _ ⟨by omega, by omega⟩
    clear hlt
    go_wp2_with fail
    refine (delete_any xs i w.heap.size v3 w3 hx hil HO3.out).mono ?_
    rintro e w4 ⟨v4, rfl, o4, g4⟩
    obtain ⟨a4, c4, rfl⟩ := (Rds.of_owns o4).slice
    have HB0 := Lib.hid (Blk.grown HB0.out g4 (fun e => not_rowB HB0.out HO3.out (by decide) e.symm))
    have HB1 := Lib.hid (Blk.grown HB1.out g4 (fun e => not_rowB HB1.out HO3.out (by decide) e.symm))
    have HG4 := Lib.hid (grownBy_own2 HG3.out HO3.out (Nat.le_refl _) g4)
    have HO4 := Lib.hid o4
    clear o4 g4
    have x0 := HB0.out.cell (j := 0) rfl; have x1 := HB0.out.cell (j := 1) rfl; have x2 := HB0.out.cell (j := 2) rfl
    obtain ⟨n4, hn4⟩ : ∃ n, (xs.take i ++ xs.drop (i + 1)).length = n := ⟨_, rfl⟩
    rw [hn4] at HO4 ⊢
    have HN4 := Lib.hid hn4
    clear hn4
    go_wp2_with fail
    refine (with_any d p (.slice a xs.length c) (.slice a4 n4 c4) a a4 _ _ c c4 rfl rfl _).mono ?_
    rintro e w5 ⟨rfl, g5⟩
    have HB1 := Lib.hid (HB1.out.grown g5 (by simp))
    have HG5 := Lib.hid (grownBy_trans HG4.out g5)
    have HO5 := Lib.hid (owns_grown HO4.out g5)
    clear g5 x0 x1 x2
    have y0 := HB1.out.cell (j := 0) rfl; have y1 := HB1.out.cell (j := 1) rfl; have y2 := HB1.out.cell (j := 2) rfl
    have f0 := HB1.out.frozen 0; have f1 := HB1.out.frozen 1; have f2 := HB1.out.frozen 2
    go_wp2_with fail
    have hbf := ((HB1.out.setCell 0 (.int .i64 d)).setCell 1 (.int .i64 p)).setCell 2 (.slice a4 n4 c4)
    have hgf : w5.grownBy (((w5.setCell ⟨w.heap.size + 1, 0, none⟩ (.int .i64 d)).setCell ⟨w.heap.size + 1, 1, none⟩ (.int .i64 p)).setCell ⟨w.heap.size + 1, 2, none⟩ (.slice a4 n4 c4)) (some (w.heap.size + 1)) := grownBy_trans (grownBy_trans (grownBy_setCell _ _ _) (grownBy_setCell _ _ _)) (grownBy_setCell _ _ _)
    simp only [List.set_cons_zero, List.set_cons_succ] at hbf
    have z0 := hbf.cell (j := 0) rfl; have z1 := hbf.cell (j := 1) rfl; have z2 := hbf.cell (j := 2) rfl
    refine bodyPost_ret (v := .tuple #[.agg #[.int .i64 d, .int .i64 p, .slice a4 n4 c4], .bool true]) (by simp [results, Try.results23, go_sem, z0, z1, z2]) rfl ?_
    refine ⟨i, a4, _, xs.take i ++ xs.drop (i + 1), HPL.out, ?_, by rw [HN4.out, HTB.out], by rw [HN4.out]; exact HO5.out.kept hgf (.inr (not_rowB HB1.out HO5.out (by decide))), grownBy_base2 HG5.out hgf (by omega)⟩
    rw [HTB.out]
    rfl

end Go.Proofs.Ytddpjfmogjcimaa
