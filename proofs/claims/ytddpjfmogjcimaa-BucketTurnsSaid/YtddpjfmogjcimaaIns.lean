/- slices.Insert at entries. -/
import Derived.Test.YtddpjfmogjcimaaDrop
import Derived.Lib.Overlaps
import Derived.Laws.Externs
namespace Go.Proofs.Ytddpjfmogjcimaa
open Go Go.RowKit

theorem shape_blk {w : World} {g : Nat} {cs : List Value} (hb : Blk w g tE cs) : w.shape? g = some (tE, cs.length) := by
  unfold World.shape?
  unfold Blk at hb
  rw [hb]
  simp
theorem run_over (w : World) (vb g o lb cb : Nat) (vs cs : List Value) (hv : Blk w vb tE vs) (hb : Blk w g tE cs) (hne : vb ≠ g) (hl : cs.length ≠ 0) :
    (callFunc 69 #[.slice (some ⟨vb, 0, none⟩) 1 1, .slice (some ⟨g, o, none⟩) lb cb]).run Try.prog w = .ok (.value (.bool false)) w := by
  obtain ⟨i0, hi, hz0, hz1, hz2⟩ := info_parts infoEnt
  have hsz : ∀ w, (Go.sizeOf tE).run Try.prog w = .ok 4 w := fun w => by simp [sizeOf, typeInfo, hi, hz1]
  rw [run_callFunc_extern Try.func69 (by kernel_rfl) (by kernel_rfl) (by kernel_rfl) (e := Extern.SlicesOverlaps.overlaps #[tS, tS] #[4]) (by kernel_rfl),
    Lib.run_overlaps_apart w tS 4 tE Try.underlying27 4 hsz ⟨vb, 0, none⟩ ⟨g, o, none⟩ 1 1 lb cb hne tE tE _ _ (shape_blk hv) (shape_blk hb) hl (hv.frozen 0) (hv.frozen _)]
  rfl
theorem ents_cut (xs : List Ent) (i : Nat) (_h : i ≤ xs.length) : entsV xs = entsV (xs.take i) ++ entsV (xs.drop i) := by
  rw [← entsV_app, List.take_append_drop]

set_option maxRecDepth 100000 in
set_option maxHeartbeats 4000000 in
theorem insert_end (xs : List Ent) (x : Ent) (B vb : Nat) (v : Value) (w : World) (hx : xs.length ≤ 255) (ho : w.ownsRow B 41 4 v xs.length (entsV xs)) (hvb : Blk w vb 41 x.cells) (hBs : B ≤ w.heap.size) :
    Calls Try.prog 55 #[v, .int .i64 xs.length, .slice (some ⟨vb, 0, none⟩) 1 1] w fun e w' => ∃ v', e = .returned v' ∧ w'.ownsRow B 41 4 v' (xs.length + 1) (entsV (xs ++ [x])) ∧ w.grownBy w' v.ownBlock := by
  obtain ⟨i0, hi, hz0, hz1, hz2⟩ := info_parts infoEnt
  have HO := Lib.hid ho
  have HV := Lib.hid (Rds.of_blk (sz := 4) (n := 1) (c := 1) hvb rfl (by unfold maxLen; omega))
  rw [entsV_app, entsV_one]
  obtain ⟨n, hn⟩ : ∃ n, xs.length = n := ⟨_, rfl⟩
  rw [hn] at HO hx ⊢
  have hee : ((n : Int) == (n : Int)) = true := by simp
  obtain ⟨av, cv, rfl⟩ := (Rds.of_owns HO.out).slice
  clear ho hvb hn
  cases av with
  | none =>
    have hnn : n = 0 ∧ cv = 0 := by
      rcases HO.out.2 with ⟨h1, h2⟩ | ⟨g, cap, cur, h1, _⟩
      · simp at h1
        exact ⟨h2, h1.2⟩
      · simp at h1
    obtain ⟨rfl, rfl⟩ := hnn
    go_enter Try.func55, Try.ntmps55
    go_wp2_with (at_builtin; refine wpList_append_rds rfl _ _ 27 rfl B 41 i0 _ 4 32 Try.underlying27 hi hz0 hz1 hz2 rfl (by decide) (v := .slice none 0 0) (n := 0) (sv := .slice (some ⟨vb, 0, none⟩) 1 1) rfl HO.out rfl HV.out (by simp [Value.oneCell', Ent.cells]) (by unfold maxLen; omega) (by omega) hBs ?_; intro v5 w5 h1 h2 _; have G5 := Lib.hid h2; have O5 := Lib.hid h1; clear h1 h2)
    go_ret
    exact ⟨_, rfl, O5.out, G5.out⟩
  | some ad =>
    have hcn : n ≤ cv := by
      rcases HO.out.2 with ⟨h1, _⟩ | ⟨g, cap, cur, h1, _, _, h4, _⟩
      · simp at h1
      · simp at h1
        omega
    have hci : (n : Int) ≤ (cv : Int) := by omega
    by_cases hce : cv = n
    · subst hce
      go_enter Try.func55, Try.ntmps55
      go_wp2_with (at_builtin; refine wpList_append_rds rfl _ _ 27 rfl B 41 i0 _ 4 32 Try.underlying27 hi hz0 hz1 hz2 rfl (by decide) (v := .slice (some ad) cv cv) (n := cv) (sv := .slice (some ⟨vb, 0, none⟩) 1 1) rfl HO.out rfl HV.out (by simp [Value.oneCell', Ent.cells]) (by unfold maxLen; omega) (by omega) hBs ?_; intro v5 w5 h1 h2 _; have G5 := Lib.hid h2; have O5 := Lib.hid h1; clear h1 h2)
      go_ret
      exact ⟨_, rfl, O5.out, G5.out⟩
    · go_enter Try.func55, Try.ntmps55
      go_wp2_with (at_builtin; refine wpList_append_rds rfl _ _ 27 rfl B 41 i0 _ 4 32 Try.underlying27 hi hz0 hz1 hz2 rfl (by decide) (v := .slice (some ad) n cv) (n := n) (sv := .slice (some ⟨vb, 0, none⟩) 1 1) rfl HO.out rfl HV.out (by simp [Value.oneCell', Ent.cells]) (by unfold maxLen; omega) (by omega) hBs ?_; intro v5 w5 h1 h2 _; have G5 := Lib.hid h2; have O5 := Lib.hid h1; clear h1 h2)
      go_ret
      exact ⟨_, rfl, O5.out, G5.out⟩

/-- A part of a row is read at its place. -/
theorem part_read {w : World} {g : Nat} {pre us post : List Value} (hb : Blk w g tE (pre ++ (us ++ post))) {o : Nat} (ho : pre.length = o) : ∀ j u, us[j]? = some u → w.cell? ((⟨g, o, none⟩ : Addr).add j) = some u := fun j u hj => by
  have hjl := (List.getElem?_eq_some_iff.1 hj).1
  have h := hb.cell (j := o + j) (v := u) (by
    rw [List.getElem?_append_right (by omega), List.getElem?_append_left (by omega), show o + j - pre.length = j by omega]
    exact hj)
  unfold Addr.add
  by_cases h0 : j = 0
  · rw [if_pos h0]; rw [h0, Nat.add_zero] at h; exact h
  · rw [if_neg h0]; exact h

set_option maxRecDepth 100000 in
set_option maxHeartbeats 8000000 in
theorem insert_grow (xs : List Ent) (x : Ent) (i g vb : Nat) (w : World) (hx : xs.length ≤ 255) (hi : i < xs.length) (hb : Blk w g tE (entsV xs)) (hvb : Blk w vb tE x.cells) :
    Calls Try.prog 55 #[.slice (some ⟨g, 0, none⟩) xs.length xs.length, .int .i64 i, .slice (some ⟨vb, 0, none⟩) 1 1] w fun e w' => ∃ c', e = .returned (.slice (some ⟨w.heap.size, 0, none⟩) (xs.length + 1) c') ∧ w'.ownsRow w.heap.size 41 4 (.slice (some ⟨w.heap.size, 0, none⟩) (xs.length + 1) c') (xs.length + 1) (entsV (xs.take i ++ x :: xs.drop i)) ∧ w.grownBy w' none := by
  have hxl := entsV_len xs
  have hcut := ents_cut xs i (by omega)
  have hl1 : (entsV (xs.take i)).length = i * 4 := by rw [entsV_len, List.length_take]; congr 1; omega
  have hl2 : (entsV (xs.drop i)).length = (xs.length - i) * 4 := by rw [entsV_len, List.length_drop]
  have hfin : entsV (xs.take i ++ x :: xs.drop i) = entsV (xs.take i) ++ (x.cells ++ entsV (xs.drop i)) := by
    rw [entsV_app, show x :: xs.drop i = [x] ++ xs.drop i from rfl, entsV_app, entsV_one]
  have h1D : ∀ u ∈ entsV (xs.drop i), u.oneCell' = true := ents_one _
  have h1X : ∀ u ∈ x.cells, u.oneCell' = true := by simp [Value.oneCell', Ent.cells]
  rw [hfin]
  obtain ⟨n, hn⟩ : ∃ n, xs.length = n := ⟨_, rfl⟩
  rw [hn] at hx hi hxl hl2 ⊢
  rw [hcut] at hb
  obtain ⟨P1, hP1⟩ : ∃ P, entsV (xs.take i) = P := ⟨_, rfl⟩
  obtain ⟨D, hD⟩ : ∃ P, entsV (xs.drop i) = P := ⟨_, rfl⟩
  obtain ⟨X, hX⟩ : ∃ P, x.cells = P := ⟨_, rfl⟩
  have hXl : X.length = 4 := by rw [← hX]; rfl
  rw [hP1, hD] at hb ⊢
  rw [hP1] at hl1
  rw [hD] at hl2 h1D
  rw [hX] at hvb h1X ⊢
  clear hP1 hD hX hfin hcut hxl hn
  have hcl : (P1 ++ D).length = n * 4 := by rw [List.length_append, hl1, hl2]; omega
  obtain ⟨c2, zs, w2, hrun, hb2, hc2, hcm2, hll2, hg2⟩ := run_append_made w tS g i n (n + 1 - i) (P1 ++ D) hb (by omega) (by omega) (by omega) (by omega) (by omega)
  rw [show i + (n + 1 - i) = n + 1 by omega] at hrun hc2
  rw [List.take_append_of_le_length (by omega), List.take_of_length_le (by omega)] at hb2 hll2
  rw [show ((n + 1 - i : Nat) : Int) = (n : Int) + 1 - i by omega] at hrun
  have hzl : zs.length = (c2 - i) * 4 := by rw [List.length_append, hl1] at hll2; omega
  -- the first copy
  have hbz : Blk w2 w.heap.size tE (P1 ++ (zs.take 4 ++ zs.drop 4)) := by rw [List.take_append_drop]; exact hb2
  have hvb2 := hvb.grown hg2 (by simp)
  have hb0 := hb.grown hg2 (by simp)
  have hcpA := fun ty dc => run_copy_in w2 ty w.heap.size (i * 4) (n + 1 - i) dc 1 ⟨vb, 0, none⟩ 1 1 _ X hb2 (by simp only [Nat.min_def]; split <;> omega) (by rw [hll2]; omega) (by omega) (part_read (pre := []) (post := []) (by simpa using hvb2) rfl) h1X
  have hb3 := blk_setCells w.heap.size tE X (zs.take 4) P1 (zs.drop 4) w2 (by rw [List.length_take]; omega) hbz
  rw [hl1] at hb3
  have hg3 : w.grownBy (w2.setCells w.heap.size (i * 4) X) none := grownBy_base2 hg2 (grownBy_setCells w.heap.size _ _ _) (Nat.le_refl _)
  obtain ⟨w3, hw3⟩ : ∃ w3, w2.setCells w.heap.size (i * 4) X = w3 := ⟨_, rfl⟩
  rw [hw3] at hcpA hb3 hg3
  obtain ⟨wd, hwd⟩ : ∃ wd, w3.drew = wd := ⟨_, rfl⟩
  have hbd : Blk wd w.heap.size tE ((P1 ++ X) ++ ((zs.drop 4).take D.length ++ (zs.drop 4).drop D.length)) := by
    rw [List.take_append_drop, List.append_assoc, ← hwd]
    exact hb3.drew
  have hgd : w.grownBy wd none := by rw [← hwd]; exact grownBy_trans hg3 (grownBy_drewN w3 1 none)
  have hbo : Blk wd g tE (P1 ++ (D ++ [])) := by rw [List.append_nil]; exact hb.grown hgd (by simp)
  have hzd : (zs.drop 4).length = (c2 - i) * 4 - 4 := by rw [List.length_drop, hzl]
  have hcpB := fun ty dc sc => run_copy_in wd ty w.heap.size ((i + 1) * 4) (n - i) dc (n - i) ⟨g, i * 4, none⟩ (n - i) sc _ D hbd (by simp only [Nat.min_def]; split <;> omega) (by simp only [List.length_append, List.length_take, List.length_drop, hl1, hXl, hzl]; omega) hl2 (part_read hbo hl1) h1D
  have hbf := blk_setCells w.heap.size tE D ((zs.drop 4).take D.length) (P1 ++ X) ((zs.drop 4).drop D.length) wd (by rw [List.length_take, hzd, hl2]; omega) hbd
  rw [show (P1 ++ X).length = (i + 1) * 4 by rw [List.length_append, hl1, hXl]; omega] at hbf
  have HOF : Hid (World.ownsRow (wd.setCells w.heap.size ((i + 1) * 4) D) w.heap.size tE 4 (.slice (some ⟨w.heap.size, 0, none⟩) (n + 1) c2) (n + 1) (P1 ++ (X ++ D))) := Lib.hid (by
    refine row_make (sp := (zs.drop 4).drop D.length) (by rw [show P1 ++ (X ++ D) ++ (zs.drop 4).drop D.length = (P1 ++ X) ++ (D ++ (zs.drop 4).drop D.length) by simp]; exact hbf) (Nat.le_refl _) hc2 hcm2 ?_ ?_
    · simp only [List.length_append, List.length_drop, hl1, hXl, hzl]
      omega
    · simp only [List.length_append, hl1, hXl, hl2]
      omega)
  have HGF : Hid (w.grownBy (wd.setCells w.heap.size ((i + 1) * 4) D) none) := Lib.hid (grownBy_base2 hgd (grownBy_setCells w.heap.size _ _ _) (Nat.le_refl _))
  have HRUN := Lib.hid hrun
  have HCA := Lib.hid hcpA
  have HCB := Lib.hid hcpB
  have hci : ¬ c2 = i := by omega
  have hci1 : ¬ c2 = i + 1 := by omega
  have hni : ¬ n = i := by omega
  have hnei : ((i : Int) == (n : Int)) = false := beq_eq_false_iff_ne.2 (by omega)
  have hw1 : IntKind.i64.wrap ((n : Int) + 1) = (n : Int) + 1 := IntWalk.i64_in _ ⟨by omega, by omega⟩
  have hw2 : IntKind.i64.wrap ((n : Int) + 1 - i) = (n : Int) + 1 - i := IntWalk.i64_in _ ⟨by omega, by omega⟩
  have hw3' : IntKind.i64.wrap ((i : Int) + 1) = (i : Int) + 1 := IntWalk.i64_in _ ⟨by omega, by omega⟩
  have k0 : (0 : Int) ≤ (i : Int) + 1 := by omega
  have k1 : (i : Int) ≤ (n : Int) := by omega
  have k2 : (n : Int) < (n : Int) + 1 := by omega
  have k3 : (i : Int) + 1 ≤ (n : Int) + 1 := by omega
  have k4 : (i : Int) ≤ (n : Int) + 1 := by omega
  have k5 : ((i : Int) + 1).toNat = i + 1 := by omega
  clear hb hb2 hb3 hbz hbd hbo hbf hvb hvb2 hb0 hrun hcpA hcpB hc2 hcm2 hll2 hzl hzd hl1 hl2 hXl h1D h1X hcl hg2 hg3 hgd hw3
  go_enter Try.func55, Try.ntmps55
  have hca := HCA.out
  go_wp2_with (at_builtin; refine Lib.wpList_append_run _ rfl _ _ _ _ rfl _ _ rfl rfl _ _ HRUN.out ?_)
  clear hca
  refine wp_region_planM (fun _ => True) [([], [0, 1, 2, 3, 4, 5, 6, 7], 8, false)] (by kernel_rfl) (by kernel_rfl) ?_
  refine wpPlanM_here ?_
  rw [hwd]
  clear hwd
  iterate 8 ((apply wpReadD_step rfl (by rfl); (· intro wS hSw; (try have hSw := hSw rfl); (try dsimp only at hSw); (try subst hSw); go_simp; (try with_reducible rfl))); try simp only [Act.put, List.setIfInBounds_toArray, List.set_cons_zero, List.set_cons_succ])
  refine wpReadD_nil ?_
  refine wpOp_list rfl (fun K hK => ?_)
  refine step_copy_run (by rfl) _ _ tS tS (by rfl) (by rfl) (by rfl) (HCB.out _ _ _) (hK _ _ ⟨_, fun _ h => h, fun hf => (by cases hf), ?_⟩)
  clear hK K
  try simp only [Act.put, List.setIfInBounds_toArray, List.set_cons_zero, List.set_cons_succ]
  refine wpPlanM_nil (NoPanic.normal ?_)
  go_wp2_with fail
  go_ret
  exact ⟨_, rfl, HOF.out, HGF.out⟩

set_option maxRecDepth 100000 in
set_option maxHeartbeats 8000000 in
theorem insert_room (xs : List Ent) (x : Ent) (i g B c vb : Nat) (sp : List Value) (w : World) (hx : xs.length ≤ 255) (hi : i < xs.length) (hB : B ≤ g) (hcm : c ≤ maxLen) (hcn : xs.length + 1 ≤ c) (hb : Blk w g tE (entsV xs ++ sp)) (hcl : (entsV xs ++ sp).length = c * 4) (hvb : Blk w vb tE x.cells) (hne : vb ≠ g) :
    Calls Try.prog 55 #[.slice (some ⟨g, 0, none⟩) xs.length c, .int .i64 i, .slice (some ⟨vb, 0, none⟩) 1 1] w fun e w' => e = .returned (.slice (some ⟨g, 0, none⟩) (xs.length + 1) c) ∧ w'.ownsRow B 41 4 (.slice (some ⟨g, 0, none⟩) (xs.length + 1) c) (xs.length + 1) (entsV (xs.take i ++ x :: xs.drop i)) ∧ w.grownBy w' (some g) := by
  have hxl := entsV_len xs
  have hcut := ents_cut xs i (by omega)
  have hl1 : (entsV (xs.take i)).length = i * 4 := by rw [entsV_len, List.length_take]; congr 1; omega
  have hl2 : (entsV (xs.drop i)).length = (xs.length - i) * 4 := by rw [entsV_len, List.length_drop]
  have hfin : entsV (xs.take i ++ x :: xs.drop i) = entsV (xs.take i) ++ (x.cells ++ entsV (xs.drop i)) := by
    rw [entsV_app, show x :: xs.drop i = [x] ++ xs.drop i from rfl, entsV_app, entsV_one]
  have h1D : ∀ u ∈ entsV (xs.drop i), u.oneCell' = true := ents_one _
  have h1X : ∀ u ∈ x.cells, u.oneCell' = true := by simp [Value.oneCell', Ent.cells]
  rw [hfin]
  obtain ⟨n, hn⟩ : ∃ n, xs.length = n := ⟨_, rfl⟩
  rw [hn] at hx hi hxl hl2 hcn ⊢
  have hspl : sp.length = (c - n) * 4 := by rw [List.length_append, hxl] at hcl; omega
  rw [hcut] at hb
  obtain ⟨P1, hP1⟩ : ∃ P, entsV (xs.take i) = P := ⟨_, rfl⟩
  obtain ⟨D, hD⟩ : ∃ P, entsV (xs.drop i) = P := ⟨_, rfl⟩
  obtain ⟨X, hX⟩ : ∃ P, x.cells = P := ⟨_, rfl⟩
  have hXl : X.length = 4 := by rw [← hX]; rfl
  rw [hP1, hD] at hb ⊢
  rw [hP1] at hl1
  rw [hD] at hl2 h1D
  rw [hX] at hvb h1X ⊢
  clear hP1 hD hX hfin hcut hxl hn hcl
  have HOV := Lib.hid (fun lb cb => run_over w vb g ((i + 1) * 4) lb cb X _ hvb hb hne (by simp only [List.length_append, hl1, hl2]; omega))
  obtain ⟨wd, hwd⟩ : ∃ wd, w.drew = wd := ⟨_, rfl⟩
  have hgd : w.grownBy wd none := by rw [← hwd]; exact grownBy_drewN w 1 none
  -- the row as the first copy finds it: what stands ahead, one entry, what is to be laid over
  have hbd : Blk wd g tE (P1 ++ (D ++ sp)) := by rw [← List.append_assoc, ← hwd]; exact hb.drew
  have hS : (D ++ sp).length = (c - i) * 4 := by rw [List.length_append, hl2, hspl]; omega
  have hbd2 : Blk wd g tE ((P1 ++ (D ++ sp).take 4) ++ (((D ++ sp).drop 4).take D.length ++ ((D ++ sp).drop 4).drop D.length)) := by
    rw [List.take_append_drop, List.append_assoc, List.take_append_drop]; exact hbd
  have hpl : (P1 ++ (D ++ sp).take 4).length = (i + 1) * 4 := by rw [List.length_append, List.length_take, hl1, hS]; omega
  have hcpA := fun ty dc sc => run_copy_in wd ty g ((i + 1) * 4) (n - i) dc (n - i) ⟨g, i * 4, none⟩ (n + 1 - i) sc _ D hbd2 (by simp only [Nat.min_def]; split <;> omega) (by rw [List.take_append_drop, List.length_append, hpl, List.length_drop, hS]; omega) hl2 (part_read hbd hl1) h1D
  have hb3 := blk_setCells g tE D (((D ++ sp).drop 4).take D.length) (P1 ++ (D ++ sp).take 4) (((D ++ sp).drop 4).drop D.length) wd (by rw [List.length_take, List.length_drop, hS, hl2]; omega) hbd2
  rw [hpl] at hb3
  obtain ⟨w3, hw3⟩ : ∃ w3, wd.setCells g ((i + 1) * 4) D = w3 := ⟨_, rfl⟩
  have hg3 : w.grownBy w3 (some g) := by rw [← hw3]; exact grownBy_trans (grownBy_none hgd _) (grownBy_setCells g _ _ _)
  rw [hw3] at hcpA hb3
  have hvb3 : Blk w3 vb tE X := hvb.grown hg3 (by simp; exact hne)
  have hb3' : Blk w3 g tE (P1 ++ ((D ++ sp).take 4 ++ (D ++ ((D ++ sp).drop 4).drop D.length))) := by rw [← List.append_assoc]; exact hb3
  have hcpB := fun ty dc => run_copy_in w3 ty g (i * 4) (n + 1 - i) dc 1 ⟨vb, 0, none⟩ 1 1 _ X hb3' (by simp only [Nat.min_def]; split <;> omega) (by simp only [List.length_append, List.length_take, hl1, hl2]; omega) (by omega) (part_read (pre := []) (post := []) (by simpa using hvb3) rfl) h1X
  have hbf := blk_setCells g tE X ((D ++ sp).take 4) P1 (D ++ ((D ++ sp).drop 4).drop D.length) w3 (by rw [List.length_take, hS]; omega) hb3'
  rw [hl1] at hbf
  have HOF : Hid (World.ownsRow (w3.setCells g (i * 4) X) B tE 4 (.slice (some ⟨g, 0, none⟩) (n + 1) c) (n + 1) (P1 ++ (X ++ D))) := Lib.hid (by
    refine row_make (sp := ((D ++ sp).drop 4).drop D.length) (by rw [show P1 ++ (X ++ D) ++ ((D ++ sp).drop 4).drop D.length = P1 ++ (X ++ (D ++ ((D ++ sp).drop 4).drop D.length)) by simp]; exact hbf) hB hcn hcm ?_ ?_
    · rw [List.length_append, List.length_drop, List.length_drop, hS]
      simp only [List.length_append, hl1, hXl, hl2]
      omega
    · simp only [List.length_append, hl1, hXl, hl2]
      omega)
  have HGF : Hid (w.grownBy (w3.setCells g (i * 4) X) (some g)) := Lib.hid (grownBy_trans hg3 (grownBy_setCells g _ _ _))
  have HCA := Lib.hid hcpA
  have HCB := Lib.hid hcpB
  have hci : ¬ c = i := by omega
  have hci1 : ¬ c = i + 1 := by omega
  have hcn1 : ¬ (c : Int) < (n : Int) + 1 := by omega
  have hnei : ((i : Int) == (n : Int)) = false := beq_eq_false_iff_ne.2 (by omega)
  have hw1 : IntKind.i64.wrap ((n : Int) + 1) = (n : Int) + 1 := IntWalk.i64_in _ ⟨by omega, by omega⟩
  have hw3' : IntKind.i64.wrap ((i : Int) + 1) = (i : Int) + 1 := IntWalk.i64_in _ ⟨by omega, by omega⟩
  have k0 : (0 : Int) ≤ (i : Int) + 1 := by omega
  have k1 : (i : Int) ≤ (n : Int) := by omega
  have k2 : (n : Int) + 1 ≤ (c : Int) := by omega
  have k3 : (i : Int) + 1 ≤ (n : Int) + 1 := by omega
  have k4 : (i : Int) ≤ (n : Int) + 1 := by omega
  have k5 : ((i : Int) + 1).toNat = i + 1 := by omega
  have k6 : ((n : Int) + 1).toNat = n + 1 := by omega
  have k7 : (0 : Int) ≤ (n : Int) + 1 := by omega
  clear hb hbd hbd2 hb3 hb3' hbf hvb hvb3 hcpA hcpB hl1 hl2 hXl h1D h1X hS hpl hspl hgd hg3 hcm hB hne
  go_enter Try.func55, Try.ntmps55
  have hov := HOV.out
  go_wp2_with (simp only [hov])
  refine wp_region_planM (fun _ => True) [([], [0, 1, 2, 3, 4, 5, 6, 7], 8, false)] (by kernel_rfl) (by kernel_rfl) ?_
  refine wpPlanM_here ?_
  rw [hwd]
  clear hwd
  iterate 8 ((apply wpReadD_step rfl (by rfl); (· intro wS hSw; (try have hSw := hSw rfl); (try dsimp only at hSw); (try subst hSw); go_simp; (try with_reducible rfl))); try simp only [Act.put, List.setIfInBounds_toArray, List.set_cons_zero, List.set_cons_succ])
  refine wpReadD_nil ?_
  refine wpOp_list rfl (fun K hK => ?_)
  refine step_copy_run (by rfl) _ _ tS tS (by rfl) (by rfl) (by rfl) (HCA.out _ _ _) (hK _ _ ⟨_, fun _ h => h, fun hf => (by cases hf), ?_⟩)
  clear hK K
  try simp only [Act.put, List.setIfInBounds_toArray, List.set_cons_zero, List.set_cons_succ]
  refine wpPlanM_nil (NoPanic.normal ?_)
  have hcb := HCB.out
  go_wp2_with fail
  go_ret
  exact ⟨rfl, HOF.out, HGF.out⟩

theorem insert_any (xs : List Ent) (x : Ent) (i B vb : Nat) (v : Value) (w : World) (hx : xs.length ≤ 255) (hi : i ≤ xs.length) (ho : w.ownsRow B 41 4 v xs.length (entsV xs)) (hvb : Blk w vb 41 x.cells) (hap : v.ownBlock ≠ some vb) (hBs : B ≤ w.heap.size) :
    Calls Try.prog 55 #[v, .int .i64 i, .slice (some ⟨vb, 0, none⟩) 1 1] w fun e w' => ∃ v', e = .returned v' ∧ w'.ownsRow B 41 4 v' (xs.length + 1) (entsV (xs.take i ++ x :: xs.drop i)) ∧ w.grownBy w' v.ownBlock := by
  rcases Nat.eq_or_lt_of_le hi with he | hlt
  · rw [he, List.take_length, List.drop_length]
    exact insert_end xs x B vb v w hx ho hvb hBs
  · obtain ⟨g, c, sp, rfl, hB, hb, hnc, hcm, hl⟩ := row_parts ho (by omega)
    by_cases hc : xs.length + 1 ≤ c
    · refine (insert_room xs x i g B c vb sp w hx hlt hB hcm hc hb hl hvb (fun e => hap (by rw [e]; rfl))).mono ?_
      rintro e w' ⟨rfl, h1, h2⟩
      exact ⟨_, rfl, h1, h2⟩
    · obtain rfl : c = xs.length := by omega
      have hs0 : sp = [] := by
        refine List.eq_nil_of_length_eq_zero ?_
        rw [List.length_append, entsV_len] at hl
        omega
      subst hs0
      rw [List.append_nil] at hb
      refine (insert_grow xs x i g vb w hx hlt hb hvb).mono ?_
      rintro e w' ⟨c', rfl, h1, h2⟩
      exact ⟨_, rfl, ownsRow_mono h1 hBs, grownBy_none h2 _⟩

end Go.Proofs.Ytddpjfmogjcimaa
