/- The reference's Unpack of a bucket. -/
import Derived.Test.YtddpjfmogjcimaaBkRd
import Derived.Test.YtddpjfmogjcimaaFreeG
import Derived.Test.YtddpjfmogjcimaaStepApp
namespace Go.Proofs.Ytddpjfmogjcimaa
open Go.RowKit

theorem segB_rds {w : World} {b o : Nat} {xs : List Nat} {c : Nat} (h : Rds w 1 (.slice (some ⟨b, o, none⟩) xs.length c) xs.length (bytesV xs)) (p k : Nat) (hp : p + k ≤ xs.length) (c' : Nat) : Rds w 1 (.slice (some ⟨b, o + p, none⟩) (segB xs p k).length c') (segB xs p k).length (bytesV (segB xs p k)) := by
  have h1 := Rds.dropB h (n := p) (by omega) c'
  have h2 := Rds.takeB h1 (n := k) (by rw [List.length_drop]; omega) c'
  have e : k = (segB xs p k).length := (segB_len hp).symm
  have h3 : Rds w 1 (.slice (some ⟨b, o + p, none⟩) k c') k (bytesV (segB xs p k)) := h2
  rw [e] at h3
  rwa [← e] at h3 ⊢

theorem of_at {w : World} {b o : Nat} {xs : List Nat} {c : Nat} (h : Rds w 1 (.slice (some ⟨b, o, none⟩) xs.length c) xs.length (bytesV xs)) (hs : ∀ x ∈ xs, x < 256) (p k : Nat) (hp : p + k ≤ xs.length) (hk : k ≤ 8) (c' : Nat) :
    Calls Try.prog 46 #[.slice (some ⟨b, o + p, none⟩) k c'] w fun e w' => e = .returned (.int .u64 (numAt xs p k : Nat)) ∧ w = w' := by
  have h1 := rof_any (segB xs p k) (some ⟨b, o + p, none⟩) c' w (by rw [segB_len hp]; exact hk) (segB_small hs p k) (segB_rds h p k hp c')
  rw [segB_len hp] at h1
  rw [numAt_in hp]
  exact h1
/-- The first of the bucket, by what is done. -/
def G3 (w0 : World) (d p : Int) (D : Nat → Bool) (_vals : Nat → Value) (W : World) : Prop :=
  w0.grownBy W none ∧ W.heap.size = w0.heap.size + (if D 9 = true then 1 else 0) ∧ (D 10 = true → D 9 = true) ∧ (D 9 = true → Blk W w0.heap.size 24 (if D 10 = true then [.int .i64 d, .int .i64 p, .slice none 0 0] else [.int .i64 0, .int .i64 0, .slice none 0 0]))
theorem G3.keep {w0 : World} {d p : Int} {D : Nat → Bool} {vals vals' : Nat → Value} {W : World} (h : G3 w0 d p D vals W) (k : Nat) (h9 : (9 == k) = false) (h10 : (10 == k) = false) : G3 w0 d p (setD D k) vals' W := by
  unfold G3 setD at *
  rw [h9, h10]
  simpa using h
/-- The reference's Unpack under way. -/
structure VB (w0 w : World) (R Q : Nat) (d p : Int) (rv : Value) (es : List Ent) : Prop where
  grown : w0.grownBy w none
  newQ : w0.heap.size ≤ Q
  hR : R < w0.heap.size
  res : Blk w R 24 [.int .i64 0, .int .i64 0, .slice none 0 0]
  bkt : Blk w Q 24 [.int .i64 d, .int .i64 p, rv]
  row : w.ownsRow (Q + 1) 44 4 rv es.length (entsV es)
theorem VB.later {w0 w w' : World} {R Q : Nat} {d p : Int} {rv : Value} {es : List Ent} (h : VB w0 w R Q d p rv es) (hg : w.grownBy w' none) : VB w0 w' R Q d p rv es :=
  ⟨grownBy_trans h.grown hg, h.newQ, h.hR, h.res.grown hg (by simp), h.bkt.grown hg (by simp), owns_grown h.row hg⟩
theorem VB.bktAt {w0 w w' : World} {R Q : Nat} {d p : Int} {rv : Value} {es : List Ent} (h : VB w0 w R Q d p rv es) (h2 : w.grownBy w' rv.ownBlock) : Blk w' Q 24 [.int .i64 d, .int .i64 p, rv] :=
  h.bkt.grown h2 (fun e => by have := (h.row.lt Q e.symm).1; omega)
theorem VB.app {w0 w w' : World} {R Q : Nat} {d p : Int} {rv rv' : Value} {es es' : List Ent} (h : VB w0 w R Q d p rv es) (h2 : w.grownBy w' rv.ownBlock) (ho : w'.ownsRow (Q + 1) 44 4 rv' es'.length (entsV es')) :
    VB w0 (w'.setCell ⟨Q, 2, none⟩ rv') R Q d p rv' es' := by
  have ht : Touch (fun k => rv.ownBlock = some k) w w' := Touch.of h2 (fun _ e => e)
  have hrow : ∀ b, rv.ownBlock = some b → Q < b := fun b hb => by have := (h.row.lt b hb).1; omega
  have h3 := h.newQ
  have h4 := h.hR
  have hg2 := grownBy_setCell w' ⟨Q, 2, none⟩ rv'
  have ht2 : Touch (fun k => k = Q) w' (w'.setCell ⟨Q, 2, none⟩ rv') := Touch.of hg2 (fun k e => by cases e; rfl)
  have hres := ht.blk h.res (fun e => by have := hrow _ e; omega)
  have hbkt := ht.blk h.bkt (fun e => by have := hrow _ e; omega)
  exact ⟨grownBy_base2 (grownBy_own2 h.grown h.row (by omega) h2) hg2 (by simp; omega), h.newQ, h.hR, ht2.blk hres (by omega), hbkt.setCell 2 _, owns_set ho _ _ (by simp)⟩

/-- A round's append, by what is done. -/
structure G10 (w0 wr : World) (R Q : Nat) (d p : Int) (av : Option Addr) (k cv : Nat) (es es' : List Ent) (cells : List Value) (D : Nat → Bool) (vals : Nat → Value) (W : World) : Prop where
  grown : w0.grownBy W none
  newQ : w0.heap.size ≤ Q
  hR : R < w0.heap.size
  lt : Q < W.heap.size
  res : Blk W R 24 [.int .i64 0, .int .i64 0, .slice none 0 0]
  o30 : D 30 = true → D 1 = true ∧ D 28 = true
  o28 : D 28 = true → D 27 = true
  bkt : D 30 = false → Blk W Q 24 [.int .i64 d, .int .i64 p, .slice av k cv]
  bkt2 : D 30 = true → Blk W Q 24 [.int .i64 d, .int .i64 p, vals 28]
  size : D 28 = false → W.heap.size = wr.heap.size + (if D 27 = true then 1 else 0)
  row : D 28 = false → W.ownsRow (Q + 1) 44 4 (.slice av k cv) k (entsV es)
  new : D 28 = false → D 27 = true → Blk W wr.heap.size 44 cells
  row2 : D 28 = true → W.ownsRow (Q + 1) 44 4 (vals 28) (k + 1) (entsV es')
theorem G10.keep {w0 wr : World} {R Q : Nat} {d p : Int} {av : Option Addr} {k cv : Nat} {es es' : List Ent} {cells : List Value} {D : Nat → Bool} {vals : Nat → Value} {W : World} (h : G10 w0 wr R Q d p av k cv es es' cells D vals W) (j : Nat) (v : Value) (h27 : (27 == j) = false) (h28 : (28 == j) = false) (h30 : (30 == j) = false) : G10 w0 wr R Q d p av k cv es es' cells (setD D j) (setV vals j v) W := by
  have e27 : setD D j 27 = D 27 := by unfold setD; rw [h27]; rfl
  have e28 : setD D j 28 = D 28 := by unfold setD; rw [h28]; rfl
  have e30 : setD D j 30 = D 30 := by unfold setD; rw [h30]; rfl
  have ev : setV vals j v 28 = vals 28 := by unfold setV; rw [if_neg (by simpa using h28)]
  refine ⟨h.grown, h.newQ, h.hR, h.lt, h.res, ?_, ?_, ?_, ?_, ?_, ?_, ?_, ?_⟩
  · rw [e30, e28]
    intro hd
    refine ⟨?_, (h.o30 hd).2⟩
    unfold setD
    rw [(h.o30 hd).1, Bool.or_true]
  · rw [e28, e27]; exact h.o28
  · rw [e30]; exact h.bkt
  · rw [e30, ev]; exact h.bkt2
  · rw [e28, e27]; exact h.size
  · rw [e28]; exact h.row
  · rw [e28, e27]; exact h.new
  · rw [e28, ev]; exact h.row2

set_option maxRecDepth 100000 in
set_option maxHeartbeats 16000000 in
theorem runpack_any (xs : List Nat) (slots : Int) (a : Option Addr) (c : Nat) (w : World) (hx : xs.length ≤ 700) (hcap : xs.length ≤ c) (hs : ∀ x ∈ xs, x < 256) (hr : Rds w 1 (.slice a xs.length c) xs.length (bytesV xs)) :
    Calls Try.prog 19 #[.slice a xs.length c, .int .i64 slots] w (UPost xs slots w) := by
  obtain ⟨i0, hi, hz0, hz1, hz2⟩ := info_parts infoREnt
  have HSM := Lib.hid hs
  have HR := Lib.hid hr
  have HNL := Lib.hid (fun o k => numAt_lt hs o k)
  clear hs hr
  by_cases h10 : xs.length < 10
  · have HNO : Hid (readB xs slots = false) := Lib.hid (by
      unfold readB sizeB
      rw [decide_eq_false (by omega)]
      rfl)
    have hd10 : decide ((xs.length : Int) < 10) = true := decide_eq_true (by omega)
    clear h10
    go_enter Try.func19, Try.ntmps19
    go_wp2_with fail
    have hb1 := Blk.new w 24 [.int .i64 0, .int .i64 0, .slice none 0 0]
    have z0 := hb1.cell (j := 0) rfl
    have z1 := hb1.cell (j := 1) rfl
    have z2 := hb1.cell (j := 2) rfl
    refine bodyPost_ret (v := .tuple #[.agg #[.int .i64 0, .int .i64 0, .slice none 0 0], .int .i64 5]) (by simp [results, Try.results19, go_sem, z0, z1, z2]) rfl (UPost.no HNO.out rfl ?_)
    exact World.grownBy_alloc _ _ none
  obtain ⟨b, o, rfl, hc⟩ := HR.out.at' (by omega)
  have HC := Lib.hid hc
  have hbl : Hid (b < w.heap.size) := Lib.hid (HR.out.lt (fun e => h10 (by have := congrArg List.length e; rw [bytesV_len] at this; simp at this; rw [this]; simp)) b rfl)
  have c1 := hc 1 _ (bytesV_get xs 1 (by omega))
  have hn1 : xs.getD 1 0 = nAt xs := (numAt_one (by omega)).symm
  rw [hn1] at c1
  have hn255 : nAt xs ≤ 255 := by
    have := HNL.out 1 1
    unfold nAt
    omega
  have hcn : IntKind.i64.wrap (nAt xs : Int) = nAt xs := by rw [IntKind.wrap_i64]; omega
  have hd10 : decide ((xs.length : Int) < 10) = false := decide_eq_false (by omega)
  clear hc hn1
  have h1x : (1 : Int) < (xs.length : Int) := by omega
  by_cases hsz : xs.length ≠ 10 + 20 * nAt xs
  · have HNO : Hid (readB xs slots = false) := Lib.hid (by
      unfold readB sizeB
      rw [decide_eq_false hsz]
      rfl)
    have hne : ((xs.length : Int) == 10 + 20 * (nAt xs : Int)) = false := by rw [beq_eq_false_iff_ne]; omega
    have hne2 := bne_of14 hne
    clear h10 hsz
    have hc1 := (World.grownBy_alloc w (.cells #[.int .i64 0, .int .i64 0, .slice none 0 0] 24) none).cell c1 (by simp)
    go_enter Try.func19, Try.ntmps19
    go_wp2_with fail
    have hb1 := Blk.new w 24 [.int .i64 0, .int .i64 0, .slice none 0 0]
    have z0 := hb1.cell (j := 0) rfl
    have z1 := hb1.cell (j := 1) rfl
    have z2 := hb1.cell (j := 2) rfl
    refine bodyPost_ret (v := .tuple #[.agg #[.int .i64 0, .int .i64 0, .slice none 0 0], .int .i64 5]) (by simp [results, Try.results19, go_sem, z0, z1, z2]) rfl (UPost.no HNO.out rfl ?_)
    exact World.grownBy_alloc _ _ none
  have hsz2 : xs.length = 10 + 20 * nAt xs := by omega
  have HSZ : Hid (xs.length = 10 + 20 * nAt xs) := Lib.hid hsz2
  have hne : ((xs.length : Int) == 10 + 20 * (nAt xs : Int)) = true := by rw [beq_iff_eq]; omega
  have hne2 := bne_of14 hne
  have h10c : 10 ≤ c := by omega
  clear hsz hsz2
  obtain ⟨w0, hw0⟩ : ∃ w0, w.alloc (.cells #[.int .i64 0, .int .i64 0, .slice none 0 0] 24) = w0 := ⟨_, rfl⟩
  have HRES : Hid (Blk w0 w.heap.size 24 [.int .i64 0, .int .i64 0, .slice none 0 0]) := Lib.hid (by rw [← hw0]; exact Blk.new w _ _)
  have HG0 : Hid (w.grownBy w0 none) := Lib.hid (by rw [← hw0]; exact World.grownBy_alloc _ _ none)
  have hc1 := HG0.out.cell c1 (by simp)
  have HR0 := Lib.hid (HR.out.grown HG0.out (by simp))
  by_cases hbig : 255 < numAt xs 2 8
  · have HNO : Hid (readB xs slots = false) := Lib.hid (by
      unfold readB
      rw [right_bigP xs slots _ _ HSM.out hbig, Bool.and_false])
    have hb255 : decide ((255 : Int) < (numAt xs 2 8 : Nat)) = true := decide_eq_true (by omega)
    clear hbig
    go_enter Try.func19, Try.ntmps19
    go_wp2_with fail
    have y0 := HRES.out.frozen 0
    have y1 := HRES.out.frozen 1
    have y2 := HRES.out.frozen 2
    have z0 := HRES.out.cell (j := 0) rfl
    have z1 := HRES.out.cell (j := 1) rfl
    have z2 := HRES.out.cell (j := 2) rfl
    refine (of_at HR0.out HSM.out 2 8 (by omega) (by omega) _).mono ?_
    rintro e w1 ⟨rfl, rfl⟩
    go_wp2_with fail
    clear y0 y1 y2 z0 z1 z2
    have hb1 := ((HRES.out.setCell 0 (.int .i64 0)).setCell 1 (.int .i64 0)).setCell 2 (.slice none 0 0)
    have z0 := hb1.cell (j := 0) rfl
    have z1 := hb1.cell (j := 1) rfl
    have z2 := hb1.cell (j := 2) rfl
    refine bodyPost_ret (v := .tuple #[.agg #[.int .i64 0, .int .i64 0, .slice none 0 0], .int .i64 5]) (by simp [results, Try.results19, go_sem, z0, z1, z2]) rfl (UPost.no HNO.out rfl ?_)
    exact grownBy_base2 (grownBy_base2 (grownBy_base2 HG0.out (grownBy_setCell _ _ _) (Nat.le_refl _)) (grownBy_setCell _ _ _) (Nat.le_refl _)) (grownBy_setCell _ _ _) (Nat.le_refl _)
  have hb255 : decide ((255 : Int) < (numAt xs 2 8 : Nat)) = false := decide_eq_false (by omega)
  have hd : IntKind.i64.wrap (numAt xs 0 1 : Nat) = dAt xs := by
    have := HNL.out 0 1
    unfold dAt
    rw [IntKind.wrap_i64]
    omega
  have hp : IntKind.i64.wrap (numAt xs 2 8 : Nat) = pAt xs := rfl
  have hc0 := HG0.out.cell (HC.out 0 _ (bytesV_get xs 0 (by omega))) (by simp)
  rw [← numAt_one (show 0 < xs.length by omega), Nat.add_zero] at hc0
  clear hbig
  go_enter Try.func19, Try.ntmps19
  go_wp2_with fail
  refine (of_at HR0.out HSM.out 2 8 (by omega) (by omega) _).mono ?_
  rintro e w1 ⟨rfl, rfl⟩
  go_wp2_with fail
  have h2x : 10 ≤ xs.length := by omega
  have hnil : ¬ xs = [] := fun e => h10 (by rw [e]; simp)
  have h10i : (10 : Int) ≤ (c : Int) := by omega
  have hc2 : ¬ c = 2 := by omega
  refine wp_region_FG (fun j v => match j with
    | 0 => v = .slice (some ⟨b, o, none⟩) xs.length c
    | 1 => v = .pointer (some ⟨b, o, none⟩)
    | 2 => v = .int .u8 (numAt xs 0 1 : Nat)
    | 3 => v = .int .i64 (dAt xs)
    | 4 => v = .slice (some ⟨b, o, none⟩) xs.length c
    | 5 => v = .slice (some ⟨b, o + 2, none⟩) 8 (c - 2)
    | 6 => v = .int .u64 (numAt xs 2 8 : Nat)
    | 7 => v = .int .i64 (pAt xs)
    | 8 => v = .agg #[.int .i64 (dAt xs), .int .i64 (pAt xs), .slice none 0 0]
    | 9 => v = .pointer (some ⟨w0.heap.size, 0, none⟩)
    | _ => True) (G3 w0 (dAt xs) (pAt xs)) [[], [0], [0, 1], [0, 1, 2], [], [4], [4, 5], [4, 5, 6], [0, 1, 2, 3, 4, 5, 6, 7], [], [0, 1, 2, 3, 4, 5, 6, 7, 8, 9]] (by kernel_rfl) (by kernel_rfl) (fun vals => ⟨grownBy_drewN w0 1 none, rfl, fun h => (by cases h), fun h => (by cases h)⟩) ?xobs ?xend
  case xobs =>
    refine fgObs_cons (fun D vals W hG hD hC => ?_) (fgObs_cons (fun D vals W hG hD hC => ?_) (fgObs_cons (fun D vals W hG hD hC => ?_) (fgObs_cons (fun D vals W hG hD hC => ?_) (fgObs_cons (fun D vals W hG hD hC => ?_) (fgObs_cons (fun D vals W hG hD hC => ?_) (fgObs_cons (fun D vals W hG hD hC => ?_) (fgObs_cons (fun D vals W hG hD hC => ?_) (fgObs_cons (fun D vals W hG hD hC => ?_) (fgObs_cons (fun D vals W hG hD hC => ?_) (fgObs_cons (fun D vals W hG hD hC => ?_) fgObs_nil))))))))))
    case _ => (repeat (refine givenV_step rfl (fun v h hv => ?_); (try dsimp only at h); (try subst h))); refine givenV_nil ?_; refine free_read rfl (by rfl) (v := _) ?_ ⟨rfl, hG.keep 0 rfl rfl⟩; go_simp; (try with_reducible rfl)
    case _ => (repeat (refine givenV_step rfl (fun v h hv => ?_); (try dsimp only at h); (try subst h))); refine givenV_nil ?_; refine free_read rfl (by rfl) (v := _) ?_ ⟨rfl, hG.keep 1 rfl rfl⟩; go_simp; (try exact fun he => absurd he hnil)
    case _ => have hc0 := hG.1.cell hc0 (by simp); (repeat (refine givenV_step rfl (fun v h hv => ?_); (try dsimp only at h); (try subst h))); refine givenV_nil ?_; refine free_read rfl (by rfl) (v := _) ?_ ⟨rfl, hG.keep 2 rfl rfl⟩; go_simp; (try with_reducible rfl)
    case _ => (repeat (refine givenV_step rfl (fun v h hv => ?_); (try dsimp only at h); (try subst h))); refine givenV_nil ?_; refine free_read rfl (by rfl) (v := _) ?_ ⟨rfl, hG.keep 3 rfl rfl⟩; go_simp; (try with_reducible rfl)
    case _ => (repeat (refine givenV_step rfl (fun v h hv => ?_); (try dsimp only at h); (try subst h))); refine givenV_nil ?_; refine free_read rfl (by rfl) (v := _) ?_ ⟨rfl, hG.keep 4 rfl rfl⟩; go_simp; (try with_reducible rfl)
    case _ => (repeat (refine givenV_step rfl (fun v h hv => ?_); (try dsimp only at h); (try subst h))); refine givenV_nil ?_; refine free_read rfl (by rfl) (v := _) ?_ ⟨rfl, hG.keep 5 rfl rfl⟩; go_simp; (try with_reducible rfl)
    case _ =>
      (repeat (refine givenV_step rfl (fun v h hv => ?_); (try dsimp only at h); (try subst h)))
      refine givenV_nil ?_
      (try simp only [Act.put, List.setIfInBounds_toArray, List.set_cons_zero, List.set_cons_succ])
      refine wpOp_list rfl (fun K hK => ?_)
      go_simp
      refine (of_at (HR0.out.grown hG.1 (by simp)) HSM.out 2 8 (by omega) (by omega) _).mono ?_
      rintro e w2 ⟨rfl, rfl⟩
      exact hK _ _ ⟨_, rfl, rfl, hG.keep 6 rfl rfl⟩
    case _ => (repeat (refine givenV_step rfl (fun v h hv => ?_); (try dsimp only at h); (try subst h))); refine givenV_nil ?_; refine free_read rfl (by rfl) (v := _) ?_ ⟨rfl, hG.keep 7 rfl rfl⟩; go_simp; (try with_reducible rfl)
    case _ => (repeat (refine givenV_step rfl (fun v h hv => ?_); (try dsimp only at h); (try subst h))); refine givenV_nil ?_; refine free_read rfl (by rfl) (v := _) ?_ ⟨rfl, hG.keep 8 rfl rfl⟩; go_simp; (try with_reducible rfl)
    case _ =>
      refine givenV_nil ?_
      (try simp only [Act.put, List.setIfInBounds_toArray, List.set_cons_zero, List.set_cons_succ])
      refine wpOp_list rfl (fun K hK => ?_)
      go_simp
      have hs9 : W.heap.size = w0.heap.size := by have := hG.2.1; rw [hD] at this; simpa using this
      refine hK _ _ ⟨_, rfl, by rw [hs9], grownBy_trans hG.1 (World.grownBy_alloc _ _ none), ?_, fun _ => by simp [setD], fun _ => ?_⟩
      · simp [setD, hs9]
      · have hd10 : D 10 = false := by
          cases h : D 10
          · rfl
          · rw [hG.2.2.1 h] at hD
            cases hD
        have h := Blk.new W 24 [.int .i64 0, .int .i64 0, .slice none 0 0]
        rw [hs9] at h
        simpa [setD, hd10] using h
    case _ =>
      (repeat (refine givenV_step rfl (fun v h hv => ?_); (try dsimp only at h); (try subst h)))
      refine givenV_nil ?_
      (try simp only [Act.put, List.setIfInBounds_toArray, List.set_cons_zero, List.set_cons_succ])
      refine wpOp_list rfl (fun K hK => ?_)
      have h9 := hG.2.2.2 (hC 9 (by simp))
      rw [hD] at h9
      simp only [Bool.false_eq_true, if_false] at h9
      have z0 := h9.cell (j := 0) rfl
      have z1 := h9.cell (j := 1) rfl
      have z2 := h9.cell (j := 2) rfl
      have y0 := h9.frozen 0
      have y1 := h9.frozen 1
      have y2 := h9.frozen 2
      go_simp
      have h5 := ((h9.setCell 0 (.int .i64 (dAt xs))).setCell 1 (.int .i64 (pAt xs))).setCell 2 (.slice none 0 0)
      refine hK _ _ ⟨undef, rfl, True.intro, ?_⟩
      have hg5 : W.grownBy (((W.setCell ⟨w0.heap.size, 0, none⟩ (.int .i64 (dAt xs))).setCell ⟨w0.heap.size, 1, none⟩ (.int .i64 (pAt xs))).setCell ⟨w0.heap.size, 2, none⟩ (.slice none 0 0)) (some w0.heap.size) := grownBy_trans (grownBy_trans (grownBy_setCell W ⟨w0.heap.size, 0, none⟩ _) (grownBy_setCell _ ⟨w0.heap.size, 1, none⟩ _)) (grownBy_setCell _ ⟨w0.heap.size, 2, none⟩ _)
      have hg6 := grownBy_base2 hG.1 hg5 (Nat.le_refl _)
      have hz5 : (((W.setCell ⟨w0.heap.size, 0, none⟩ (.int .i64 (dAt xs))).setCell ⟨w0.heap.size, 1, none⟩ (.int .i64 (pAt xs))).setCell ⟨w0.heap.size, 2, none⟩ (.slice none 0 0)).heap.size = W.heap.size := by simp [World.setCell]
      have hG2 := hG.2.1
      have hG9 := hC 9 (by simp)
      generalize (((W.setCell ⟨w0.heap.size, 0, none⟩ (.int .i64 (dAt xs))).setCell ⟨w0.heap.size, 1, none⟩ (.int .i64 (pAt xs))).setCell ⟨w0.heap.size, 2, none⟩ (.slice none 0 0)) = W5 at *
      refine ⟨hg6, ?_, fun _ => ?_, fun _ => ?_⟩
      · show W5.heap.size = _
        rw [hz5, hG2, hG9]
        simp [setD, hG9]
      · simp [setD, hG9]
      · simpa [setD] using h5
  case xend =>
    intro D vals W hG hD
    repeat (refine givenV_step rfl (fun v h _ => ?_); (try dsimp only at h); (try subst h))
    refine givenV_nil ?_
    have hD9 : D 9 = true := hD 9 (by decide)
    have hD10 : D 10 = true := hD 10 (by decide)
    have HBK : Hid (Blk W w0.heap.size 24 [.int .i64 (dAt xs), .int .i64 (pAt xs), .slice none 0 0]) := Lib.hid (by
      have := hG.2.2.2 hD9
      rw [hD10] at this
      exact this)
    have HVB : Hid (VB w0 W w.heap.size w0.heap.size (dAt xs) (pAt xs) (.slice none 0 0) []) := Lib.hid ⟨hG.1, Nat.le_refl _, HRES.out.lt, HRES.out.grown hG.1 (by simp), HBK.out, World.ownsRow_nil _ _ _ _⟩
    clear hG hD hD9 hD10 HBK hc0 hc1 HRES h2x
    (try simp only [Act.put, List.setIfInBounds_toArray, List.set_cons_zero, List.set_cons_succ])
    go_wp2_with fail
    go_loopw [7] (fun i wr => ∃ (k : Nat) (av : Option Addr) (cv : Nat), k ≤ nAt xs ∧ i = .int .i64 ((10 + 20 * k : Nat) : Int) ∧ VB w0 wr w.heap.size w0.heap.size (dAt xs) (pAt xs) (.slice av k cv) (entsK xs k)) (fun i _ => xs.length + 20 - (intOf i).toNat)
    case atStart => exact ⟨0, none, 0, by omega, rfl, HVB.out⟩
    case round =>
      clear HVB
      obtain ⟨k, av, cv, hk, rfl, hvb⟩ := hrel
      have HVB := Lib.hid hvb
      have HRW := Lib.hid (HR0.out.grown hvb.grown (by simp))
      clear hvb
      by_cases hlt : k < nAt xs
      · have HK := Lib.hid (entsK_next xs k)
        have HH := Lib.hid (entAt_h xs HSM.out k)
        have hA1 : 10 + 20 * k + 20 ≤ xs.length := by have := HSZ.out; omega
        obtain ⟨A, hA⟩ : ∃ A : Nat, 10 + 20 * k = A := ⟨_, rfl⟩
        have HA := Lib.hid hA
        rw [hA] at hA1 ⊢
        have hA0 : 10 ≤ A := by omega
        clear hA
        go_wp2_with fail
        refine (of_at HRW.out HSM.out (A + 8) 8 (by omega) (by omega) _).mono ?_
        rintro e w1 ⟨rfl, rfl⟩
        obtain ⟨r2, hr2⟩ : ∃ r2 : Nat, numAt xs (A + 8) 8 = r2 := ⟨_, rfl⟩
        have HR2 := Lib.hid hr2
        rw [hr2]
        by_cases hbr : 1099511627776 < r2
        · have HNO : Hid (readB xs slots = false) := Lib.hid (by
            unfold readB
            rw [right_bigR xs slots _ _ _ k hlt HSM.out (by rw [show 18 + 20 * k = A + 8 by have := HA.out; omega, hr2]; exact hbr), Bool.and_false])
          have hb40 : decide ((1099511627776 : Int) < (r2 : Int)) = true := decide_eq_true (by omega)
          have HG0 := Lib.hid (grownBy_trans HG0.out HVB.out.grown)
          have HRES : Hid (Blk wr w.heap.size 24 [.int .i64 0, .int .i64 0, .slice none 0 0]) := Lib.hid HVB.out.res
          have y0 := HRES.out.frozen 0
          have y1 := HRES.out.frozen 1
          have y2 := HRES.out.frozen 2
          have z0 := HRES.out.cell (j := 0) rfl
          have z1 := HRES.out.cell (j := 1) rfl
          have z2 := HRES.out.cell (j := 2) rfl
          clear hbr hr2
          go_wp2_with fail
          clear y0 y1 y2 z0 z1 z2
          have hb1 := ((HRES.out.setCell 0 (.int .i64 0)).setCell 1 (.int .i64 0)).setCell 2 (.slice none 0 0)
          have z0 := hb1.cell (j := 0) rfl
          have z1 := hb1.cell (j := 1) rfl
          have z2 := hb1.cell (j := 2) rfl
          refine bodyPost_ret (v := .tuple #[.agg #[.int .i64 0, .int .i64 0, .slice none 0 0], .int .i64 5]) (by simp [results, Try.results19, go_sem, z0, z1, z2]) rfl (UPost.no HNO.out rfl ?_)
          exact grownBy_base2 (grownBy_base2 (grownBy_base2 HG0.out (grownBy_setCell _ _ _) (Nat.le_refl _)) (grownBy_setCell _ _ _) (Nat.le_refl _)) (grownBy_setCell _ _ _) (Nat.le_refl _)
        have hb40 : decide ((1099511627776 : Int) < (r2 : Int)) = false := decide_eq_false (by omega)
        have hsmall : r2 ≤ 1099511627776 := by omega
        have HNW : Hid (IntKind.i64.wrap (r2 : Int) = r2) := Lib.hid (by rw [IntKind.wrap_i64]; omega)
        obtain ⟨r1, hr1⟩ : ∃ r1 : Nat, numAt xs A 8 = r1 := ⟨_, rfl⟩
        obtain ⟨A8, hA8⟩ : ∃ A8 : Nat, A + 8 = A8 := ⟨_, rfl⟩
        obtain ⟨A16, hA16⟩ : ∃ A16 : Nat, A + 16 = A16 := ⟨_, rfl⟩
        obtain ⟨A18, hA18⟩ : ∃ A18 : Nat, A + 18 = A18 := ⟨_, rfl⟩
        obtain ⟨A20, hA20⟩ : ∃ A20 : Nat, A + 20 = A20 := ⟨_, rfl⟩
        obtain ⟨r3, hr3⟩ : ∃ r3 : Nat, numAt xs A16 2 = r3 := ⟨_, rfl⟩
        obtain ⟨r4, hr4⟩ : ∃ r4 : Nat, numAt xs A18 2 = r4 := ⟨_, rfl⟩
        have hb3 : r3 < 65536 := by have := HNL.out A16 2; omega
        have hb4 : r4 < 65536 := by have := HNL.out A18 2; omega
        have p8 : IntKind.i64.wrap ((A : Int) + 8) = (A8 : Int) := by rw [IntKind.wrap_i64]; omega
        have p16 : IntKind.i64.wrap ((A : Int) + 16) = (A16 : Int) := by rw [IntKind.wrap_i64]; omega
        have p18 : IntKind.i64.wrap ((A : Int) + 18) = (A18 : Int) := by rw [IntKind.wrap_i64]; omega
        have p20 : IntKind.i64.wrap ((A : Int) + 20) = (A20 : Int) := by rw [IntKind.wrap_i64]; omega
        have m1 : A ≤ A8 := by omega
        have m2 : A16 ≤ A18 := by omega
        have m3 : A18 ≤ A20 := by omega
        have m4 : A8 - A = 8 := by omega
        have m5 : A18 - A16 = 2 := by omega
        have m6 : A20 - A18 = 2 := by omega
        have m7 : A8 ≤ c := by omega
        have m8 : A18 ≤ c := by omega
        have m9 : A20 ≤ c := by omega
        have u1 : A + 8 ≤ xs.length := by omega
        have u2 : A16 + 2 ≤ xs.length := by omega
        have u3 : A18 + 2 ≤ xs.length := by omega
        have hw2 : IntKind.i64.wrap (r2 : Int) = r2 := HNW.out
        have hw3 : IntKind.i64.wrap (r3 : Int) = r3 := by rw [IntKind.wrap_i64]; omega
        have hw4 : IntKind.i64.wrap (r4 : Int) = r4 := by rw [IntKind.wrap_i64]; omega
        have HENT : Hid (entAt xs k = ⟨BitVec.ofNat 64 r1, r2, r3, r4⟩) := Lib.hid (by
          have := HA.out
          unfold entAt
          rw [this, show 18 + 20 * k = A + 8 by omega, show 26 + 20 * k = A16 by omega, show 28 + 20 * k = A18 by omega, hr1, HR2.out, hr3, hr4, hw2])
        have HVAL : Hid (entsV (entsK xs k) ++ [.int .u64 r1, .int .i64 r2, .int .i64 r3, .int .i64 r4] = entsV (entsK xs (k + 1))) := Lib.hid (by
          have h1 := HH.out
          rw [HA.out, hr1] at h1
          rw [HK.out, entsV_app, entsV_one, Ent.cells, h1, HENT.out])
        clear hbr hr2
        have q4 : ¬ c = A := by omega
        have q5 : ¬ c = A16 := by omega
        have q6 : ¬ c = A18 := by omega
        have HA8 := Lib.hid hA8
        have HA16 := Lib.hid hA16
        have HA18 := Lib.hid hA18
        have HA20 := Lib.hid hA20
        clear hA8 hA16 hA18 hA20
        have q7 : A ≤ 1000 := by omega
        have hk255 : k ≤ 255 := by omega
        go_wp2_with fail
        refine wp_region_FG (fun j v => match j with
          | 0 => v = .pointer (some ⟨w0.heap.size, 2, none⟩)
          | 1 => v = .slice av k cv
          | 2 => v = .slice (some ⟨b, o, none⟩) xs.length c
          | 3 => v = .int .i64 (A : Int)
          | 4 => v = .int .i64 (A : Int)
          | 5 => v = .int .i64 (A8 : Int)
          | 6 => v = .slice (some ⟨b, o + A, none⟩) 8 (c - A)
          | 7 => v = .int .u64 (r1 : Int)
          | 8 => v = .int .u64 (r2 : Int)
          | 9 => v = .int .i64 (r2 : Int)
          | 10 => v = .slice (some ⟨b, o, none⟩) xs.length c
          | 11 => v = .int .i64 (A : Int)
          | 12 => v = .int .i64 (A16 : Int)
          | 13 => v = .int .i64 (A : Int)
          | 14 => v = .int .i64 (A18 : Int)
          | 15 => v = .slice (some ⟨b, o + A16, none⟩) 2 (c - A16)
          | 16 => v = .int .u64 (r3 : Int)
          | 17 => v = .int .i64 (r3 : Int)
          | 18 => v = .slice (some ⟨b, o, none⟩) xs.length c
          | 19 => v = .int .i64 (A : Int)
          | 20 => v = .int .i64 (A18 : Int)
          | 21 => v = .int .i64 (A : Int)
          | 22 => v = .int .i64 (A20 : Int)
          | 23 => v = .slice (some ⟨b, o + A18, none⟩) 2 (c - A18)
          | 24 => v = .int .u64 (r4 : Int)
          | 25 => v = .int .i64 (r4 : Int)
          | 26 => v = .agg #[.int .u64 (r1 : Int), .int .i64 (r2 : Int), .int .i64 (r3 : Int), .int .i64 (r4 : Int)]
          | 27 => v = .slice (some ⟨wr.heap.size, 0, none⟩) 1 1
          | 28 => ∃ a1 c1, v = .slice a1 (k + 1) c1
          | 29 => v = .pointer (some ⟨w0.heap.size, 2, none⟩)
          | _ => True) (G10 w0 wr w.heap.size w0.heap.size (dAt xs) (pAt xs) av k cv (entsK xs k) (entsK xs (k + 1)) [.int .u64 r1, .int .i64 r2, .int .i64 r3, .int .i64 r4]) [[], [0], [], [], [], [4], [2, 3, 4, 5], [2, 3, 4, 5, 6], [], [8], [], [], [11], [], [13], [10, 11, 12, 13, 14], [2, 3, 4, 5, 6, 7, 10, 11, 12, 13, 14, 15], [2, 3, 4, 5, 6, 7, 10, 11, 12, 13, 14, 15, 16], [], [], [19], [], [21], [18, 19, 20, 21, 22], [2, 3, 4, 5, 6, 7, 10, 11, 12, 13, 14, 15, 16, 18, 19, 20, 21, 22, 23], [2, 3, 4, 5, 6, 7, 10, 11, 12, 13, 14, 15, 16, 18, 19, 20, 21, 22, 23, 24], [2, 3, 4, 5, 6, 7, 8, 9, 10, 11, 12, 13, 14, 15, 16, 17, 18, 19, 20, 21, 22, 23, 24, 25], [2, 3, 4, 5, 6, 7, 8, 9, 10, 11, 12, 13, 14, 15, 16, 17, 18, 19, 20, 21, 22, 23, 24, 25, 26], [0, 1, 2, 3, 4, 5, 6, 7, 8, 9, 10, 11, 12, 13, 14, 15, 16, 17, 18, 19, 20, 21, 22, 23, 24, 25, 26, 27], [0, 1, 2, 3, 4, 5, 6, 7, 8, 9, 10, 11, 12, 13, 14, 15, 16, 17, 18, 19, 20, 21, 22, 23, 24, 25, 26, 27, 28], [0, 1, 2, 3, 4, 5, 6, 7, 8, 9, 10, 11, 12, 13, 14, 15, 16, 17, 18, 19, 20, 21, 22, 23, 24, 25, 26, 27, 28, 29]] (by kernel_rfl) (by kernel_rfl) ?h0 ?xobs ?xend
        case h0 =>
          intro vals
          refine ⟨grownBy_trans HVB.out.grown (grownBy_drewN wr 1 none), HVB.out.newQ, HVB.out.hR, HVB.out.bkt.lt, HVB.out.res.drewN 1, fun h => (by cases h), fun h => (by cases h), fun _ => HVB.out.bkt.drewN 1, fun h => (by cases h), fun _ => rfl, fun _ => ?_, fun _ h => (by cases h), fun h => (by cases h)⟩
          have h := owns_grown HVB.out.row (grownBy_drewN wr 1 none)
          rw [entsK_len] at h
          exact h
        case xobs =>
          refine fgObs_cons (fun D vals W hG hD hC => ?_) (fgObs_cons (fun D vals W hG hD hC => ?_) (fgObs_cons (fun D vals W hG hD hC => ?_) (fgObs_cons (fun D vals W hG hD hC => ?_) (fgObs_cons (fun D vals W hG hD hC => ?_) (fgObs_cons (fun D vals W hG hD hC => ?_) (fgObs_cons (fun D vals W hG hD hC => ?_) (fgObs_cons (fun D vals W hG hD hC => ?_) (fgObs_cons (fun D vals W hG hD hC => ?_) (fgObs_cons (fun D vals W hG hD hC => ?_) (fgObs_cons (fun D vals W hG hD hC => ?_) (fgObs_cons (fun D vals W hG hD hC => ?_) (fgObs_cons (fun D vals W hG hD hC => ?_) (fgObs_cons (fun D vals W hG hD hC => ?_) (fgObs_cons (fun D vals W hG hD hC => ?_) (fgObs_cons (fun D vals W hG hD hC => ?_) (fgObs_cons (fun D vals W hG hD hC => ?_) (fgObs_cons (fun D vals W hG hD hC => ?_) (fgObs_cons (fun D vals W hG hD hC => ?_) (fgObs_cons (fun D vals W hG hD hC => ?_) (fgObs_cons (fun D vals W hG hD hC => ?_) (fgObs_cons (fun D vals W hG hD hC => ?_) (fgObs_cons (fun D vals W hG hD hC => ?_) (fgObs_cons (fun D vals W hG hD hC => ?_) (fgObs_cons (fun D vals W hG hD hC => ?_) (fgObs_cons (fun D vals W hG hD hC => ?_) (fgObs_cons (fun D vals W hG hD hC => ?_) (fgObs_cons (fun D vals W hG hD hC => ?_) (fgObs_cons (fun D vals W hG hD hC => ?_) (fgObs_cons (fun D vals W hG hD hC => ?_) (fgObs_cons (fun D vals W hG hD hC => ?_) (fgObs_nil)))))))))))))))))))))))))))))))
          case _ => (repeat (refine givenV_step rfl (fun v h hv => ?_); (try dsimp only at h); (try subst h))); refine givenV_nil ?_; (try simp only [Act.put, List.setIfInBounds_toArray, List.set_cons_zero, List.set_cons_succ]); refine free_read rfl (by rfl) (v := _) ?_ ⟨rfl, hG.keep 0 _ rfl rfl rfl⟩; go_simp; (try with_reducible rfl)
          case _ =>
            have hd30 : D 30 = false := by
              cases h : D 30
              · rfl
              · rw [(hG.o30 h).1] at hD
                cases hD
            have b2 := (hG.bkt hd30).cell (j := 2) rfl
            (repeat (refine givenV_step rfl (fun v h hv => ?_); (try dsimp only at h); (try subst h))); refine givenV_nil ?_; (try simp only [Act.put, List.setIfInBounds_toArray, List.set_cons_zero, List.set_cons_succ]); refine free_read rfl (by rfl) (v := _) ?_ ⟨rfl, hG.keep 1 _ rfl rfl rfl⟩; go_simp; (try with_reducible rfl)
          case _ => (repeat (refine givenV_step rfl (fun v h hv => ?_); (try dsimp only at h); (try subst h))); refine givenV_nil ?_; (try simp only [Act.put, List.setIfInBounds_toArray, List.set_cons_zero, List.set_cons_succ]); refine free_read rfl (by rfl) (v := _) ?_ ⟨rfl, hG.keep 2 _ rfl rfl rfl⟩; go_simp; (try with_reducible rfl)
          case _ => (repeat (refine givenV_step rfl (fun v h hv => ?_); (try dsimp only at h); (try subst h))); refine givenV_nil ?_; (try simp only [Act.put, List.setIfInBounds_toArray, List.set_cons_zero, List.set_cons_succ]); refine free_read rfl (by rfl) (v := _) ?_ ⟨rfl, hG.keep 3 _ rfl rfl rfl⟩; go_simp; (try with_reducible rfl)
          case _ => (repeat (refine givenV_step rfl (fun v h hv => ?_); (try dsimp only at h); (try subst h))); refine givenV_nil ?_; (try simp only [Act.put, List.setIfInBounds_toArray, List.set_cons_zero, List.set_cons_succ]); refine free_read rfl (by rfl) (v := _) ?_ ⟨rfl, hG.keep 4 _ rfl rfl rfl⟩; go_simp; (try with_reducible rfl)
          case _ => (repeat (refine givenV_step rfl (fun v h hv => ?_); (try dsimp only at h); (try subst h))); refine givenV_nil ?_; (try simp only [Act.put, List.setIfInBounds_toArray, List.set_cons_zero, List.set_cons_succ]); refine free_read rfl (by rfl) (v := _) ?_ ⟨rfl, hG.keep 5 _ rfl rfl rfl⟩; go_simp; (try with_reducible rfl)
          case _ => (repeat (refine givenV_step rfl (fun v h hv => ?_); (try dsimp only at h); (try subst h))); refine givenV_nil ?_; (try simp only [Act.put, List.setIfInBounds_toArray, List.set_cons_zero, List.set_cons_succ]); refine free_read rfl (by rfl) (v := _) ?_ ⟨rfl, hG.keep 6 _ rfl rfl rfl⟩; go_simp; (try with_reducible rfl)
          case _ =>
            (repeat (refine givenV_step rfl (fun v h hv => ?_); (try dsimp only at h); (try subst h)))
            refine givenV_nil ?_
            (try simp only [Act.put, List.setIfInBounds_toArray, List.set_cons_zero, List.set_cons_succ])
            refine wpOp_list rfl (fun K hK => ?_)
            go_simp
            refine (of_at (HR0.out.grown hG.grown (by simp)) HSM.out A 8 u1 (by omega) _).mono ?_
            rintro e w2 ⟨rfl, rfl⟩
            exact hK _ _ ⟨_, rfl, by rw [hr1], hG.keep 7 _ rfl rfl rfl⟩
          case _ => (repeat (refine givenV_step rfl (fun v h hv => ?_); (try dsimp only at h); (try subst h))); refine givenV_nil ?_; (try simp only [Act.put, List.setIfInBounds_toArray, List.set_cons_zero, List.set_cons_succ]); refine free_read rfl (by rfl) (v := _) ?_ ⟨rfl, hG.keep 8 _ rfl rfl rfl⟩; go_simp; (try with_reducible rfl)
          case _ => (repeat (refine givenV_step rfl (fun v h hv => ?_); (try dsimp only at h); (try subst h))); refine givenV_nil ?_; (try simp only [Act.put, List.setIfInBounds_toArray, List.set_cons_zero, List.set_cons_succ]); refine free_read rfl (by rfl) (v := _) ?_ ⟨rfl, hG.keep 9 _ rfl rfl rfl⟩; go_simp; (try with_reducible rfl)
          case _ => (repeat (refine givenV_step rfl (fun v h hv => ?_); (try dsimp only at h); (try subst h))); refine givenV_nil ?_; (try simp only [Act.put, List.setIfInBounds_toArray, List.set_cons_zero, List.set_cons_succ]); refine free_read rfl (by rfl) (v := _) ?_ ⟨rfl, hG.keep 10 _ rfl rfl rfl⟩; go_simp; (try with_reducible rfl)
          case _ => (repeat (refine givenV_step rfl (fun v h hv => ?_); (try dsimp only at h); (try subst h))); refine givenV_nil ?_; (try simp only [Act.put, List.setIfInBounds_toArray, List.set_cons_zero, List.set_cons_succ]); refine free_read rfl (by rfl) (v := _) ?_ ⟨rfl, hG.keep 11 _ rfl rfl rfl⟩; go_simp; (try with_reducible rfl)
          case _ => (repeat (refine givenV_step rfl (fun v h hv => ?_); (try dsimp only at h); (try subst h))); refine givenV_nil ?_; (try simp only [Act.put, List.setIfInBounds_toArray, List.set_cons_zero, List.set_cons_succ]); refine free_read rfl (by rfl) (v := _) ?_ ⟨rfl, hG.keep 12 _ rfl rfl rfl⟩; go_simp; (try with_reducible rfl)
          case _ => (repeat (refine givenV_step rfl (fun v h hv => ?_); (try dsimp only at h); (try subst h))); refine givenV_nil ?_; (try simp only [Act.put, List.setIfInBounds_toArray, List.set_cons_zero, List.set_cons_succ]); refine free_read rfl (by rfl) (v := _) ?_ ⟨rfl, hG.keep 13 _ rfl rfl rfl⟩; go_simp; (try with_reducible rfl)
          case _ => (repeat (refine givenV_step rfl (fun v h hv => ?_); (try dsimp only at h); (try subst h))); refine givenV_nil ?_; (try simp only [Act.put, List.setIfInBounds_toArray, List.set_cons_zero, List.set_cons_succ]); refine free_read rfl (by rfl) (v := _) ?_ ⟨rfl, hG.keep 14 _ rfl rfl rfl⟩; go_simp; (try with_reducible rfl)
          case _ => (repeat (refine givenV_step rfl (fun v h hv => ?_); (try dsimp only at h); (try subst h))); refine givenV_nil ?_; (try simp only [Act.put, List.setIfInBounds_toArray, List.set_cons_zero, List.set_cons_succ]); refine free_read rfl (by rfl) (v := _) ?_ ⟨rfl, hG.keep 15 _ rfl rfl rfl⟩; go_simp; (try with_reducible rfl)
          case _ =>
            (repeat (refine givenV_step rfl (fun v h hv => ?_); (try dsimp only at h); (try subst h)))
            refine givenV_nil ?_
            (try simp only [Act.put, List.setIfInBounds_toArray, List.set_cons_zero, List.set_cons_succ])
            refine wpOp_list rfl (fun K hK => ?_)
            go_simp
            refine (of_at (HR0.out.grown hG.grown (by simp)) HSM.out A16 2 u2 (by omega) _).mono ?_
            rintro e w2 ⟨rfl, rfl⟩
            exact hK _ _ ⟨_, rfl, by rw [hr3], hG.keep 16 _ rfl rfl rfl⟩
          case _ => (repeat (refine givenV_step rfl (fun v h hv => ?_); (try dsimp only at h); (try subst h))); refine givenV_nil ?_; (try simp only [Act.put, List.setIfInBounds_toArray, List.set_cons_zero, List.set_cons_succ]); refine free_read rfl (by rfl) (v := _) ?_ ⟨rfl, hG.keep 17 _ rfl rfl rfl⟩; go_simp; (try with_reducible rfl)
          case _ => (repeat (refine givenV_step rfl (fun v h hv => ?_); (try dsimp only at h); (try subst h))); refine givenV_nil ?_; (try simp only [Act.put, List.setIfInBounds_toArray, List.set_cons_zero, List.set_cons_succ]); refine free_read rfl (by rfl) (v := _) ?_ ⟨rfl, hG.keep 18 _ rfl rfl rfl⟩; go_simp; (try with_reducible rfl)
          case _ => (repeat (refine givenV_step rfl (fun v h hv => ?_); (try dsimp only at h); (try subst h))); refine givenV_nil ?_; (try simp only [Act.put, List.setIfInBounds_toArray, List.set_cons_zero, List.set_cons_succ]); refine free_read rfl (by rfl) (v := _) ?_ ⟨rfl, hG.keep 19 _ rfl rfl rfl⟩; go_simp; (try with_reducible rfl)
          case _ => (repeat (refine givenV_step rfl (fun v h hv => ?_); (try dsimp only at h); (try subst h))); refine givenV_nil ?_; (try simp only [Act.put, List.setIfInBounds_toArray, List.set_cons_zero, List.set_cons_succ]); refine free_read rfl (by rfl) (v := _) ?_ ⟨rfl, hG.keep 20 _ rfl rfl rfl⟩; go_simp; (try with_reducible rfl)
          case _ => (repeat (refine givenV_step rfl (fun v h hv => ?_); (try dsimp only at h); (try subst h))); refine givenV_nil ?_; (try simp only [Act.put, List.setIfInBounds_toArray, List.set_cons_zero, List.set_cons_succ]); refine free_read rfl (by rfl) (v := _) ?_ ⟨rfl, hG.keep 21 _ rfl rfl rfl⟩; go_simp; (try with_reducible rfl)
          case _ => (repeat (refine givenV_step rfl (fun v h hv => ?_); (try dsimp only at h); (try subst h))); refine givenV_nil ?_; (try simp only [Act.put, List.setIfInBounds_toArray, List.set_cons_zero, List.set_cons_succ]); refine free_read rfl (by rfl) (v := _) ?_ ⟨rfl, hG.keep 22 _ rfl rfl rfl⟩; go_simp; (try with_reducible rfl)
          case _ => (repeat (refine givenV_step rfl (fun v h hv => ?_); (try dsimp only at h); (try subst h))); refine givenV_nil ?_; (try simp only [Act.put, List.setIfInBounds_toArray, List.set_cons_zero, List.set_cons_succ]); refine free_read rfl (by rfl) (v := _) ?_ ⟨rfl, hG.keep 23 _ rfl rfl rfl⟩; go_simp; (try with_reducible rfl)
          case _ =>
            (repeat (refine givenV_step rfl (fun v h hv => ?_); (try dsimp only at h); (try subst h)))
            refine givenV_nil ?_
            (try simp only [Act.put, List.setIfInBounds_toArray, List.set_cons_zero, List.set_cons_succ])
            refine wpOp_list rfl (fun K hK => ?_)
            go_simp
            refine (of_at (HR0.out.grown hG.grown (by simp)) HSM.out A18 2 u3 (by omega) _).mono ?_
            rintro e w2 ⟨rfl, rfl⟩
            exact hK _ _ ⟨_, rfl, by rw [hr4], hG.keep 24 _ rfl rfl rfl⟩
          case _ => (repeat (refine givenV_step rfl (fun v h hv => ?_); (try dsimp only at h); (try subst h))); refine givenV_nil ?_; (try simp only [Act.put, List.setIfInBounds_toArray, List.set_cons_zero, List.set_cons_succ]); refine free_read rfl (by rfl) (v := _) ?_ ⟨rfl, hG.keep 25 _ rfl rfl rfl⟩; go_simp; (try with_reducible rfl)
          case _ => (repeat (refine givenV_step rfl (fun v h hv => ?_); (try dsimp only at h); (try subst h))); refine givenV_nil ?_; (try simp only [Act.put, List.setIfInBounds_toArray, List.set_cons_zero, List.set_cons_succ]); refine free_read rfl (by rfl) (v := _) ?_ ⟨rfl, hG.keep 26 _ rfl rfl rfl⟩; go_simp; (try with_reducible rfl)
          case _ =>
            have hd28 : D 28 = false := by
              cases h : D 28
              · rfl
              · rw [hG.o28 h] at hD
                cases hD
            have hd30 : D 30 = false := by
              cases h : D 30
              · rfl
              · rw [(hG.o30 h).2] at hd28
                cases hd28
            have hsz : W.heap.size = wr.heap.size := by have := hG.size hd28; rw [hD] at this; simpa using this
            (repeat (refine givenV_step rfl (fun v h hv => ?_); (try dsimp only at h); first | subst h | (obtain ⟨a1, c1, rfl⟩ := h; have hv28 := hv)))
            refine givenV_nil ?_
            (try simp only [Act.put, List.setIfInBounds_toArray, List.set_cons_zero, List.set_cons_succ])
            refine wpOp_list rfl (fun K hK => ?_)
            go_simp
            refine hK _ _ ⟨_, rfl, rfl, ?_⟩
            have hg := World.grownBy_alloc W (.cells #[.int .u64 r1, .int .i64 r2, .int .i64 r3, .int .i64 r4] 44) none
            refine ⟨grownBy_trans hG.grown hg, hG.newQ, hG.hR, Nat.lt_of_lt_of_le hG.lt hg.size, hG.res.grown hg (by simp), fun h => ?_, fun h => ?_, fun _ => (hG.bkt hd30).grown hg (by simp), fun h => ?_, fun _ => ?_, fun _ => owns_grown (hG.row hd28) hg, fun _ _ => ?_, fun h => ?_⟩
            · simp [setD, hd30] at h
            · simp [setD, hd28] at h
            · simp [setD, hd30] at h
            · simp [setD, hsz]
            · have h := Blk.new W 44 [.int .u64 r1, .int .i64 r2, .int .i64 r3, .int .i64 r4]
              rw [hsz] at h
              exact h
            · simp [setD, hd28] at h
          case _ =>
            have h27 : D 27 = true := hC 27 (by simp)
            have hd30 : D 30 = false := by
              cases h : D 30
              · rfl
              · rw [(hG.o30 h).2] at hD
                cases hD
            have hrs := Rds.of_blk (sz := 4) (n := 1) (c := 1) (hG.new hD h27) rfl (by unfold maxLen; omega)
            (repeat (refine givenV_step rfl (fun v h hv => ?_); (try dsimp only at h); first | subst h | (obtain ⟨a1, c1, rfl⟩ := h; have hv28 := hv)))
            refine givenV_nil ?_
            (try simp only [Act.put, List.setIfInBounds_toArray, List.set_cons_zero, List.set_cons_succ])
            refine wpOp_list rfl (fun K hK => ?_)
            refine step_append_rds (by rfl) _ _ 22 (by rfl) (w0.heap.size + 1) 44 i0 _ 4 32 Try.underlying22 hi hz0 hz1 hz2 rfl (by decide) (v := .slice av k cv) (by rfl) (hG.row hD) (by rfl) hrs (by simp [Value.oneCell']) (by unfold maxLen; omega) (by omega) (by have := hG.lt; omega) ?_
            intro v' w' h1 h2 h3
            rw [HVAL.out] at h1
            obtain ⟨a1, c1, rfl⟩ := (Rds.of_owns h1).slice
            refine hK _ _ ⟨_, rfl, ⟨a1, c1, rfl⟩, ?_⟩
            have hrow : ∀ b, (Value.slice av k cv).ownBlock = some b → w0.heap.size < b := fun b hb => by have := ((hG.row hD).lt b hb).1; omega
            refine ⟨grownBy_own2 hG.grown (hG.row hD) (by omega) h2, hG.newQ, hG.hR, Nat.lt_of_lt_of_le hG.lt h2.size, hG.res.grown h2 (fun e => by have := hrow _ e.symm; have := hG.hR; omega), fun h => ?_, fun _ => ?_, fun _ => (hG.bkt hd30).grown h2 (fun e => by have := hrow _ e.symm; omega), fun h => ?_, fun h => ?_, fun h => ?_, fun h => ?_, fun _ => ?_⟩
            · simp [setD, hd30] at h
            · simp [setD, h27]
            · simp [setD, hd30] at h
            · simp [setD] at h
            · simp [setD] at h
            · simp [setD] at h
            · simpa [setV] using h1
          case _ => (repeat (refine givenV_step rfl (fun v h hv => ?_); (try dsimp only at h); (try subst h))); refine givenV_nil ?_; (try simp only [Act.put, List.setIfInBounds_toArray, List.set_cons_zero, List.set_cons_succ]); refine free_read rfl (by rfl) (v := _) ?_ ⟨rfl, hG.keep 29 _ rfl rfl rfl⟩; go_simp; (try with_reducible rfl)
          case _ =>
            have h28 : D 28 = true := hC 28 (by simp)
            have h27 : D 27 = true := hC 27 (by simp)
            have h1 : D 1 = true := hC 1 (by simp)
            have hbk := hG.bkt hD
            have b2 := hbk.cell (j := 2) rfl
            have f2 := hbk.frozen 2
            (repeat (refine givenV_step rfl (fun v h hv => ?_); (try dsimp only at h); first | subst h | (obtain ⟨a1, c1, rfl⟩ := h; have hv28 := hv)))
            refine givenV_nil ?_
            (try simp only [Act.put, List.setIfInBounds_toArray, List.set_cons_zero, List.set_cons_succ])
            refine wpOp_list rfl (fun K hK => ?_)
            go_simp
            refine hK _ _ ⟨undef, rfl, True.intro, ?_⟩
            have hg := grownBy_setCell W ⟨w0.heap.size, 2, none⟩ (.slice a1 (k + 1) c1)
            have hrow2 := hG.row2 h28
            refine ⟨grownBy_base2 hG.grown hg (Nat.le_refl _), hG.newQ, hG.hR, Nat.lt_of_lt_of_le hG.lt hg.size, hG.res.setCell_other (by have := hG.hR; simp; omega) _, fun _ => ?_, fun _ => ?_, fun h => ?_, fun _ => ?_, fun h => ?_, fun h => ?_, fun h => ?_, fun _ => ?_⟩
            · simp [setD, h1, h28]
            · simp [setD, h27]
            · simp [setD] at h
            · have := hbk.setCell 2 (.slice a1 (k + 1) c1)
              simpa [setV, hv28] using this
            · simp [setD, h28] at h
            · simp [setD, h28] at h
            · simp [setD, h28] at h
            · have := owns_set hrow2 ⟨w0.heap.size, 2, none⟩ (.slice a1 (k + 1) c1) (by simp)
              simpa [setV] using this
        case xend =>
          intro D vals W hG hD
          have h28 : D 28 = true := hD 28 (by decide)
          have h30 : D 30 = true := hD 30 (by decide)
          have hb := hG.bkt2 h30
          have hr := hG.row2 h28
          iterate 28 (refine givenV_step rfl (fun v h hv => ?_); (try dsimp only at h); subst h; clear hv)
          refine givenV_step rfl (fun v h hv28 => ?_)
          obtain ⟨a1, c1, rfl⟩ := h
          refine givenV_step rfl (fun v h hv => ?_)
          (try dsimp only at h)
          subst h
          clear hv
          refine givenV_step rfl (fun v h hv => ?_)
          clear h hv
          refine givenV_nil ?_
          rw [hv28] at hb hr
          have HE : Hid (VB w0 W w.heap.size w0.heap.size (dAt xs) (pAt xs) (.slice a1 (k + 1) c1) (entsK xs (k + 1))) := Lib.hid ⟨hG.grown, hG.newQ, hG.hR, hG.res, hb, by rw [entsK_len]; exact hr⟩
          clear hb hr hv28 hG hD h28 h30
          (try simp only [Act.put, List.setIfInBounds_toArray, List.set_cons_zero, List.set_cons_succ])
          go_wp2_with fail
          refine ⟨⟨k + 1, a1, c1, hlt, ?_, HE.out⟩, ?_⟩
          · have := HA.out
            have := HA20.out
            simp only [Value.int.injEq, true_and]
            clear m1 m2 m3 m4 m5 m6 m7 m8 m9 p8 p16 p18 p20
            omega
          · have := HA20.out
            clear m1 m2 m3 m4 m5 m6 m7 m8 m9 p8 p16 p18 p20
            simp only [intOf]
            omega
      · have hkn : k = nAt xs := by omega
        subst hkn
        have hlen2 : decide ((10 + 20 * (nAt xs : Int)) < (xs.length : Int)) = false := decide_eq_false (by have := HSZ.out; omega)
        have hlen : decide (((10 + 20 * nAt xs : Nat) : Int) < (xs.length : Int)) = false := decide_eq_false (by have := HSZ.out; omega)
        have HL0 : Hid (w.grownBy wr none) := Lib.hid (grownBy_trans HG0.out HVB.out.grown)
        have b0 := HVB.out.bkt.cell (j := 0) rfl
        have b1 := HVB.out.bkt.cell (j := 1) rfl
        have b2 := HVB.out.bkt.cell (j := 2) rfl
        have ROW := Lib.hid (Rds.of_owns HVB.out.row)
        clear hlt hk
        go_wp2_with fail
        have HBR := Lib.hid (rright_any (dAt xs) (pAt xs) slots (entsK xs (nAt xs)) av cv wr (by have := ROW.out; rw [entsK_len] at this ⊢; exact this))
        have hl := entsK_len xs (nAt xs)
        rw [hl] at HBR
        refine HBR.out.mono ?_
        rintro e w3 ⟨rfl, g3⟩
        have HVB := Lib.hid (HVB.out.later g3)
        have HL0 := Lib.hid (grownBy_trans HL0.out g3)
        clear g3 HBR hl b0 b1 b2
        have z0 := HVB.out.res.cell (j := 0) rfl
        have z1 := HVB.out.res.cell (j := 1) rfl
        have z2 := HVB.out.res.cell (j := 2) rfl
        have y0 := HVB.out.res.frozen 0
        have y1 := HVB.out.res.frozen 1
        have y2 := HVB.out.res.frozen 2
        have b0 := HVB.out.bkt.cell (j := 0) rfl
        have b1 := HVB.out.bkt.cell (j := 1) rfl
        have b2 := HVB.out.bkt.cell (j := 2) rfl
        have HSB : Hid (sizeB xs = true) := Lib.hid (decide_eq_true HSZ.out)
        cases hB : rightB (dAt xs) (pAt xs) slots (entsK xs (nAt xs))
        · have HNO : Hid (readB xs slots = false) := Lib.hid (by
            unfold readB
            rw [hB, Bool.and_false])
          clear hB
          go_wp2_with fail
          clear z0 z1 z2 y0 y1 y2
          have hb1 := ((HVB.out.res.setCell 0 (.int .i64 0)).setCell 1 (.int .i64 0)).setCell 2 (.slice none 0 0)
          have z0 := hb1.cell (j := 0) rfl
          have z1 := hb1.cell (j := 1) rfl
          have z2 := hb1.cell (j := 2) rfl
          refine bodyPost_ret (v := .tuple #[.agg #[.int .i64 0, .int .i64 0, .slice none 0 0], .int .i64 5]) (by simp [results, Try.results19, go_sem, z0, z1, z2]) rfl (UPost.no HNO.out rfl ?_)
          exact grownBy_base2 (grownBy_base2 (grownBy_base2 HL0.out (grownBy_setCell _ _ _) (Nat.le_refl _)) (grownBy_setCell _ _ _) (Nat.le_refl _)) (grownBy_setCell _ _ _) (Nat.le_refl _)
        · have HYES : Hid (readB xs slots = true) := Lib.hid (by
            unfold readB
            rw [HSB.out, hB]
            rfl)
          clear hB
          go_wp2_with fail
          clear z0 z1 z2 y0 y1 y2
          have hb1 := ((HVB.out.res.setCell 0 (.int .i64 (dAt xs))).setCell 1 (.int .i64 (pAt xs))).setCell 2 (.slice av (nAt xs) cv)
          have z0 := hb1.cell (j := 0) rfl
          have z1 := hb1.cell (j := 1) rfl
          have z2 := hb1.cell (j := 2) rfl
          have hro := Rds.of_owns (owns_set (owns_set (owns_set HVB.out.row ⟨w.heap.size, 0, none⟩ (.int .i64 (dAt xs)) (by have := HVB.out.hR; have := HVB.out.newQ; simp; omega)) ⟨w.heap.size, 1, none⟩ (.int .i64 (pAt xs)) (by have := HVB.out.hR; have := HVB.out.newQ; simp; omega)) ⟨w.heap.size, 2, none⟩ (.slice av (nAt xs) cv) (by have := HVB.out.hR; have := HVB.out.newQ; simp; omega))
          rw [entsK_len] at hro
          refine bodyPost_ret (v := .tuple #[.agg #[.int .i64 (dAt xs), .int .i64 (pAt xs), .slice av (nAt xs) cv], .int .i64 0]) (by simp [results, Try.results19, go_sem, z0, z1, z2]) rfl (UPost.yes (a := av) (c := cv) HYES.out (by rw [entsK_len]) (by rw [entsK_len]; exact hro) ?_)
          exact grownBy_base2 (grownBy_base2 (grownBy_base2 HL0.out (grownBy_setCell _ _ _) (Nat.le_refl _)) (grownBy_setCell _ _ _) (Nat.le_refl _)) (grownBy_setCell _ _ _) (Nat.le_refl _)

end Go.Proofs.Ytddpjfmogjcimaa
