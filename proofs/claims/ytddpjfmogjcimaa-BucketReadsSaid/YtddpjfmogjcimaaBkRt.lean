/- package bucket: Right. -/
import Derived.Test.YtddpjfmogjcimaaBkPairs
import Derived.RangeFuncNested
import Derived.RangeFuncLeaves
import Derived.Shelf.Abstract
namespace Go.Proofs.Ytddpjfmogjcimaa
open Go.RowKit Go.Shelf
attribute [local go_sem] Oper.semAt_some

theorem rightB_done {d p slots : Int} {xs : List Ent} (h : headB d p slots xs.length = true) (hp : ∀ q ∈ pairsL xs (xs.length - 1), U q.1.h < U q.2.h) : rightB d p slots xs = !anyBad d p xs := by
  have hup : ∀ i, i < xs.length → upE xs i = true := by
    intro i hi
    unfold upE
    by_cases h0 : i = 0
    · rw [decide_eq_true h0]; rfl
    · have := hp (xs.getD (i - 1) Ent.zero, xs.getD i Ent.zero) (by
        unfold pairsL upto
        rw [List.mem_map]
        exact ⟨i - 1, by rw [List.mem_range]; omega, by rw [show i - 1 + 1 = i by omega]⟩)
      rw [decide_eq_true this, Bool.or_true]
  unfold rightB
  rw [h, Bool.true_and]
  cases hb : anyBad d p xs
  · have : ∀ i, i < xs.length → okI d p xs i = true := by
      intro i hi
      unfold okI
      rw [hup i hi, Bool.and_true]
      cases hk : okE d p (xs.getD i Ent.zero)
      · rw [anyBad_yes i hi hk] at hb; cases hb
      · rfl
    rw [all_upto _ _ this]; rfl
  · have : ∃ i, i < xs.length ∧ okE d p (xs.getD i Ent.zero) = false := by
      refine Classical.byContradiction fun hn => ?_
      have : anyBad d p xs = false := anyBad_no (fun i hi => by
        cases hk : okE d p (xs.getD i Ent.zero)
        · exact absurd ⟨i, hi, hk⟩ hn
        · rfl)
      rw [this] at hb
      cases hb
    obtain ⟨i, hi, hk⟩ := this
    rw [not_all _ _ i hi (by unfold okI; rw [hk]; rfl)]; rfl
theorem rightB_stop {d p slots : Int} {xs : List Ent} {k : Nat} (hk : k ≤ xs.length - 1) {q : Ent × Ent} (hq : q ∈ pairsL xs k) (hn : ¬ U q.1.h < U q.2.h) : rightB d p slots xs = false := by
  unfold pairsL upto at hq
  rw [List.mem_map] at hq
  obtain ⟨i, hi, rfl⟩ := hq
  rw [List.mem_range] at hi
  refine rightB_at (i + 1) (by omega) ?_
  unfold okI upE
  rw [decide_eq_false (by omega), show i + 1 - 1 = i by omega, decide_eq_false hn, Bool.false_or, Bool.and_false]

/-- What no object but a row of cells turns leaves a block as it was. -/
theorem blk_own {X Y : World} {row : Option Nat} {b : Nat} {e : TypeId} {vs : List Value} (h : Blk X b e vs) (hg : X.grownBy Y row) (hr : ∀ r, row = some r → ∃ o : Obj, X.heap[r]? = some o ∧ o.isCells = false) : Blk Y b e vs :=
  h.grown hg (fun e' => by
    obtain ⟨o, ho, hc⟩ := hr b e'.symm
    rw [show X.heap[b]? = _ from h] at ho
    cases ho
    cases hc)

def RisesL (pre : List (Ent × Ent)) : Prop := ∀ q ∈ pre, U q.1.h < U q.2.h
def FallsL (pre : List (Ent × Ent)) : Prop := ∃ q ∈ pre, ¬ U q.1.h < U q.2.h

set_option maxRecDepth 100000 in
set_option maxHeartbeats 8000000 in
theorem bright_any (d p slots : Int) (xs : List Ent) (a : Option Addr) (c : Nat) (w : World) (hr : Rds w 4 (.slice a xs.length c) xs.length (entsV xs)) :
    Calls Try.prog 17 #[.agg #[.int .i64 d, .int .i64 p, .slice a xs.length c], .int .i64 slots] w fun e w' => e = .returned (.bool (rightB d p slots xs)) ∧ w.grownBy w' none := by
  have hm := hr.2.1
  unfold maxLen at hm
  have HW := Lib.hid (fun (n h : Int) (W : World) => within_any n h W)
  have hro : Fence.wide.round = none := rfl
  have hret : ∀ {b : Bool}, rightB d p slots xs = b → Ending.returned (.bool b) = .returned (.bool (rightB d p slots xs)) := fun h => by rw [h]
  have g2 : w.grownBy ((w.alloc (.cells #[.int .i64 d, .int .i64 p, .slice a xs.length c] 29)).alloc (.cells #[.bool false] 4)) none := grownBy_trans (World.grownBy_alloc _ _ none) (World.grownBy_alloc _ _ none)
  have hfr := fun (h : ¬ (1 ≤ slots ∧ slots ≤ 255 ∧ (xs.length : Int) ≤ slots ∧ 0 ≤ d ∧ d ≤ 8 ∧ 0 ≤ p ∧ p < 2 ^ d.toNat)) => hret (@rightB_head d p slots xs h)
  have HF := Lib.hid hfr
  have HG := Lib.hid g2
  have HR := Lib.hid hr
  clear hret g2 hfr hr
  by_cases c1 : slots < 1
  · go_enter Try.func17, Try.ntmps17
    go_wp2
    refine bodyPost_ret (v := .bool false) (by simp [results, Try.results17, go_sem]) rfl ?_
    exact ⟨HF.out (by omega), HG.out⟩
  by_cases c2 : 255 < slots
  · go_enter Try.func17, Try.ntmps17
    go_wp2
    refine bodyPost_ret (v := .bool false) (by simp [results, Try.results17, go_sem]) rfl ?_
    exact ⟨HF.out (by omega), HG.out⟩
  by_cases c3 : slots < (xs.length : Int)
  · go_enter Try.func17, Try.ntmps17
    go_wp2
    refine bodyPost_ret (v := .bool false) (by simp [results, Try.results17, go_sem]) rfl ?_
    exact ⟨HF.out (by omega), HG.out⟩
  rcases (Decidable.em (0 ≤ d ∧ d ≤ 8)).symm with c4 | c4
  · have hd4 : decide (0 ≤ d ∧ d ≤ 8) = false := decide_eq_false c4
    go_enter Try.func17, Try.ntmps17
    go_wp2_with fail
    refine (HW.out _ _ _).mono ?_
    rintro e w1 ⟨rfl, rfl⟩
    rw [hd4]
    go_wp2
    refine bodyPost_ret (v := .bool false) (by simp [results, Try.results17, go_sem]) rfl ?_
    exact ⟨HF.out (by omega), HG.out⟩
  have hd4 : decide (0 ≤ d ∧ d ≤ 8) = true := decide_eq_true c4
  by_cases c5 : p < 0
  · have h5 : decide (p < 0) = true := decide_eq_true c5
    go_enter Try.func17, Try.ntmps17
    go_wp2_with fail
    refine (HW.out _ _ _).mono ?_
    rintro e w1 ⟨rfl, rfl⟩
    rw [hd4]
    go_wp2
    refine bodyPost_ret (v := .bool false) (by simp [results, Try.results17, go_sem]) rfl ?_
    exact ⟨HF.out (by omega), HG.out⟩
  have h5 : decide (p < 0) = false := decide_eq_false c5
  obtain ⟨dn, rfl⟩ := Int.eq_ofNat_of_zero_le c4.1
  have hq : p / 2 ^ dn = 0 ↔ p < 2 ^ dn := ⟨fun h => by
    have h1 : (0 : Int) < 2 ^ dn := Int.pow_pos (by omega)
    have h2 := Int.lt_ediv_add_one_mul_self p h1
    rw [h, Int.zero_add, Int.one_mul] at h2
    exact h2, fun h => Int.ediv_eq_zero_of_lt (by omega) h⟩
  rcases (Decidable.em (p / 2 ^ dn = 0)).symm with c6 | c6
  · have h6 : (p / 2 ^ dn != 0) = true := by simpa using c6
    go_enter Try.func17, Try.ntmps17
    go_wp2_with fail
    refine (HW.out _ _ _).mono ?_
    rintro e w1 ⟨rfl, rfl⟩
    rw [hd4]
    go_wp2
    refine bodyPost_ret (v := .bool false) (by simp [results, Try.results17, go_sem]) rfl ?_
    exact ⟨HF.out (by rw [Int.toNat_natCast]; have := mt hq.2 c6; omega), HG.out⟩
  have h6 : (p / 2 ^ dn != 0) = false := by simpa using c6
  have HQ := Lib.hid (hq.1 c6)
  clear hq
  refine (callsIn_wide (n := 20)).1 ?_
  refine callsIn_of_wp_marks Try.func17 rfl trivial ?_ hro
  simp only [Try.ntmps17, List.size_toArray, List.length_cons, List.length_nil, Nat.reduceAdd, Nat.reduceSub, Array.replicate_succ, Array.replicate_zero, List.push_toArray, List.append_toArray, List.nil_append, List.cons_append]
  gi_wp2_with (refine ⟨trivial, ?_⟩; first | (gi_at_call 37; refine (callsIn_wide.2 (HW.out _ _ _)).mono ?_; rintro e w' ⟨rfl, rfl⟩; rw [hd4]) | (gi_at_call 38; refine (callsIn_wide.2 (pairs_calls _ _ _ _ _ _)).mono ?_; rintro e w' ⟨rfl, rfl⟩))
  obtain ⟨W0, hW0⟩ : ∃ W0, ((w.alloc (.cells #[.int .i64 dn, .int .i64 p, .slice a xs.length c] 29)).alloc (.cells #[.bool false] 4)).alloc (.cells #[.int .i64 dn, .int .i64 p, .slice a xs.length c] 29) = W0 := ⟨_, rfl⟩
  have g0 : w.grownBy W0 none := by rw [← hW0]; exact grownBy_trans HG.out (World.grownBy_alloc _ _ none)
  have hz : W0.heap.size = w.heap.size + 3 := by rw [← hW0]; simp
  have bB : Blk W0 w.heap.size 29 [.int .i64 dn, .int .i64 p, .slice a xs.length c] := by
    rw [← hW0]; exact ((Blk.new w _ _).grown (World.grownBy_alloc _ _ none) (by simp)).grown (World.grownBy_alloc _ _ none) (by simp)
  have bR : Boxed W0 (w.heap.size + 1) 4 (.bool false) := by
    rw [← hW0]
    have h := Boxed.new (w.alloc (.cells #[.int .i64 dn, .int .i64 p, .slice a xs.length c] 29)) 4 (.bool false)
    rw [World.size_alloc] at h
    exact h.alloc _
  have bP : Blk W0 (w.heap.size + 1 + 1) 29 [.int .i64 dn, .int .i64 p, .slice a xs.length c] := by
    rw [← hW0]
    have h := Blk.new ((w.alloc (.cells #[.int .i64 dn, .int .i64 p, .slice a xs.length c] 29)).alloc (.cells #[.bool false] 4)) 29 [.int .i64 dn, .int .i64 p, .slice a xs.length c]
    simp only [World.size_alloc] at h
    exact h
  rw [hW0]
  clear hW0
  have hr0 := HR.out.grown g0 (by simp)
  have hB0 := below_grownBy g0
  have hrb : xs ≠ [] → ∀ b, (Value.slice a xs.length c).ownBlock = some b → b < W0.heap.size := fun hne b hb => by
    have := HR.out.lt (by cases xs with | nil => exact absurd rfl hne | cons x xs => simp [entsV, Ent.cells]) b hb
    omega
  have HST := Lib.hid (pairs1_stops 19 (w.heap.size + 1 + 1) W0.heap.size (by omega) xs a c W0 (by omega) (Nat.le_refl _) (bP.cell (j := 2) rfl) hr0 hrb)
  have HZ := Lib.hid hz
  have hzle : w.heap.size + 2 < W0.heap.size := by omega
  clear hz
  refine wpIn_rangeFunc_ownH hro (by omega) (gf := 57) (lb := #[.pointer (some ⟨w.heap.size + 1 + 1, 0, none⟩)]) rfl trivial (enters_of Try.func57 (by kernel_rfl) rfl)
    HST.out belowK_t (belowK_b (Nat.le_refl _)) (Below.refl _ _) (fun _ => rfl)
    (fun pre W => RisesL pre ∧ Below W0.heap.size W0 W)
    (fun k pre W => (k = .ret ∧ FallsL pre) ∧ (Boxed W (w.heap.size + 1) 4 (.bool false) ∧ Below w.heap.size w W))
    (OwnFrom.and (ownFrom_pure _ _) (ownFrom_below (Nat.le_refl _) (Nat.le_refl _)))
    (fun k => OwnFrom.and (ownFrom_pure _ _) (OwnFrom.and (Own.from (boxed_own _ _ _) _) (ownFrom_below (Nat.le_refl _) (by omega))))
    ⟨fun q hq => (by cases hq), Below.refl _ _⟩
    (fun q a' W => ∃ b5 b6, (Blk W b5 41 q.1.cells ∧ Blk W b6 41 q.2.cells) ∧ a' = { tmps := #[.agg #[.int .i64 dn, .int .i64 p, .slice a xs.length c], .int .i64 slots, .pointer (some ⟨w.heap.size, 0, none⟩), undef, .pointer (some ⟨w.heap.size + 1, 0, none⟩), .pointer (some ⟨b5, 0, none⟩), .pointer (some ⟨b6, 0, none⟩), .int .i64 slots, .bool false, .bool false, .int .i64 slots, .bool false, .bool false, .bool false, .pointer (some ⟨w.heap.size, 2, none⟩), .slice a xs.length c, .int .i64 xs.length, .int .i64 slots, .bool false, .bool false, .bool false, .pointer (some ⟨w.heap.size, 0, none⟩), .int .i64 dn, .bool true, .bool false, .bool false, .bool false, .pointer (some ⟨w.heap.size, 1, none⟩), .int .i64 p, .bool false, .bool false, .bool false, .pointer (some ⟨w.heap.size, 1, none⟩), .int .i64 p, .pointer (some ⟨w.heap.size, 0, none⟩), .int .i64 dn, .int .i64 0, .bool false, .bool false, .agg #[.int .i64 dn, .int .i64 p, .slice a xs.length c], .func (.func 57) #[] #[.pointer (some ⟨w.heap.size + 1 + 1, 0, none⟩)], q.1.val, q.2.val, undef, undef, undef, undef, undef, undef, undef, undef, undef, undef], defers := [] })
    (fun q a' _ X Y row hs hg hr => by
      obtain ⟨b5, b6, ⟨h5, h6⟩, h7⟩ := hs
      exact ⟨b5, b6, ⟨blk_own h5 hg (fun r e => (hr r e).2), blk_own h6 hg (fun r e => (hr r e).2)⟩, h7⟩)
    ?assign ?body ?done ?stop
  case assign =>
    rintro l pre q W K ⟨hI, hB1⟩ hK
    dsimp only [encP, Ent.val]
    gi_wp2
    have hsz := hB1.size
    refine hK _ _ (((KeepsOthers.alloc _ _).from _).trans ((KeepsOthers.alloc _ _).from _)) (((Below.refl _ W).alloc hsz _).alloc (by simp; omega) _) ⟨hI, (hB1.alloc hsz _).alloc (by simp; omega) _⟩ ⟨W.heap.size, W.heap.size + 1, ⟨?_, ?_⟩, rfl⟩
    · exact (Blk.new W _ _).grown (World.grownBy_alloc _ _ none) (by simp)
    · have h := Blk.new (W.alloc (.cells #[.int .u64 (U q.1.h), .int .i64 q.1.r, .int .i64 q.1.a, .int .i64 q.1.s] 41)) 41 q.2.cells
      rw [World.size_alloc] at h
      exact h
  case body =>
    rintro l pre q a' W hl _ ⟨hI, hB1⟩ ⟨b5, b6, ⟨k5, k6⟩, rfl⟩ hlt
    have u5 : W.cell? ⟨b5, 0, none⟩ = some (.int .u64 (U q.1.h)) := k5.cell (j := 0) rfl
    have u6 : W.cell? ⟨b6, 0, none⟩ = some (.int .u64 (U q.2.h)) := k6.cell (j := 0) rfl
    have bR1 : Boxed W (w.heap.size + 1) 4 (.bool false) := (hB1.block _ (by omega)).trans bR
    have r0 := bR1.cell
    have f0 := bR1.frozen
    generalize hu : U q.1.h = y5 at *
    generalize hv : U q.2.h = y6 at *
    by_cases hge : y6 ≤ y5
    · have hge' : decide (y5 ≥ y6) = true := decide_eq_true hge
      have hfl : FallsL (pre ++ [q]) := ⟨q, by simp, by rw [hu, hv]; omega⟩
      gi_wp2
      refine ⟨KeepsFrom.of_grownBy (grownBy_setCell W ⟨w.heap.size + 1, 0, none⟩ _) (fun j e => by cases e; show w.heap.size + 1 < W0.heap.size; omega), ⟨rfl, hfl⟩, bR1.set _, ?_⟩
      exact (Below.trans hB0 (hB1.mono (by omega))).setCell (p := ⟨w.heap.size + 1, 0, none⟩) (by simp) _
    · have hge' : decide (y5 ≥ y6) = false := decide_eq_false hge
      have hri : RisesL (pre ++ [q]) := fun q' hq' => by
        rcases List.mem_append.1 hq' with h | h
        · exact hI q' h
        · rw [List.mem_singleton] at h; subst h; rw [hu, hv]; omega
      gi_wp2
      exact ⟨KeepsFrom.refl _ _, Below.refl _ _, hri, hB1⟩
  case done =>
    rintro D ys W hD rfl ⟨hI, hB1⟩ hK
    have c0 : W.cell? ⟨w.heap.size, 0, none⟩ = some (.int .i64 dn) := (bB.below hB1 (by omega)).cell (j := 0) rfl
    have c1 : W.cell? ⟨w.heap.size, 1, none⟩ = some (.int .i64 p) := (bB.below hB1 (by omega)).cell (j := 1) rfl
    have c2 : W.cell? ⟨w.heap.size, 2, none⟩ = some (.slice a xs.length c) := (bB.below hB1 (by omega)).cell (j := 2) rfl
    have bR1 : Boxed W (w.heap.size + 1) 4 (.bool false) := (hB1.block _ (by omega)).trans bR
    have r0 := bR1.cell
    have f0 := bR1.frozen
    have hrd : rightB dn p slots xs = !anyBad dn p xs := rightB_done (by unfold headB; rw [Int.toNat_natCast]; exact decide_eq_true (by have := HQ.out; omega)) hI
    have HC := Lib.hid (contains_right w.heap.size dn p xs a c W (hr0.below hB1 (fun hne => hrb (fun e => hne (by rw [e]; rfl)))) c0 c1)
    gi_wp2_with (refine ⟨trivial, ?_⟩; gi_at_call 39; refine (callsIn_wide.2 HC.out).mono ?_; rintro e w5 ⟨rfl, g5⟩; have f5 := (bR1.kept g5 (by simp)).frozen; have r5 := (bR1.kept g5 (by simp)).cell)
    have hK5 : w5.heap[D]? = some (.deferred (some [])) := (g5.block D (Array.getElem?_eq_some_iff.1 hK).1 (by simp)).trans hK
    have hK6 := (KeepsOthers.setCell w5 ⟨w.heap.size + 1, 0, none⟩ (.bool (!anyBad dn p xs))).same D _ hK5 rfl
    have hb6 : Boxed (w5.setCell ⟨w.heap.size + 1, 0, none⟩ (.bool (!anyBad dn p xs))) (w.heap.size + 1) 4 (.bool (!anyBad dn p xs)) := (bR1.kept g5 (by simp)).set _
    refine ⟨by simp, .inl ⟨_, _, rfl, run_takeDeferred hK6, ?_⟩⟩
    have hc5 := cell_kept hb6.cell (grownBy_putObj' _ D (.deferred none)) (fun r e => by cases e; exact ⟨_, hK6, rfl⟩)
    have hsW := hB1.size
    refine ⟨.bool (!anyBad dn p xs), ?_, by rw [hrd], ?_⟩
    · simp [results, Try.f17, go_sem, hc5]
    · exact grownBy_below ((((Below.trans hB0 (hB1.mono (by omega))).trans ((below_grownBy g5).mono (by omega))).setCell (p := ⟨w.heap.size + 1, 0, none⟩) (by simp) _).trans (belowK_b (w := w) (Nat.le_refl _) _ D _ _ (by omega) hK6 rfl rfl))
  case stop =>
    rintro D k pre W hD ⟨m, hm1, rfl⟩ ⟨⟨rfl, q, hq, hn⟩, bR1, hB1⟩ hK
    have hrs : rightB dn p slots xs = false := rightB_stop hm1 hq hn
    have r0 := bR1.cell
    gi_wp2
    refine ⟨by simp, .inl ⟨_, _, rfl, run_takeDeferred hK, ?_⟩⟩
    have hc5 := cell_kept r0 (grownBy_putObj' W D (.deferred none)) (fun r e => by cases e; exact ⟨_, hK, rfl⟩)
    refine ⟨.bool false, ?_, rfl, ?_⟩
    · simp [results, Try.f17, go_sem, hc5]
    · exact grownBy_below (hB1.trans (belowK_b (w := w) (Nat.le_refl _) W D _ _ (by omega) hK rfl rfl))

end Go.Proofs.Ytddpjfmogjcimaa
