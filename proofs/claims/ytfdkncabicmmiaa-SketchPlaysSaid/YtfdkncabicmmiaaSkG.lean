/- package sketch: Guess. -/
import Derived.Test.YtfdkncabicmmiaaSkP
import Derived.Test.YtfdkncabicmmiaaPlan2R
import Derived.Laws.Small
namespace Go.Proofs.Ytfdkncabicmmiaa
open Go.RowKit Go.Shelf
attribute [local go_sem] Oper.semAt_some

/-- A number's place among all counts. -/
def plC (m : Nat) (h : BitVec 64) (i : Fin 4) : Nat := i.val * m + plN m h i.val
def gsL (m : Nat) (C : Nat → Nat) (h : BitVec 64) (pre : List (Fin 4)) : Nat := pre.foldl (fun n i => min n (C (plC m h i))) 15
def gs (m : Nat) (C : Nat → Nat) (h : BitVec 64) : Nat := gsL m C h (first4 4)
theorem gsL_snoc (m : Nat) (C : Nat → Nat) (h : BitVec 64) (pre : List (Fin 4)) (x : Fin 4) : gsL m C h (pre ++ [x]) = min (gsL m C h pre) (C (plC m h x)) := by
  simp [gsL, List.foldl_append]
theorem gsL_le (m : Nat) (C : Nat → Nat) (h : BitVec 64) : ∀ (pre : List (Fin 4)) (n : Nat), pre.foldl (fun n i => min n (C (plC m h i))) n ≤ n
  | [], _ => Nat.le_refl _
  | x :: pre, n => Nat.le_trans (gsL_le m C h pre _) (Nat.min_le_left _ _)
theorem gs_le (m : Nat) (C : Nat → Nat) (h : BitVec 64) : gs m C h ≤ 15 := gsL_le m C h _ 15
theorem gs_eq (m : Nat) (C : Nat → Nat) (h : BitVec 64) : gs m C h = min (min (min (min 15 (C (plC m h 0))) (C (plC m h 1))) (C (plC m h 2))) (C (plC m h 3)) := rfl
theorem plN_lt {m : Nat} (hm : 0 < m) (h : BitVec 64) (i : Nat) : plN m h i < m := Nat.mod_lt _ hm
theorem SK.at {w : World} {B : Nat} {g : Nat → Nat} {m age : Nat} {C : Nat → Nat} (hs : SK w B g m age C) (h : BitVec 64) (i : Fin 4) : w.cell? ⟨g i, plN m h i, none⟩ = some (u8V (C (plC m h i))) :=
  (hs.row i i.isLt).cell (rowV_at m C i _ (plN_lt (by have := pow2_le hs.pow; omega) h i))
theorem SK.keptS {n : Nat} {S : Nat → Prop} {w w' : World} {B : Nat} {g : Nat → Nat} {m age : Nat} {C : Nat → Nat} (h : SK w B g m age C) (hk : KeptS n S w w') (hB : B < n ∧ ¬ S B) (hg : ∀ i, i < 4 → g i < n ∧ ¬ S (g i)) : SK w' B g m age C :=
  ⟨h.blk.keptS hk hB.1 hB.2, fun i hi => (h.row i hi).keptS hk (hg i hi).1 (hg i hi).2, h.ne, h.inj, h.le, h.pow, h.ag⟩
theorem SK.below {n : Nat} {w w' : World} {B : Nat} {g : Nat → Nat} {m age : Nat} {C : Nat → Nat} (h : SK w B g m age C) (hk : Below n w w') (hB : B < n) (hg : ∀ i, i < 4 → g i < n) : SK w' B g m age C :=
  h.keptS (S := fun _ => False) (keptS_of_below hk) ⟨hB, fun h => h⟩ (fun i hi => ⟨hg i hi, fun h => h⟩)

set_option maxRecDepth 100000 in
set_option maxHeartbeats 2000000 in
theorem guess_any (B : Nat) (g : Nat → Nat) (m age : Nat) (C : Nat → Nat) (q : BitVec 64) (w : World) (hs : SK w B g m age C) :
    Calls Try.prog 10 #[.pointer (some ⟨B, 0, none⟩), .int .u64 (U q)] w fun e W' => e = .returned (.int .i64 (gs m C q : Nat)) ∧ w.grownBy W' none := by
  have HP := Lib.hid hs.pow
  have HS := Lib.hid hs
  have HBL : Hid (B < w.heap.size) := Lib.hid hs.lt.1
  have HGL : Hid (∀ i, i < 4 → g i < w.heap.size) := Lib.hid hs.lt.2
  have HLE := Lib.hid (gs_le m C q)
  have HV : Hid (IntKind.i64.wrap (gs m C q : Int) = (gs m C q : Int)) := Lib.hid (IntWalk.i64_in _ ⟨by have := HLE.out; omega, by have := HLE.out; omega⟩)
  clear hs
  have hro : Fence.wide.round = none := rfl
  refine (callsIn_wide (n := 20)).1 ?_
  refine callsIn_of_wp_marks Try.func10 rfl trivial ?_ hro
  simp only [Try.ntmps10, List.size_toArray, List.length_cons, List.length_nil, Nat.reduceAdd, Nat.reduceSub, Array.replicate_succ, Array.replicate_zero, List.push_toArray, List.append_toArray, List.nil_append, List.cons_append]
  gi_wp2_with (refine ⟨trivial, ?_⟩; gi_at_call 26; refine (callsIn_wide.2 (places_calls _ _ _)).mono ?_; rintro e w' ⟨rfl, rfl⟩)
  obtain ⟨w2, hw2⟩ : ∃ w2, (((w.alloc (.cells #[.int .u8 15] 5)).alloc (.cells #[.pointer (some ⟨B, 0, none⟩)] 23)).alloc (.cells #[.int .u64 (U q)] 26)) = w2 := ⟨_, rfl⟩
  have hBw : Below w.heap.size w w2 := by rw [← hw2]; exact (((Below.refl _ w).alloc (Nat.le_refl _) _).alloc (by simp) _).alloc (by simp; omega) _
  have hz : w2.heap.size = w.heap.size + 3 := by rw [← hw2]; simp
  have bO : Boxed w2 w.heap.size 5 (u8V 15) := by rw [← hw2]; exact ((Boxed.new w _ _).alloc _).alloc _
  have hc1 : w2.cell? ⟨w.heap.size + 1, 0, none⟩ = some (.pointer (some ⟨B, 0, none⟩)) := by
    rw [← hw2]
    have h9 := (Boxed.new (w.alloc (.cells #[.int .u8 15] 5)) 23 (.pointer (some ⟨B, 0, none⟩))).alloc (.cells #[.int .u64 (U q)] 26)
    rw [World.size_alloc] at h9
    exact h9.cell
  have hc2 : w2.cell? ⟨w.heap.size + 2, 0, none⟩ = some (.int .u64 (U q)) := by
    rw [← hw2]
    have h9 := Boxed.new ((w.alloc (.cells #[.int .u8 15] 5)).alloc (.cells #[.pointer (some ⟨B, 0, none⟩)] 23)) 26 (.int .u64 (U q))
    simp only [World.size_alloc] at h9
    exact h9.cell
  rw [hw2]
  clear hw2
  have hS2 := HS.out.grown (grownBy_below hBw)
  refine wpIn_rangeFunc_ownG hro (by omega) (gf := 39) (lb := #[.pointer (some ⟨w.heap.size + 2, 0, none⟩), .pointer (some ⟨w.heap.size + 1, 0, none⟩)]) rfl trivial (enters_of Try.func39 (by kernel_rfl) rfl)
    (places1_stops 19 (w.heap.size + 1) (w.heap.size + 2) w2.heap.size B m age (fun k => k = w.heap.size) g q (by omega) HP.out w2 (by omega) (by omega) (by have := HBL.out; omega) (Nat.le_refl _) hc1 hc2 hS2.blk)
    KeptS.trans (KeptS.putObj (Nat.le_refl _)) (Below.refl _ _) (fun _ => rfl)
    (fun (pre : List (Fin 4)) W => (Boxed W w.heap.size 5 (u8V (gsL m C q pre))) ∧ Below w.heap.size w2 W)
    (fun _ _ _ => False)
    (OwnFrom.and (Own.from (boxed_own _ _ _) _) (ownFrom_below (by omega) (by omega)))
    (fun _ _ _ _ _ hs _ _ => hs)
    ⟨bO, Below.refl _ _⟩
    ?a₁ ?assign ?body ?done ?stop
  case assign =>
    intro l x W K hK
    gi_wp2
    exact hK
  case body =>
    rintro l pre x W ⟨hv, hB⟩ hlt
    have hc := hv.cell
    have hf := hv.frozen
    have hx := (hS2.below hB HBL.out HGL.out).at q x
    gi_wp2
    dsimp only [plV]
    refine wpIn_region_planR (fun w' => w'.cell? ⟨w.heap.size, 0, none⟩ = some (u8V (gsL m C q pre)) ∧ w'.cell? ⟨g x, plN m q x, none⟩ = some (u8V (C (plC m q x)))) [([0, 1, 2, 3, 4], 5, false)] hro (by kernel_rfl) (by kernel_rfl) ?_
    refine wpPlanDIn_seg ⟨hc, hx⟩ ?_
    repeat ((first | (apply wpReadDIn_step rfl (fun _ => rfl) (by rfl); (· intro wS hSw; (try have hSw := hSw rfl); (try dsimp only at hSw); (try obtain ⟨k0, k1⟩ := hSw); (try unfold u8V at k0 k1); go_simp; (try with_reducible rfl))) | (apply wpReadDIn_skip rfl (fun _ => rfl) (by rfl))); (try simp only [Act.put, List.setIfInBounds_toArray, List.set_cons_zero, List.set_cons_succ]))
    refine wpReadDIn_nil ?_
    refine wpOpIn_list rfl (fun K hK => ?_)
    go_simp
    refine hK _ _ ⟨fun hf => (by cases hf), ?_⟩
    clear hK K
    refine wpPlanDIn_nil (NoPanic.normal ?_)
    gi_wp2
    all_goals
      have hg1 := grownBy_trans (grownBy_setCell W ⟨w.heap.size, 0, none⟩ (u8V (gsL m C q (pre ++ [x])))) (grownBy_drewN _ 1 _)
      have hgv : gsL m C q (pre ++ [x]) = (if C (plC m q x) < gsL m C q pre then C (plC m q x) else gsL m C q pre) := by
        rw [gsL_snoc]; split <;> omega
      first | rw [if_pos ‹_›] at hgv | rw [if_neg ‹_›] at hgv
      have hvB : Boxed (W.setCell ⟨w.heap.size, 0, none⟩ (u8V (gsL m C q (pre ++ [x])))).drew w.heap.size 5 (u8V (gsL m C q (pre ++ [x]))) := hv.set _
      have hBB : Below w.heap.size w2 (W.setCell ⟨w.heap.size, 0, none⟩ (u8V (gsL m C q (pre ++ [x])))).drew := (hB.setCell (p := ⟨w.heap.size, 0, none⟩) (Nat.le_refl _) _).drew
      rw [hgv] at hg1 hvB hBB
      refine ⟨KeepsFrom.of_grownBy hg1 (fun j e => by cases e; show w.heap.size < w.heap.size + 3; omega), ⟨hg1.size, fun k hk hne => ?_⟩, ?_, hBB⟩
      · show (W.setCell _ _).heap[k]? = _
        exact Below.heap_setCell _ _ _ _ hne
      · rw [hgv]; exact hvB
  case done =>
    rintro D ys W hD rfl ⟨hv, hB⟩ hK
    have hc := hv.cell
    unfold u8V at hc
    have hi : IntKind.i64.wrap (gsL m C q (first4 4) : Int) = (gs m C q : Int) := HV.out
    have hL := HLE.out
    change gsL m C q (first4 4) ≤ 15 at hL
    gi_wp2
    refine ⟨by simp, .inl ⟨_, _, rfl, run_takeDeferred hK, ?_⟩⟩
    refine ⟨_, results_tmp rfl _ _ _, rfl, grownBy_below ((hBw.trans hB).trans (belowK_b (w := w) (Nat.le_refl _) W D _ _ (by omega) hK rfl rfl))⟩
  case stop =>
    rintro D c pre W _ _ hf _
    exact hf.elim

end Go.Proofs.Ytfdkncabicmmiaa
