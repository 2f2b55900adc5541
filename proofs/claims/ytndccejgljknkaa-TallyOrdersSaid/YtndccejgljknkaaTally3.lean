/- The walk of tally.Since: its loop. -/
import Derived.Test.YtndccejgljknkaaTally2
namespace Go.Proofs.Ytndccejgljknkaa
open Go.RowKit Go.Shelf
attribute [local go_sem] Oper.semAt_some

set_option maxRecDepth 100000 in
set_option maxHeartbeats 2000000 in
theorem tsince (b a : Nat) (ao : Option Addr) (m c : Nat) (cs was : List Int) (hlen : cs.length ≤ 64) (hcs : ∀ c ∈ cs, 0 ≤ c ∧ c ≤ 1152921504606846976) (w : World)
    (hT : Blk w b 43 [.slice (some ⟨a, 0, none⟩) cs.length cs.length]) (hC : Blk w a 3 (cs.map (Value.int .i64))) (hR : Rds w 1 (.slice ao m c) was.length (was.map (Value.int .i64))) :
    Calls Try.prog 13 #[.pointer (some ⟨b, 0, none⟩), .slice ao m c] w fun e W' => ∃ v, e = .returned v ∧ W'.ownsRow w.heap.size 3 1 v cs.length ((upto (sinceF cs was) cs.length).map (Value.int .i64)) ∧ Below w.heap.size w W' := by
  obtain ⟨i0, hi, hz0, hz1, hz2⟩ := info_parts infoInt
  have hro : Fence.wide.round = none := rfl
  refine (callsIn_wide (n := 20)).1 ?_
  refine callsIn_of_wp_marks Try.func13 rfl trivial ?_ hro
  simp only [Try.ntmps13, List.size_toArray, List.length_cons, List.length_nil, Nat.reduceAdd, Nat.reduceSub, Array.replicate_succ, Array.replicate_zero, List.push_toArray, List.append_toArray, List.nil_append, List.cons_append]
  gi_wp2_with (refine ⟨trivial, ?_⟩; gi_at_call 19; refine (callsIn_wide.2 (above_calls _ _ _ _ _)).mono ?_; rintro e w' ⟨rfl, rfl⟩)
  obtain ⟨w2, hw2⟩ : ∃ w2, (((w.alloc (.cells #[.slice none 0 0] 22)).alloc (.cells #[.pointer (some ⟨b, 0, none⟩)] 23)).alloc (.cells #[.slice ao m c] 22)).alloc (.cells #[.func (.func 20) #[] #[.pointer (some ⟨w.heap.size + 1 + 1, 0, none⟩)]] 25) = w2 := ⟨_, rfl⟩
  have hBw : Below w.heap.size w w2 := by rw [← hw2]; exact ((((Below.refl _ w).alloc (Nat.le_refl _) _).alloc (by simp) _).alloc (by simp; omega) _).alloc (by simp; omega) _
  have hz : w2.heap.size = w.heap.size + 4 := by rw [← hw2]; simp
  have bO : Boxed w2 w.heap.size 22 (.slice none 0 0) := by rw [← hw2]; exact (((Boxed.new w _ _).alloc _).alloc _).alloc _
  have hB1 : w2.cell? ⟨w.heap.size + 1, 0, none⟩ = some (.pointer (some ⟨b, 0, none⟩)) := by
    rw [← hw2]
    have h := Boxed.new (w.alloc (.cells #[.slice none 0 0] 22)) 23 (.pointer (some ⟨b, 0, none⟩))
    rw [World.size_alloc] at h
    exact ((h.alloc _).alloc _).cell
  have hB2 : w2.cell? ⟨w.heap.size + 1 + 1, 0, none⟩ = some (.slice ao m c) := by
    rw [← hw2]
    have h := Boxed.new ((w.alloc (.cells #[.slice none 0 0] 22)).alloc (.cells #[.pointer (some ⟨b, 0, none⟩)] 23)) 22 (.slice ao m c)
    simp only [World.size_alloc] at h
    exact (h.alloc _).cell
  have hB3 : w2.cell? ⟨w.heap.size + 1 + 2, 0, none⟩ = some (.func (.func 20) #[] #[.pointer (some ⟨w.heap.size + 1 + 1, 0, none⟩)]) := by
    rw [← hw2]
    have h := Boxed.new (((w.alloc (.cells #[.slice none 0 0] 22)).alloc (.cells #[.pointer (some ⟨b, 0, none⟩)] 23)).alloc (.cells #[.slice ao m c] 22)) 25 (.func (.func 20) #[] #[.pointer (some ⟨w.heap.size + 1 + 1, 0, none⟩)])
    simp only [World.size_alloc] at h
    exact h.cell
  have hb : b < w.heap.size := hT.lt
  have ha : a < w.heap.size := hC.lt
  have hT2 := hT.below hBw hb
  have hC2 := hC.below hBw ha
  have hR2 : Rds w2 1 (.slice ao m c) was.length (was.map (Value.int .i64)) := hR.later hBw
  rw [hw2]
  clear hw2
  refine wpIn_rangeFunc_ownG hro (by omega) (gf := 21) (lb := #[.pointer (some ⟨w.heap.size + 1, 0, none⟩), .pointer (some ⟨w.heap.size + 1 + 2, 0, none⟩)]) rfl trivial (enters_of Try.func21 (by kernel_rfl) rfl)
    (above2_stops 19 (w.heap.size + 1) w2.heap.size w.heap.size b a (by omega) (.slice ao m c) cs was hlen hcs w2 (by omega) (by omega) (by omega) (by omega) (fun hne k hk => by have := hR.lt hne k hk; omega) (Nat.le_refl _) hB1 hB2 hB3 hT2 hC2 hR2)
    KeptX.trans (KeptX.putObj (Nat.le_refl _)) (Below.refl _ _) (fun _ => rfl)
    (fun (pre : List Int) W => (∃ v, Boxed W w.heap.size 22 v ∧ W.ownsRow w2.heap.size 3 1 v pre.length (pre.map (Value.int .i64)) ∧ True) ∧ Below w.heap.size w2 W)
    (fun _ _ _ => False)
    (OwnFrom.and (Own.from (holdsRow_own w2.heap.size w.heap.size 22 3 1 (fun pre : List Int => pre.length) (fun pre : List Int => pre.map (Value.int .i64)) (fun _ _ => True)) _) (ownFrom_below (by omega) (by omega)))
    (fun _ _ _ _ _ hs _ _ => hs)
    ⟨⟨_, bO, World.ownsRow_nil _ _ _ _, trivial⟩, Below.refl _ _⟩
    ?a₁ ?assign ?body ?done ?stop
  case assign =>
    intro l x W K hK
    gi_wp2
    exact hK
  case body =>
    rintro l pre x W ⟨⟨v, hv, hrow, _⟩, hB⟩ hlt
    have hc := hv.cell
    have hws := hB.size
    gi_wp2_with (gi_at_builtin; refine wpListIn_append_own _ rfl _ _ 22 rfl w2.heap.size 3 i0 (.int .i64 0) 1 8 Try.underlying22 hi hz0 hz1 hz2 rfl (by decide) _ _ _ rfl (hrow.alloc _) ⟨W.heap.size, 0, none⟩ 1 1 [.int .i64 x] rfl rfl (cell_one_new _ _ _) (by simp [Value.oneCell']) (by unfold maxLen; omega) (by omega) (by simp; omega) ?_; intro v' w1 hown' hgrow _; obtain ⟨g', cap', rfl⟩ := ownsRow_succ hown'; obtain ⟨hv1, hv2, hr2, hk2, hx2, hb2⟩ := appendedX hv (by decide) hrow hws hown' hgrow; have hc1 := hv1.cell; have hf1 := hv1.frozen)
    exact ⟨hk2.from _, hx2, ⟨_, hv2, by simpa using hr2, trivial⟩, hB.trans (hb2 _ (Nat.le_refl _) (by omega))⟩
  case done =>
    rintro D ys W hD rfl ⟨⟨v, hv, hrow, _⟩, hB⟩ hK
    have hc := hv.cell
    gi_wp2
    refine ⟨by simp, .inl ⟨_, _, rfl, run_takeDeferred hK, ?_⟩⟩
    refine ⟨_, results_tmp rfl _ _ _, v, rfl, ?_, (hBw.trans hB).trans (belowK_b (w := w) (Nat.le_refl _) W D _ _ (by omega) hK rfl rfl)⟩
    have h1 := ownsRow_putObj hrow (.deferred none) hK rfl
    rw [upto_length] at h1
    exact ownsRow_mono h1 (by omega)
  case stop =>
    rintro D c pre W _ _ h _
    exact h.elim

end Go.Proofs.Ytndccejgljknkaa
