/- package sketch: Mark. -/
import Derived.Test.YtfdkncabicmmiaaSkH
namespace Go.Proofs.Ytfdkncabicmmiaa
open Go.RowKit Go.Shelf
attribute [local go_sem] Oper.semAt_some

def mk1 (D : Nat → Nat) (p ls : Nat) : Nat → Nat := if D p = ls ∧ D p < 15 then updC D p (D p + 1) else D
def mkL (m : Nat) (C : Nat → Nat) (q : BitVec 64) (ls : Nat) (pre : List (Fin 4)) : Nat → Nat := pre.foldl (fun D i => mk1 D (plC m q i) ls) C
theorem mkL_snoc (m : Nat) (C : Nat → Nat) (q : BitVec 64) (ls : Nat) (pre : List (Fin 4)) (x : Fin 4) : mkL m C q ls (pre ++ [x]) = mk1 (mkL m C q ls pre) (plC m q x) ls := by
  simp [mkL, List.foldl_append]
def markC (m : Nat) (C : Nat → Nat) (q : BitVec 64) : Nat → Nat := mkL m C q (gs m C q) (first4 4)
def markA (m age : Nat) : Nat := if age + 1 = 10 * m then 0 else age + 1
def markD (m age : Nat) (C : Nat → Nat) (q : BitVec 64) : Nat → Nat := if age + 1 = 10 * m then halfC (markC m C q) else markC m C q

def RowsAt (g : Nat → Nat) (k : Nat) : Prop := ∃ i, i < 4 ∧ k = g i
theorem ownFrom_touch {β : Type} {S : Nat → Prop} {B : Nat} {w₀ : World} (hB : w₀.heap.size ≤ B) : OwnFrom B (fun (_ : β) W => Touch S w₀ W) := fun _ W W' row hs hg hr =>
  hs.step (S' := fun k => row = some k) (Touch.of hg (fun k h => h)) (fun j h => .inr (by have := (hr j h).1; omega))
theorem ownFrom_sk {β : Type} {n B m age : Nat} {g : Nat → Nat} {C : β → Nat → Nat} : OwnFrom n (fun (s : β) W => SK W B g m age (C s)) := fun _ W W' row hs hg hr => by
  have hne : ∀ {b e vs}, Blk W b e vs → row ≠ some b := fun {b e vs} hb e' => by
    obtain ⟨_, o, ho, hc⟩ := hr b e'
    rw [show W.heap[b]? = _ from hb] at ho
    cases ho
    cases hc
  exact ⟨hs.blk.grown hg (hne hs.blk).symm, fun i hi => (hs.row i hi).grown hg (hne (hs.row i hi)).symm, hs.ne, hs.inj, hs.le, hs.pow, hs.ag⟩
theorem SK.putObj {w : World} {B : Nat} {g : Nat → Nat} {m age : Nat} {C : Nat → Nat} (h : SK w B g m age C) (D : Nat) (hD : w.heap[D]? = some (.deferred (some []))) (o : Obj) : SK (w.putObj D o) B g m age C := by
  have hne : ∀ {b e vs}, Blk w b e vs → b ≠ D := fun {b e vs} hb e' => by
    subst e'
    rw [show w.heap[b]? = _ from hb] at hD
    cases hD
  exact ⟨h.blk.same (World.putObj_heap_other (hne h.blk)), fun i hi => (h.row i hi).same (World.putObj_heap_other (hne (h.row i hi))), h.ne, h.inj, h.le, h.pow, h.ag⟩
theorem Touch.putObj {S : Nat → Prop} {w w' : World} (h : Touch S w w') (D : Nat) (hD : w.heap.size ≤ D) (o : Obj) : Touch S w (w'.putObj D o) :=
  h.step (S' := fun k => k = D) (Touch.of (grownBy_putObj' w' D o) (fun k e => by cases e; rfl)) (fun j e => .inr (by omega))

set_option maxRecDepth 100000 in
set_option maxHeartbeats 4000000 in
theorem mark_any (B : Nat) (g : Nat → Nat) (m age : Nat) (C : Nat → Nat) (q : BitVec 64) (w : World) (hs : SK w B g m age C) (hag : age < 10 * m) :
    Calls Try.prog 9 #[.pointer (some ⟨B, 0, none⟩), .int .u64 (U q)] w fun e W' => e = .returned (.int .i64 (gs m (markD m age C q) q : Nat)) ∧ SK W' B g m (markA m age) (markD m age C q) ∧ Touch (KOwn B g) w W' := by
  have HP := Lib.hid hs.pow
  have HS := Lib.hid hs
  have HBL : Hid (B < w.heap.size) := Lib.hid hs.lt.1
  have HGL : Hid (∀ i, i < 4 → g i < w.heap.size) := Lib.hid hs.lt.2
  have HNE := Lib.hid hs.ne
  have HLE := Lib.hid (gs_le m C q)
  have HV : Hid (IntKind.u8.wrap (gs m C q : Int) = (gs m C q : Int)) := Lib.hid (IntWalk.u8_in _ ⟨by have := HLE.out; omega, by have := HLE.out; omega⟩)
  have HGS := Lib.hid (guess_any B g m age C q w hs)
  have HAG := Lib.hid hag
  clear hs hag
  have hro : Fence.wide.round = none := rfl
  refine (callsIn_wide (n := 20)).1 ?_
  refine callsIn_of_wp_marks Try.func9 rfl trivial ?_ hro
  simp only [Try.ntmps9, List.size_toArray, List.length_cons, List.length_nil, Nat.reduceAdd, Nat.reduceSub, Array.replicate_succ, Array.replicate_zero, List.push_toArray, List.append_toArray, List.nil_append, List.cons_append]
  gi_wp2_with (refine ⟨trivial, ?_⟩; gi_at_call 10; refine (callsIn_wide.2 HGS.out).mono ?_; rintro e w1 ⟨rfl, hg1⟩; have hv := HV.out)
  clear hv HV HGS
  refine ⟨trivial, ?_⟩
  refine (callsIn_wide.2 (places_calls _ _ _)).mono ?_
  rintro e w' ⟨rfl, rfl⟩
  gi_wp2_with fail
  obtain ⟨ls, hls⟩ : ∃ ls, gs m C q = ls := ⟨_, rfl⟩
  have HLS := Lib.hid hls
  rw [hls]
  rw [hls] at HLE
  obtain ⟨w2, hw2⟩ : ∃ w2, (((w1.alloc (.cells #[.int .u8 (ls : Int)] 5)).alloc (.cells #[.pointer (some ⟨B, 0, none⟩)] 23)).alloc (.cells #[.int .u64 (U q)] 26)) = w2 := ⟨_, rfl⟩
  have hBw : Below w1.heap.size w1 w2 := by rw [← hw2]; exact (((Below.refl _ w1).alloc (Nat.le_refl _) _).alloc (by simp) _).alloc (by simp; omega) _
  have hz : w2.heap.size = w1.heap.size + 3 := by rw [← hw2]; simp
  have bO : Boxed w2 w1.heap.size 5 (u8V ls) := by rw [← hw2]; exact ((Boxed.new w1 _ _).alloc _).alloc _
  have hc1 : w2.cell? ⟨w1.heap.size + 1, 0, none⟩ = some (.pointer (some ⟨B, 0, none⟩)) := by
    rw [← hw2]
    have h9 := (Boxed.new (w1.alloc (.cells #[.int .u8 (ls : Int)] 5)) 23 (.pointer (some ⟨B, 0, none⟩))).alloc (.cells #[.int .u64 (U q)] 26)
    rw [World.size_alloc] at h9
    exact h9.cell
  have hc2 : w2.cell? ⟨w1.heap.size + 2, 0, none⟩ = some (.int .u64 (U q)) := by
    rw [← hw2]
    have h9 := Boxed.new ((w1.alloc (.cells #[.int .u8 (ls : Int)] 5)).alloc (.cells #[.pointer (some ⟨B, 0, none⟩)] 23)) 26 (.int .u64 (U q))
    simp only [World.size_alloc] at h9
    exact h9.cell
  rw [hw2]
  clear hw2 hls
  have hg2 : w.grownBy w2 none := grownBy_trans hg1 (grownBy_below hBw)
  have HS2 := Lib.hid (HS.out.grown hg2)
  have hsz : w.heap.size ≤ w1.heap.size := hg1.size
  have HG2 := Lib.hid hg2
  have hBlt := HBL.out
  have hGlt := HGL.out
  have hnr : ∀ k, w.heap.size ≤ k → ¬ RowsAt g k := fun k hk ⟨i, hi, e⟩ => by have := hGlt i hi; omega
  have hnB : ¬ RowsAt g B := fun ⟨i, hi, e⟩ => HNE.out i hi e.symm
  clear hg1 hg2
  refine wpIn_rangeFunc_ownG hro (by omega) (gf := 39) (lb := #[.pointer (some ⟨w1.heap.size + 2, 0, none⟩), .pointer (some ⟨w1.heap.size + 1, 0, none⟩)]) rfl trivial (enters_of Try.func39 (by kernel_rfl) rfl)
    (places1_stops 19 (w1.heap.size + 1) (w1.heap.size + 2) w2.heap.size B m age (RowsAt g) g q (by omega) HP.out w2 ⟨by omega, hnr _ (by omega)⟩ ⟨by omega, hnr _ (by omega)⟩ ⟨by omega, hnB⟩ (Nat.le_refl _) hc1 hc2 HS2.out.blk)
    KeptS.trans (KeptS.putObj (Nat.le_refl _)) (Below.refl _ _) (fun _ => rfl)
    (fun (pre : List (Fin 4)) W => SK W B g m age (mkL m C q ls pre) ∧ (Boxed W w1.heap.size 5 (u8V ls) ∧ Touch (RowsAt g) w2 W))
    (fun _ _ _ => False)
    (OwnFrom.and ownFrom_sk (OwnFrom.and (Own.from (boxed_own _ _ _) _) (ownFrom_touch (Nat.le_refl _))))
    (fun _ _ _ _ _ hs _ _ => hs)
    ⟨HS2.out, bO, Touch.refl _ _⟩
    ?a₁ ?assign ?body ?done ?stop
  case assign =>
    intro l x W K hK
    gi_wp2
    exact hK
  case body =>
    rintro l pre x W ⟨hS, hv, hT⟩ hlt
    have hc := hv.cell
    have hx := hS.at q x
    have hxf := (hS.row x x.isLt).frozen (plN m q x)
    have hle := hS.le (plC m q x)
    have hpl : plN m q x < m := plN_lt (by have := pow2_le HP.out; omega) q x
    have HSx := Lib.hid hS
    have HTx := Lib.hid hT
    have HVx := Lib.hid hv
    clear hS hT hv
    have hmk := mkL_snoc m C q ls pre x
    have hxs := x.isLt
    generalize hD : mkL m C q ls pre = D at *
    clear hD
    obtain ⟨cx, hcx⟩ : ∃ cx, D (plC m q x) = cx := ⟨_, rfl⟩
    have HCX := Lib.hid hcx
    rw [hcx] at hx hle
    unfold u8V at hx hc
    have HLEc := Lib.hid hle
    have HMK := Lib.hid hmk
    have HPL := Lib.hid hpl
    clear hcx hle hmk hpl
    gi_wp2
    dsimp only [plV]
    by_cases hcl : cx = ls
    · have q1 : ((cx : Int) == (ls : Int)) = true := beq_iff_eq.2 (by omega)
      by_cases h15 : cx < 15
      · have q2 : decide ((cx : Int) < 15) = true := decide_eq_true (by omega)
        refine wpIn_region_planR (fun w' => w'.cell? ⟨w1.heap.size, 0, none⟩ = some (.int .u8 (ls : Int)) ∧ w'.cell? ⟨g x, plN m q x, none⟩ = some (.int .u8 (cx : Int))) [([0, 1, 2, 3, 4, 5, 6, 7, 8, 9], 10, false)] hro (by kernel_rfl) (by kernel_rfl) ?_
        refine wpPlanDIn_seg ⟨hc, hx⟩ ?_
        repeat ((first | (apply wpReadDIn_step rfl (fun _ => rfl) (by rfl); (· intro wS hSw; (try have hSw := hSw rfl); (try dsimp only at hSw); (try obtain ⟨k0, k1⟩ := hSw); go_simp; (try with_reducible rfl))) | (apply wpReadDIn_skip rfl (fun _ => rfl) (by rfl))); (try simp only [Act.put, List.setIfInBounds_toArray, List.set_cons_zero, List.set_cons_succ]))
        refine wpReadDIn_nil ?_
        refine wpOpIn_list rfl (fun K hK => ?_)
        go_simp
        refine hK _ _ ⟨fun hf => (by cases hf), ?_⟩
        clear hK K
        refine wpPlanDIn_nil (NoPanic.normal ?_)
        gi_wp2
        have hp1 : mk1 D (plC m q x) ls = updC D (plC m q x) (ls + 1) := by
          unfold mk1
          rw [HCX.out, if_pos ⟨hcl, h15⟩, hcl]
        have g5 : W.grownBy (W.setCell ⟨g x, plN m q x, none⟩ (.int .u8 ((ls : Int) + 1))).drew (some (g x)) := grownBy_trans (grownBy_setCell W ⟨g x, plN m q x, none⟩ _) (grownBy_drewN _ 1 _)
        have hs5 : SK (W.setCell ⟨g x, plN m q x, none⟩ (.int .u8 ((ls : Int) + 1))).drew B g m age (mk1 D (plC m q x) ls) := by
          rw [hp1]
          exact (HSx.out.put x (plN m q x) (ls + 1) hxs HPL.out (by omega)).grown (grownBy_drewN _ 1 none)
        have hgx := hGlt x hxs
        refine ⟨KeepsFrom.of_grownBy g5 (fun j e => by cases e; omega), ⟨g5.size, fun k hk hne => g5.block k (by have := HTx.out.size; omega) (fun e => hne ⟨x, hxs, by simpa using e⟩)⟩, by rw [HMK.out]; exact hs5, ?_, HTx.out.trans (Touch.of g5 (fun k e => ⟨x, hxs, by cases e; rfl⟩))⟩
        exact HVx.out.kept g5 (fun e => by have := Option.some.inj e; omega)
      · have q2 : decide ((cx : Int) < 15) = false := decide_eq_false (by omega)
        refine wpIn_region_planR (fun w' => w'.cell? ⟨w1.heap.size, 0, none⟩ = some (.int .u8 (ls : Int)) ∧ w'.cell? ⟨g x, plN m q x, none⟩ = some (.int .u8 (cx : Int))) [([0, 1, 2, 3, 4, 5, 6, 7, 8, 9], 10, false)] hro (by kernel_rfl) (by kernel_rfl) ?_
        refine wpPlanDIn_seg ⟨hc, hx⟩ ?_
        repeat ((first | (apply wpReadDIn_step rfl (fun _ => rfl) (by rfl); (· intro wS hSw; (try have hSw := hSw rfl); (try dsimp only at hSw); (try obtain ⟨k0, k1⟩ := hSw); go_simp; (try with_reducible rfl))) | (apply wpReadDIn_skip rfl (fun _ => rfl) (by rfl))); (try simp only [Act.put, List.setIfInBounds_toArray, List.set_cons_zero, List.set_cons_succ]))
        refine wpReadDIn_nil ?_
        refine wpOpIn_list rfl (fun K hK => ?_)
        go_simp
        refine hK _ _ ⟨fun hf => (by cases hf), ?_⟩
        clear hK K
        refine wpPlanDIn_nil (NoPanic.normal ?_)
        gi_wp2
        have hp1 : mk1 D (plC m q x) ls = D := by
          unfold mk1
          rw [HCX.out, if_neg (fun h => by omega)]
        have g5 : W.grownBy W.drew none := grownBy_drewN _ 1 _
        refine ⟨KeepsFrom.of_grownBy g5 (fun j e => by cases e), ⟨g5.size, fun k hk hne => rfl⟩, by rw [HMK.out, hp1]; exact HSx.out.grown g5, HVx.out, HTx.out.trans (Touch.of_none g5)⟩
    · have q1 : ((cx : Int) == (ls : Int)) = false := beq_eq_false_iff_ne.2 (by omega)
      refine wpIn_region_planR (fun w' => w'.cell? ⟨w1.heap.size, 0, none⟩ = some (.int .u8 (ls : Int)) ∧ w'.cell? ⟨g x, plN m q x, none⟩ = some (.int .u8 (cx : Int))) [([0, 1, 2, 3, 4, 5, 6, 7, 8, 9], 10, false)] hro (by kernel_rfl) (by kernel_rfl) ?_
      refine wpPlanDIn_seg ⟨hc, hx⟩ ?_
      repeat ((first | (apply wpReadDIn_step rfl (fun _ => rfl) (by rfl); (· intro wS hSw; (try have hSw := hSw rfl); (try dsimp only at hSw); (try obtain ⟨k0, k1⟩ := hSw); go_simp; (try with_reducible rfl))) | (apply wpReadDIn_skip rfl (fun _ => rfl) (by rfl))); (try simp only [Act.put, List.setIfInBounds_toArray, List.set_cons_zero, List.set_cons_succ]))
      refine wpReadDIn_nil ?_
      refine wpOpIn_list rfl (fun K hK => ?_)
      go_simp
      refine hK _ _ ⟨fun hf => (by cases hf), ?_⟩
      clear hK K
      refine wpPlanDIn_nil (NoPanic.normal ?_)
      gi_wp2
      have hp1 : mk1 D (plC m q x) ls = D := by
        unfold mk1
        rw [HCX.out, if_neg (fun h => by omega)]
      have g5 : W.grownBy W.drew none := grownBy_drewN _ 1 _
      refine ⟨KeepsFrom.of_grownBy g5 (fun j e => by cases e), ⟨g5.size, fun k hk hne => rfl⟩, by rw [HMK.out, hp1]; exact HSx.out.grown g5, HVx.out, HTx.out.trans (Touch.of_none g5)⟩
  case done =>
    rintro D ys W hD rfl ⟨hS, hv, hT⟩ hK
    have hmC : mkL m C q ls (first4 4) = markC m C q := by unfold markC; rw [HLS.out]
    rw [hmC] at hS
    have c0 := hS.blk.cell (j := 0) rfl
    have c1 := hS.blk.cell (j := 1) rfl
    have f1 := hS.blk.frozen 1
    have hm2 := (pow2_le HP.out).2
    have ha1 := HAG.out
    have hT0 : Touch (KOwn B g) w W := (Touch.of_none HG2.out).trans (hT.mono (fun j ⟨i, hi, e⟩ => .inr ⟨i, hi, e⟩))
    have hsW := hT.size
    have g1 := grownBy_setCell W ⟨B, 1, none⟩ (.int .i64 (age + 1 : Nat))
    have HS3 := Lib.hid (hS.aged (age + 1) (by omega))
    have HT3 := Lib.hid (hT0.trans (Touch.of g1 (fun j e => .inl (by cases e; rfl))))
    have HK3 : Hid ((W.setCell ⟨B, 1, none⟩ (.int .i64 (age + 1 : Nat))).heap[D]? = some (.deferred (some []))) := Lib.hid ((Below.heap_setCell _ _ _ _ (by show D ≠ B; omega)).trans hK)
    have hz3 : (W.setCell ⟨B, 1, none⟩ (.int .i64 (age + 1 : Nat))).heap.size = W.heap.size := by simp [World.setCell]
    rw [show ((age + 1 : Nat) : Int) = (age : Int) + 1 by omega] at HS3 HT3 HK3 hz3
    have HDw : Hid (w.heap.size ≤ D) := Lib.hid (by omega)
    clear hmC hS hv hT hK hT0 g1 hnr hnB
    have HCg := Lib.hid (fun (a : Nat) (C' : Nat → Nat) (W' : World) (hs' : SK W' B g m a C') => guess_any B g m a C' q W' hs')
    have hfin : ∀ (a : Nat) (C' : Nat → Nat) (W' : World), SK W' B g m a C' → Touch (KOwn B g) w W' → W'.heap[D]? = some (.deferred (some [])) → SK (W'.putObj D (.deferred none)) B g m a C' ∧ Touch (KOwn B g) w (W'.putObj D (.deferred none)) :=
      fun a C' W' h1 h2 h3 => ⟨h1.putObj D h3 _, h2.putObj D HDw.out _⟩
    have HFIN := Lib.hid hfin
    clear hfin
    gi_wp2
    obtain ⟨W3, hW3⟩ : ∃ W3, W.setCell ⟨B, 1, none⟩ (.int .i64 ((age : Int) + 1)) = W3 := ⟨_, rfl⟩
    rw [hW3] at HS3 HT3 HK3 hz3 ⊢
    have d0 := HS3.out.blk.cell (j := 0) rfl
    have d1 := HS3.out.blk.cell (j := 1) rfl
    rw [show ((age + 1 : Nat) : Int) = (age : Int) + 1 by omega] at d1
    clear hW3 c0 c1 f1
    refine wpIn_region_planD (fun w' => w'.cell? ⟨B, 0, none⟩ = some (.int .i64 (m : Int)) ∧ w'.cell? ⟨B, 1, none⟩ = some (.int .i64 ((age : Int) + 1))) [([0, 1, 2, 3, 4, 5, 6, 7, 8], 9, false)] hro (by kernel_rfl) (by kernel_rfl) ?_
    refine wpPlanDIn_seg ⟨d0, d1⟩ ?_
    have q10 : IntKind.i64.wrap (10 * (m : Int)) = 10 * (m : Int) := IntWalk.i64_in _ ⟨by omega, by omega⟩
    repeat ((first | (apply wpReadDIn_step rfl (fun _ => rfl) (by rfl); (· intro wS hSw; (try have hSw := hSw rfl); (try dsimp only at hSw); (try obtain ⟨k0, k1⟩ := hSw); go_simp; (try with_reducible rfl))) | (apply wpReadDIn_skip rfl (fun _ => rfl) (by rfl))); (try simp only [Act.put, List.setIfInBounds_toArray, List.set_cons_zero, List.set_cons_succ]))
    refine wpReadDIn_nil ?_
    refine wpOpIn_list rfl (fun K hK => ?_)
    by_cases hfull : age + 1 = 10 * m
    · have q1 : ((age : Int) + 1 == 10 * (m : Int)) = true := beq_iff_eq.2 (by omega)
      go_simp
      refine hK _ _ ⟨fun hf => (by cases hf), ?_⟩
      clear hK K
      refine wpPlanDIn_nil (NoPanic.normal ?_)
      clear d0 d1 q10 q1
      have HS4 : Hid (SK W3.drew B g m (age + 1) (markC m C q)) := Lib.hid (HS3.out.grown (grownBy_drewN W3 1 none))
      have HT4 : Hid (Touch (KOwn B g) w W3.drew) := Lib.hid (HT3.out.step (Touch.of_none (S := KOwn B g) (grownBy_drewN W3 1 none)) (fun j h => .inl h))
      have HK4 : Hid (W3.drew.heap[D]? = some (.deferred (some []))) := Lib.hid HK3.out
      have HF := Lib.hid hfull
      clear hfull HS3 HT3 HK3 hz3
      generalize W3.drew = W4 at *
      gi_wp2_with (refine ⟨trivial, ?_⟩; gi_at_call 13; refine (callsIn_wide.2 (halve_any B g m (age + 1) (markC m C q) _ HS4.out)).mono ?_; rintro e W5 ⟨⟨v5, rfl⟩, hs5, ht5⟩; have HS5 := Lib.hid hs5; have HT5 := Lib.hid ht5; clear hs5 ht5)
      refine ⟨trivial, ?_⟩
      refine (callsIn_wide.2 (HCg.out _ _ _ HS5.out)).mono ?_
      rintro e W6 ⟨rfl, g6⟩
      gi_wp2_with fail
      have HDW4 : D < W4.heap.size := (Array.getElem?_eq_some_iff.1 HK4.out).1
      have hKD : ¬ KOwn B g D := by
        rintro (e | ⟨i, hi, e⟩)
        · have := HBL.out; have := HDw.out; omega
        · have := HGL.out i hi; have := HDw.out; omega
      have hK6 : W6.heap[D]? = some (.deferred (some [])) := by
        rw [g6.block D (Nat.lt_of_lt_of_le HDW4 HT5.out.size) (by simp), HT5.out.block D HDW4 hKD]
        exact HK4.out
      obtain ⟨hs7, ht7⟩ := HFIN.out 0 _ W6 (HS5.out.grown g6) ((HT4.out.trans HT5.out).trans (Touch.of_none g6)) hK6
      refine ⟨by simp, .inl ⟨_, _, rfl, run_takeDeferred hK6, ?_⟩⟩
      refine ⟨_, results_tmp rfl _ _ _, ?_⟩
      rw [show markD m age C q = halfC (markC m C q) from if_pos HF.out, show markA m age = 0 from if_pos HF.out]
      exact ⟨rfl, hs7, ht7⟩
    · have q1 : ((age : Int) + 1 == 10 * (m : Int)) = false := beq_eq_false_iff_ne.2 (by omega)
      go_simp
      refine hK _ _ ⟨fun hf => (by cases hf), ?_⟩
      clear hK K
      refine wpPlanDIn_nil (NoPanic.normal ?_)
      clear d0 d1 q10 q1
      have HS4 : Hid (SK W3.drew B g m (age + 1) (markC m C q)) := Lib.hid (HS3.out.grown (grownBy_drewN W3 1 none))
      have HT4 : Hid (Touch (KOwn B g) w W3.drew) := Lib.hid (HT3.out.step (Touch.of_none (S := KOwn B g) (grownBy_drewN W3 1 none)) (fun j h => .inl h))
      have HK4 : Hid (W3.drew.heap[D]? = some (.deferred (some []))) := Lib.hid HK3.out
      have HF := Lib.hid hfull
      clear hfull HS3 HT3 HK3 hz3
      generalize W3.drew = W4 at *
      gi_wp2_with fail
      refine ⟨trivial, ?_⟩
      refine (callsIn_wide.2 (HCg.out _ _ _ HS4.out)).mono ?_
      rintro e W6 ⟨rfl, g6⟩
      gi_wp2_with fail
      have HDW4 : D < W4.heap.size := (Array.getElem?_eq_some_iff.1 HK4.out).1
      have hK6 : W6.heap[D]? = some (.deferred (some [])) := (g6.block D HDW4 (by simp)).trans HK4.out
      obtain ⟨hs7, ht7⟩ := HFIN.out _ _ W6 (HS4.out.grown g6) (HT4.out.trans (Touch.of_none g6)) hK6
      refine ⟨by simp, .inl ⟨_, _, rfl, run_takeDeferred hK6, ?_⟩⟩
      refine ⟨_, results_tmp rfl _ _ _, ?_⟩
      rw [show markD m age C q = markC m C q from if_neg HF.out, show markA m age = age + 1 from if_neg HF.out]
      exact ⟨rfl, hs7, ht7⟩
  case stop =>
    rintro D c pre W _ _ hf _
    exact hf.elim

end Go.Proofs.Ytfdkncabicmmiaa
