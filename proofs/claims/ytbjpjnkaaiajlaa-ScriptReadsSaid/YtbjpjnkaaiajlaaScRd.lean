/- package script: read. -/
import Derived.Test.YtbjpjnkaaiajlaaScRdP
import Derived.Test.YtbjpjnkaaiajlaaPlan3
import Derived.Test.YtbjpjnkaaiajlaaRdAt
namespace Go.Proofs.Ytbjpjnkaaiajlaa
open Go.RowKit

/-- A reader in the midst of a call. -/
structure RS (w : World) (R : Nat) (v0 : Value) (ys : List Nat) (W : World) (v : Value) (p : PS) : Prop where
  rr : RR W R v p.1 p.2
  own : ∀ b, v.ownBlock = some b → v0.ownBlock = some b
  ne : p.1 ≠ [] → ys ≠ []
  grown : w.grownBy W (some R)
theorem left_ne {xs : List Nat} {n : Int} (h : leftN xs n ≠ []) : xs ≠ [] := by
  intro e
  apply h
  rw [e]
  unfold leftN
  split
  · rfl
  · exact List.drop_nil
section
variable {w W : World} {R : Nat} {v0 v : Value} {ys : List Nat} {p : PS}
theorem RS.later {W' : World} (h : RS w R v0 ys W v p) (hg : W.grownBy W' none) : RS w R v0 ys W' v p := ⟨h.rr.grown hg, h.own, h.ne, grownBy_trans h.grown (grownBy_none hg _)⟩
theorem RS.put {W' : World} (h : RS w R v0 ys W v p) (X : Nat) (hg : W.grownBy W' (some X)) (hX : w.heap.size ≤ X) (hR : R < w.heap.size) (hv : ys ≠ [] → ∀ b, v0.ownBlock = some b → b < w.heap.size) : RS w R v0 ys W' v p :=
  ⟨h.rr.touch' (S := fun j => j = X) (Touch.of hg (fun k e => by cases e; rfl)) (by omega) (fun hne b hb e => by have := hv (h.ne hne) b (h.own b hb); omega), h.own, h.ne, grown_new h.grown hg hX⟩
theorem RS.putO {W' : World} {u : Value} (h : RS w R v0 ys W v p) (hg : W.grownBy W' u.ownBlock) (hu : ∀ b, u.ownBlock = some b → w.heap.size ≤ b) (hR : R < w.heap.size) (hv : ys ≠ [] → ∀ b, v0.ownBlock = some b → b < w.heap.size) : RS w R v0 ys W' v p := by
  rcases hb : u.ownBlock with _ | b
  · rw [hb] at hg
    exact h.later hg
  · rw [hb] at hg
    exact h.put b hg (hu b hb) hR hv
theorem RS.num (h : RS w R v0 ys W v p) (k : Nat) (hk : mayB k = true) : Calls Try.prog 30 #[.pointer (some ⟨R, 0, none⟩), .int .i64 k] W fun e W' => ∃ v', e = .returned (.int .u64 ((nP k p).1 : Int)) ∧ RS w R v0 ys W' v' (nP k p).2 ∧ W.grownBy W' (some R) := by
  refine (rnum_any R v p.1 p.2 k W h.rr).mono ?_
  rintro e W' ⟨v', rfl, hr, hv, hg⟩
  rw [askN_yes hk] at *
  exact ⟨v', rfl, ⟨hr, fun b hb => h.own b (hv b hb), fun hne => h.ne (left_ne hne), grownBy_trans h.grown hg⟩, hg⟩
theorem RS.text (h : RS w R v0 ys W v p) : Calls Try.prog 45 #[.pointer (some ⟨R, 0, none⟩)] W fun e W' => ∃ a c v', e = .returned (.slice a (tP p).1.length c) ∧ W'.ownsRow W.heap.size 5 1 (.slice a (tP p).1.length c) (tP p).1.length (bytesV (tP p).1) ∧ RS w R v0 ys W' v' (tP p).2 ∧ W.grownBy W' (some R) := by
  refine (rtext_any R v p.1 p.2 W h.rr).mono ?_
  rintro e W' ⟨a, c, v', rfl, ho, hr, hv, hg⟩
  exact ⟨a, c, v', rfl, ho, ⟨hr, fun b hb => h.own b (hv b hb), fun hne => h.ne (left_ne (left_ne hne)), grownBy_trans h.grown hg⟩, hg⟩
end
theorem infoIntR : (Try.prog.info? 3).map (fun i => (i.zero, i.size, i.bytes)) = some (some (.int .i64 0), 1, 8) := infoInt
/-- What is known when read is done. -/
def RdPost (w : World) (R : Nat) (v0 : Value) (p : PS) (e : Ending) (w' : World) : Prop :=
  ∃ (x : SAct) (v' : Value), e = .returned (.agg x.cells.toArray) ∧ x.data = (readA p).1 ∧ x.mine w' ∧ (∀ b, (Value.slice x.ka x.key.length x.kc).ownBlock = some b ∨ (Value.slice x.va x.val.length x.vc).ownBlock = some b ∨ (Value.slice x.na x.ns.length x.nc).ownBlock = some b → w.heap.size ≤ b) ∧ RS w R v0 p.1 w' v' (readA p).2

set_option maxRecDepth 100000 in
set_option maxHeartbeats 16000000 in
theorem read_any (R : Nat) (v : Value) (p : PS) (w : World) (h : RR w R v p.1 p.2) (hv : p.1 ≠ [] → ∀ b, v.ownBlock = some b → b < w.heap.size) :
    Calls Try.prog 43 #[.pointer (some ⟨R, 0, none⟩)] w (RdPost w R v p) := by
  obtain ⟨i1, hi', hz0', hz1', hz2'⟩ := info_parts infoInt
  have HR0 : Hid (RS w R v p.1 w v p) := Lib.hid ⟨h, fun _ h => h, fun h => h, grownBy_refl _ _⟩
  have hR : R < w.heap.size := h.blk.lt
  have hk256 := nP1_lt p h.small
  have HV := Lib.hid hv
  have HPO : Hid (∀ e w', RdPost w R v p e w' → RdPost w R v p e w') := Lib.hid (fun _ _ h => h)
  unfold RdPost at HPO
  have HRA : Hid (readA p = (⟨((nP 1 p).1 : Int), (readF (formX ((nP 1 p).1 : Int)) (nP 1 p).2).key.1, (readF (formX ((nP 1 p).1 : Int)) (nP 1 p).2).val.1, (readF (formX ((nP 1 p).1 : Int)) (nP 1 p).2).num.1, (readF (formX ((nP 1 p).1 : Int)) (nP 1 p).2).ns.1, none, none, none, 0, 0, 0⟩, (readF (formX ((nP 1 p).1 : Int)) (nP 1 p).2).ns.2)) := Lib.hid rfl
  clear h hv
  go_enter Try.func43, Try.ntmps43
  go_wp2_with fail
  obtain ⟨B, hB⟩ : ∃ B, w.heap.size = B := ⟨_, rfl⟩
  have hBn : w.heap.size ≤ B := by omega
  obtain ⟨wz, hwz⟩ : ∃ wz, w.alloc (.cells #[.int .i64 0, .slice none 0 0, .slice none 0 0, .int .i64 0, .slice none 0 0] 35) = wz := ⟨_, rfl⟩
  have hbz : Blk wz B 35 [.int .i64 0, .slice none 0 0, .slice none 0 0, .int .i64 0, .slice none 0 0] := by rw [← hwz, ← hB]; exact Blk.new w _ _
  have HR0 := Lib.hid (HR0.out.later (by rw [← hwz]; exact World.grownBy_alloc w _ none : w.grownBy wz none))
  rw [hB, hwz]
  have HBB := Lib.hid (show B ≠ R by omega)
  have HBN := Lib.hid hBn
  have HBZ := Lib.hid hbz
  clear hB hwz hBn hbz
  refine (HR0.out.num 1 (by decide)).mono ?_
  rintro e w1 ⟨v1, rfl, r1, g1⟩
  obtain ⟨kk, hkk⟩ : ∃ kk, nP 1 p = kk := ⟨_, rfl⟩
  rw [hkk] at r1 hk256 HRA
  rw [hkk]
  clear hkk
  obtain ⟨kn, p1⟩ := kk
  dsimp only at r1 hk256 HRA
  dsimp only
  have hwk : wrap64 (kn : Int) = kn := by unfold wrap64; omega
  have HBZ := Lib.hid (HBZ.out.grown g1 (fun e => HBB.out (by cases e; rfl)))
  go_wp2_with fail
  obtain ⟨k, hk⟩ : ∃ k : Int, (kn : Int) = k := ⟨_, rfl⟩
  rw [hk] at HRA ⊢
  clear hk hwk hk256
  obtain ⟨X, hX⟩ : ∃ X, w1.heap.size = X := ⟨_, rfl⟩
  obtain ⟨w0, hw0⟩ : ∃ w0, w1.alloc (.cells #[.int .i64 k, .slice none 0 0, .slice none 0 0, .int .i64 0, .slice none 0 0] 35) = w0 := ⟨_, rfl⟩
  have hga : w1.grownBy w0 none := by rw [← hw0]; exact World.grownBy_alloc _ _ none
  have hx : Blk w0 X 35 [.int .i64 k, .slice none 0 0, .slice none 0 0, .int .i64 0, .slice none 0 0] := by rw [← hw0, ← hX]; exact Blk.new w1 _ _
  have hXs : w.heap.size ≤ X := by rw [← hX]; exact r1.grown.size
  have hXB : X ≠ B := by have := HBZ.out.lt; omega
  rw [hX, hw0]
  have HBZ := Lib.hid (HBZ.out.grown hga (by simp))
  have HR1 := Lib.hid (r1.later hga)
  have HX := Lib.hid hx
  have HXR := Lib.hid (show X ≠ R by omega)
  have HXB := Lib.hid hXB
  have HXS := Lib.hid hXs
  clear r1 g1 hga hx hXs hXB hX hw0 HR0
  have hlk : ∀ (W : World) (b : Nat), W.heap[b]? = some (formO 10) → (Instr.lookup 66 (.map (some b)) (.int .i64 k) false).run Try.prog W = .ok (formX k).val W := fun W b h => by
    have := run_lookX W b k false h
    rwa [if_neg (by simp)] at this
  have hso := sort_of k
  unfold Form.val at hlk
  obtain ⟨f, hf⟩ : ∃ f, formX k = f := ⟨_, rfl⟩
  rw [hf] at hlk hso HRA
  have HLK := Lib.hid hlk
  have HSO := Lib.hid hso
  have HX0S := Lib.hid HX.out.lt
  have HBLT := Lib.hid HBZ.out.lt
  clear hlk hso hf
  refine wp_region_FG (fun j v => match j with
      | 1 => v = .pointer (some ⟨X, 0, none⟩)
      | 2 => v = .int .i64 k
      | 3 => v = .agg #[.string f.name, .bool f.key, .bool f.value, .bool f.num, .int .i64 (f.nums : Int), .bool f.just]
      | _ => True) (GF w0 f 4 5) [[], [], [1], [0, 1, 2], [], [0, 1, 2, 3, 4]] (by kernel_rfl) (by kernel_rfl) (fun vals => GF.begin) ?xobs ?xend
  case xobs =>
    refine fgObs_cons (fun D vals W hG hD hC => ?_) (fgObs_cons (fun D vals W hG hD hC => ?_) (fgObs_cons (fun D vals W hG hD hC => ?_) (fgObs_cons (fun D vals W hG hD hC => ?_) (fgObs_cons (fun D vals W hG hD hC => ?_) (fgObs_cons (fun D vals W hG hD hC => ?_) (fgObs_nil))))))
    case _ =>
      refine givenV_nil ?_
      (try simp only [Act.put, List.setIfInBounds_toArray, List.set_cons_zero, List.set_cons_succ])
      refine wpOp_list rfl (fun K hK => ?_)
      go_simp
      refine (forms_any W).mono ?_
      rintro e w' ⟨rfl, rfl⟩
      exact hK _ _ ⟨_, rfl, True.intro, hG.forms (by decide) (by decide)⟩
    case _ =>
      have q0 := (HX.out.grown hG.grown (by simp)).cell (j := 0) rfl
      (repeat (refine givenV_step rfl (fun v h hv => ?_); (try dsimp only at h); first | subst h | (clear h; subst hv)))
      refine givenV_nil ?_
      (try simp only [Act.put, List.setIfInBounds_toArray, List.set_cons_zero, List.set_cons_succ])
      refine free_read rfl (by rfl) (v := _) ?_ ⟨rfl, hG.keep 1 _ (by decide) (by decide) (by decide)⟩
      go_simp
      (try with_reducible rfl)
    case _ =>
      have q0 := (HX.out.grown hG.grown (by simp)).cell (j := 0) rfl
      (repeat (refine givenV_step rfl (fun v h hv => ?_); (try dsimp only at h); first | subst h | (clear h; subst hv)))
      refine givenV_nil ?_
      (try simp only [Act.put, List.setIfInBounds_toArray, List.set_cons_zero, List.set_cons_succ])
      refine free_read rfl (by rfl) (v := _) ?_ ⟨rfl, hG.keep 2 _ (by decide) (by decide) (by decide)⟩
      go_simp
      (try with_reducible rfl)
    case _ =>
      have q0 := (HX.out.grown hG.grown (by simp)).cell (j := 0) rfl
      have hdst : D 5 = false := by
        cases hs : D 5
        · rfl
        · rw [(hG.ord hs).2.2] at hD; cases hD
      obtain ⟨mb, hvm, hmb⟩ := hG.map (hC 0 (by simp)) hdst
      have hlk := HLK.out W mb hmb
      (repeat (refine givenV_step rfl (fun v h hv => ?_); (try dsimp only at h); first | subst h | (clear h; subst hv)))
      refine givenV_nil ?_
      (try simp only [Act.put, List.setIfInBounds_toArray, List.set_cons_zero, List.set_cons_succ])
      (try rw [hvm])
      refine free_read rfl (by rfl) (v := _) ?_ ⟨rfl, hG.keep 3 _ (by decide) (by decide) (by decide)⟩
      go_simp
      (try with_reducible rfl)
    case _ =>
      refine givenV_nil ?_
      (try simp only [Act.put, List.setIfInBounds_toArray, List.set_cons_zero, List.set_cons_succ])
      refine wpOp_list rfl (fun K hK => ?_)
      go_simp
      exact hK _ _ ⟨_, rfl, True.intro, hG.fresh (by decide) (by decide) hD⟩
    case _ =>
      have hdal := hC 4 (by simp)
      have hd0 := hC 0 (by simp)
      obtain ⟨fb, hvf, hnf, hbf, _⟩ := hG.var hdal
      have hbf := hbf hD
      have f0 := hbf.frozen 0; have f1 := hbf.frozen 1; have f2 := hbf.frozen 2; have f3 := hbf.frozen 3; have f4 := hbf.frozen 4; have f5 := hbf.frozen 5
      unfold noForm Form.cells at hbf
      have g0 := hbf.cell (j := 0) rfl; have g1 := hbf.cell (j := 1) rfl; have g2 := hbf.cell (j := 2) rfl; have g3 := hbf.cell (j := 3) rfl; have g4 := hbf.cell (j := 4) rfl; have g5 := hbf.cell (j := 5) rfl
      (repeat (refine givenV_step rfl (fun v h hv => ?_); (try dsimp only at h); first | subst h | (clear h; subst hv)))
      refine givenV_nil ?_
      (try simp only [Act.put, List.setIfInBounds_toArray, List.set_cons_zero, List.set_cons_succ])
      (try rw [hvf])
      refine wpOp_list rfl (fun K hK => ?_)
      go_simp
      refine hK _ _ ⟨undef, rfl, True.intro, hG.stored fb hd0 (hC 3 (by simp)) hdal (by decide) (by decide) hvf hnf ?_ ?_⟩
      · exact (((((hbf.setCell 0 _).setCell 1 _).setCell 2 _).setCell 3 _).setCell 4 _).setCell 5 _
      · exact grownBy_trans (grownBy_trans (grownBy_trans (grownBy_trans (grownBy_trans (grownBy_setCell _ _ _) (grownBy_setCell _ _ _)) (grownBy_setCell _ _ _)) (grownBy_setCell _ _ _)) (grownBy_setCell _ _ _)) (grownBy_setCell _ _ _)
  case xend =>
    intro D vals W hG hD
    obtain ⟨fb, hvf, hnf, _, hbf⟩ := hG.var (hD 4 (by decide))
    have hbf := hbf (hD 5 (by decide))
    have hgW := hG.grown
    (repeat (refine givenV_step rfl (fun v h hv => ?_); (try dsimp only at h); first | subst h | (clear h; subst hv)))
    refine givenV_nil ?_
    (try simp only [Act.put, List.setIfInBounds_toArray, List.set_cons_zero, List.set_cons_succ])
    rw [hvf]
    clear hvf hG hD
    have HX := Lib.hid (HX.out.grown hgW (by simp))
    have HBZ := Lib.hid (HBZ.out.grown hgW (by simp))
    have HR1 := Lib.hid (HR1.out.later hgW)
    have HF := Lib.hid hbf
    have HFR : Hid (fb ≠ R) := Lib.hid (by have := HX0S.out; have := HXS.out; omega)
    have hfbx : fb ≠ X ∧ fb ≠ B := by
      have h1 := HX0S.out
      have h2 := HBLT.out
      constructor <;> omega
    have HFX := Lib.hid hfbx
    clear hgW hbf hnf HLK hfbx
    obtain ⟨nm, fk, fv, fn, fns, fj⟩ := f
    unfold Form.cells at HF
    rcases HSO.out with h | h | h | h | h | h <;> obtain ⟨h1, h2, h3, h4, h5⟩ := h <;> dsimp only at h1 h2 h3 h4 h5 <;> subst h1 h2 h3 h4 h5
    · (try dsimp only at HRA)
      have y1 := HF.out.cell (j := 1) rfl
      have y2 := HF.out.cell (j := 2) rfl
      have y3 := HF.out.cell (j := 3) rfl
      have y4 := HF.out.cell (j := 4) rfl
      have y5 := HF.out.cell (j := 5) rfl
      have x0 := HX.out.cell (j := 0) rfl
      have f0 := HX.out.frozen 0
      have x1 := HX.out.cell (j := 1) rfl
      have f1 := HX.out.frozen 1
      have x2 := HX.out.cell (j := 2) rfl
      have f2 := HX.out.frozen 2
      have x3 := HX.out.cell (j := 3) rfl
      have f3 := HX.out.frozen 3
      have x4 := HX.out.cell (j := 4) rfl
      have f4 := HX.out.frozen 4
      go_wp2_with fail
      refine HR1.out.text.mono ?_
      rintro e wc ⟨a1, c1, v2, rfl, oc, rc, gc⟩
      obtain ⟨t1, ht1⟩ : ∃ t, tP p1 = t := ⟨_, rfl⟩
      rw [ht1] at oc rc
      rw [ht1]
      obtain ⟨key, q1⟩ := t1
      dsimp only at oc rc
      dsimp only
      have HT1 := Lib.hid ht1
      have HX := Lib.hid (HX.out.grown gc (fun e => HXR.out (by cases e; rfl)))
      have HBZ := Lib.hid (HBZ.out.grown gc (fun e => HBB.out (by cases e; rfl)))
      have HF := Lib.hid (HF.out.grown gc (fun e => HFR.out (by cases e; rfl)))
      have HSL1 : Hid (SL w wc 5 (.slice a1 key.length c1) key.length (bytesV key)) := Lib.hid (SL.of_owns oc (Nat.le_trans HR1.out.grown.size (Nat.le_refl _)))
      have HR2 := Lib.hid rc
      clear oc rc gc ht1
      clear y1 y2 y3 y4 y5 x0 x1 x2 x3 x4 f0 f1 f2 f3 f4
      have y1 := HF.out.cell (j := 1) rfl
      have y2 := HF.out.cell (j := 2) rfl
      have y3 := HF.out.cell (j := 3) rfl
      have y4 := HF.out.cell (j := 4) rfl
      have y5 := HF.out.cell (j := 5) rfl
      have x0 := HX.out.cell (j := 0) rfl
      have f0 := HX.out.frozen 0
      have x1 := HX.out.cell (j := 1) rfl
      have f1 := HX.out.frozen 1
      have x2 := HX.out.cell (j := 2) rfl
      have f2 := HX.out.frozen 2
      have x3 := HX.out.cell (j := 3) rfl
      have f3 := HX.out.frozen 3
      have x4 := HX.out.cell (j := 4) rfl
      have f4 := HX.out.frozen 4
      go_wp2_with fail
      clear y1 y2 y3 y4 y5 x0 x1 x2 x3 x4 f0 f1 f2 f3 f4
      have hgs := grownBy_setCell wc ⟨X, 1, none⟩ (.slice a1 key.length c1)
      have HSL1 := Lib.hid (HSL1.out.stepX hgs HX.out (by decide))
      have HXn := Lib.hid (HX.out.setCell 1 (.slice a1 key.length c1))
      have HBZ := Lib.hid (HBZ.out.setCell_other (p := ⟨X, 1, none⟩) (by exact HXB.out.symm) (.slice a1 key.length c1))
      have HF := Lib.hid (HF.out.setCell_other (p := ⟨X, 1, none⟩) (by exact HFX.out.1) (.slice a1 key.length c1))
      have HR2 := Lib.hid (HR2.out.put X hgs HXS.out hR HV.out)
      have HX : Hid (Blk (wc.setCell ⟨X, 1, none⟩ (.slice a1 key.length c1)) X 35 [.int .i64 k, .slice a1 key.length c1, .slice none 0 0, .int .i64 0, .slice none 0 0]) := HXn
      obtain ⟨ws1, hws⟩ : ∃ ws, wc.setCell ⟨X, 1, none⟩ (.slice a1 key.length c1) = ws := ⟨_, rfl⟩
      rw [hws] at HX HBZ HF HR2 HSL1 ⊢
      clear HXn hgs hws
      have y1 := HF.out.cell (j := 1) rfl
      have y2 := HF.out.cell (j := 2) rfl
      have y3 := HF.out.cell (j := 3) rfl
      have y4 := HF.out.cell (j := 4) rfl
      have y5 := HF.out.cell (j := 5) rfl
      have x0 := HX.out.cell (j := 0) rfl
      have f0 := HX.out.frozen 0
      have x1 := HX.out.cell (j := 1) rfl
      have f1 := HX.out.frozen 1
      have x2 := HX.out.cell (j := 2) rfl
      have f2 := HX.out.frozen 2
      have x3 := HX.out.cell (j := 3) rfl
      have f3 := HX.out.frozen 3
      have x4 := HX.out.cell (j := 4) rfl
      have f4 := HX.out.frozen 4
      go_wp2_with fail
      go_loopw [43] (fun i wr => ∃ (j : Nat) (v' : Value) (a6 : Option Addr) (c6 : Nat), j ≤ 0 ∧ i = .int .i64 j ∧ RS w R v p.1 wr v' (nsP j q1).2 ∧ wr.ownsRow w.heap.size 3 1 (.slice a6 j c6) j (intsV (nsP j q1).1) ∧ Blk wr X 35 [.int .i64 k, .slice a1 key.length c1, .slice none 0 0, .int .i64 0, .slice a6 j c6] ∧ Blk wr B 35 [.int .i64 0, .slice none 0 0, .slice none 0 0, .int .i64 0, .slice none 0 0] ∧ SL w wr 5 (.slice a1 key.length c1) key.length (bytesV key)) (fun i _ => 0 - (intOf i).toNat)
      case atStart => exact ⟨0, _, none, 0, by omega, rfl, HR2.out, World.ownsRow_nil _ _ _ _, HX.out, HBZ.out, HSL1.out⟩
      case round =>
        clear HX HBZ HF HR2 HSL1
        (try clear y1 y2 y3 y4 y5 x0 x1 x2 x3 x4 f0 f1 f2 f3 f4)
        obtain ⟨j, v', a6, c6, hj, rfl, hrs, ho, hxb, hbb, hsl1⟩ := hrel
        obtain ⟨nj, hnj⟩ : ∃ r, nsP j q1 = r := ⟨_, rfl⟩
        rw [hnj] at hrs ho
        obtain ⟨ls, sj⟩ := nj
        dsimp only at hrs ho
        have HNJ := Lib.hid hnj
        have hll : ls.length = j := by have := nsP_len q1 j; rw [hnj] at this; exact this
        have HRJ := Lib.hid hrs
        have HO := Lib.hid ho
        have HX := Lib.hid hxb
        have HBZ := Lib.hid hbb
        have HSL1 := Lib.hid hsl1
        have HLL := Lib.hid hll
        clear hnj hrs ho hxb hbb hll hsl1
        by_cases hlt : j < 0
        · exact absurd hlt (Nat.not_lt_zero _)
        · obtain rfl : j = 0 := by omega
          have x0 := HX.out.cell (j := 0) rfl
          have b0 := HBZ.out.cell (j := 0) rfl
          have f0 := HBZ.out.frozen 0
          have x1 := HX.out.cell (j := 1) rfl
          have b1 := HBZ.out.cell (j := 1) rfl
          have f1 := HBZ.out.frozen 1
          have x2 := HX.out.cell (j := 2) rfl
          have b2 := HBZ.out.cell (j := 2) rfl
          have f2 := HBZ.out.frozen 2
          have x3 := HX.out.cell (j := 3) rfl
          have b3 := HBZ.out.cell (j := 3) rfl
          have f3 := HBZ.out.frozen 3
          have x4 := HX.out.cell (j := 4) rfl
          have b4 := HBZ.out.cell (j := 4) rfl
          have f4 := HBZ.out.frozen 4
          have HSL2 : Hid (SL w wr 5 (.slice none 0 0) 0 (bytesV [])) := Lib.hid (SL.none _ _ _)
          have HSL3 := Lib.hid (SL.of_owns (w := w) HO.out (Nat.le_refl _))
          go_wp2_with fail
          have hbF := ((((HBZ.out.setCell 0 (.int .i64 k)).setCell 1 (.slice a1 key.length c1)).setCell 2 (.slice none 0 0)).setCell 3 (.int .i64 0)).setCell 4 (.slice a6 0 c6)
          have hgF : wr.grownBy (((((wr.setCell ⟨B, 0, none⟩ (.int .i64 k)).setCell ⟨B, 1, none⟩ (.slice a1 key.length c1)).setCell ⟨B, 2, none⟩ (.slice none 0 0)).setCell ⟨B, 3, none⟩ (.int .i64 0)).setCell ⟨B, 4, none⟩ (.slice a6 0 c6)) (some B) := grownBy_trans (grownBy_trans (grownBy_trans (grownBy_trans (grownBy_setCell _ _ _) (grownBy_setCell _ _ _)) (grownBy_setCell _ _ _)) (grownBy_setCell _ _ _)) (grownBy_setCell _ _ _)
          simp only [List.set_cons_zero, List.set_cons_succ] at hbF
          obtain ⟨wF, hwF⟩ : ∃ wF, (((((wr.setCell ⟨B, 0, none⟩ (.int .i64 k)).setCell ⟨B, 1, none⟩ (.slice a1 key.length c1)).setCell ⟨B, 2, none⟩ (.slice none 0 0)).setCell ⟨B, 3, none⟩ (.int .i64 0)).setCell ⟨B, 4, none⟩ (.slice a6 0 c6)) = wF := ⟨_, rfl⟩
          rw [hwF] at hbF hgF ⊢
          have z0 := hbF.cell (j := 0) rfl
          have z1 := hbF.cell (j := 1) rfl
          have z2 := hbF.cell (j := 2) rfl
          have z3 := hbF.cell (j := 3) rfl
          have z4 := hbF.cell (j := 4) rfl
          have HSL1 := Lib.hid (HSL1.out.stepX hgF HBZ.out (by decide))
          have HSL2 := Lib.hid (HSL2.out.stepX hgF HBZ.out (by decide))
          have HSL3 := Lib.hid (HSL3.out.stepX hgF HBZ.out (by decide))
          have HRF := Lib.hid (HRJ.out.put B hgF HBN.out hR HV.out)
          have hRA : readA p = (⟨k, key, [], 0, ls, none, none, none, 0, 0, 0⟩, sj) := by
            rw [HRA.out]
            simp [readF, HT1.out, HNJ.out]
          refine bodyPost_ret (v := .agg #[.int .i64 k, .slice a1 key.length c1, .slice none 0 0, .int .i64 0, .slice a6 0 c6]) (by simp [results, Try.results43, go_sem, z0, z1, z2, z3, z4]) rfl ?_
          refine ⟨⟨k, key, [], 0, ls, a1, none, a6, c1, 0, c6⟩, v', ?_, by rw [hRA]; rfl, ⟨⟨HSL1.out.rds, HSL2.out.rds, by dsimp only; rw [HLL.out]; exact HSL3.out.rds⟩, HSL1.out.kind, HSL2.out.kind, by dsimp only; rw [HLL.out]; exact HSL3.out.kind⟩, fun b hb => ?_, by rw [hRA]; exact HRF.out⟩
          · unfold SAct.cells
            dsimp only
            rw [HLL.out]
            (try rfl)
          · rcases hb with hb | hb | hb
            · exact HSL1.out.new b hb
            · exact HSL2.out.new b hb
            · dsimp only at hb
              rw [HLL.out] at hb
              exact HSL3.out.new b hb
    · (try dsimp only at HRA)
      have y1 := HF.out.cell (j := 1) rfl
      have y2 := HF.out.cell (j := 2) rfl
      have y3 := HF.out.cell (j := 3) rfl
      have y4 := HF.out.cell (j := 4) rfl
      have y5 := HF.out.cell (j := 5) rfl
      have x0 := HX.out.cell (j := 0) rfl
      have f0 := HX.out.frozen 0
      have x1 := HX.out.cell (j := 1) rfl
      have f1 := HX.out.frozen 1
      have x2 := HX.out.cell (j := 2) rfl
      have f2 := HX.out.frozen 2
      have x3 := HX.out.cell (j := 3) rfl
      have f3 := HX.out.frozen 3
      have x4 := HX.out.cell (j := 4) rfl
      have f4 := HX.out.frozen 4
      go_wp2_with fail
      refine HR1.out.text.mono ?_
      rintro e wc ⟨a1, c1, v2, rfl, oc, rc, gc⟩
      obtain ⟨t1, ht1⟩ : ∃ t, tP p1 = t := ⟨_, rfl⟩
      rw [ht1] at oc rc
      rw [ht1]
      obtain ⟨key, q1⟩ := t1
      dsimp only at oc rc
      dsimp only
      have HT1 := Lib.hid ht1
      have HX := Lib.hid (HX.out.grown gc (fun e => HXR.out (by cases e; rfl)))
      have HBZ := Lib.hid (HBZ.out.grown gc (fun e => HBB.out (by cases e; rfl)))
      have HF := Lib.hid (HF.out.grown gc (fun e => HFR.out (by cases e; rfl)))
      have HSL1 : Hid (SL w wc 5 (.slice a1 key.length c1) key.length (bytesV key)) := Lib.hid (SL.of_owns oc (Nat.le_trans HR1.out.grown.size (Nat.le_refl _)))
      have HR2 := Lib.hid rc
      clear oc rc gc ht1
      clear y1 y2 y3 y4 y5 x0 x1 x2 x3 x4 f0 f1 f2 f3 f4
      have y1 := HF.out.cell (j := 1) rfl
      have y2 := HF.out.cell (j := 2) rfl
      have y3 := HF.out.cell (j := 3) rfl
      have y4 := HF.out.cell (j := 4) rfl
      have y5 := HF.out.cell (j := 5) rfl
      have x0 := HX.out.cell (j := 0) rfl
      have f0 := HX.out.frozen 0
      have x1 := HX.out.cell (j := 1) rfl
      have f1 := HX.out.frozen 1
      have x2 := HX.out.cell (j := 2) rfl
      have f2 := HX.out.frozen 2
      have x3 := HX.out.cell (j := 3) rfl
      have f3 := HX.out.frozen 3
      have x4 := HX.out.cell (j := 4) rfl
      have f4 := HX.out.frozen 4
      go_wp2_with fail
      clear y1 y2 y3 y4 y5 x0 x1 x2 x3 x4 f0 f1 f2 f3 f4
      have hgs := grownBy_setCell wc ⟨X, 1, none⟩ (.slice a1 key.length c1)
      have HSL1 := Lib.hid (HSL1.out.stepX hgs HX.out (by decide))
      have HXn := Lib.hid (HX.out.setCell 1 (.slice a1 key.length c1))
      have HBZ := Lib.hid (HBZ.out.setCell_other (p := ⟨X, 1, none⟩) (by exact HXB.out.symm) (.slice a1 key.length c1))
      have HF := Lib.hid (HF.out.setCell_other (p := ⟨X, 1, none⟩) (by exact HFX.out.1) (.slice a1 key.length c1))
      have HR2 := Lib.hid (HR2.out.put X hgs HXS.out hR HV.out)
      have HX : Hid (Blk (wc.setCell ⟨X, 1, none⟩ (.slice a1 key.length c1)) X 35 [.int .i64 k, .slice a1 key.length c1, .slice none 0 0, .int .i64 0, .slice none 0 0]) := HXn
      obtain ⟨ws1, hws⟩ : ∃ ws, wc.setCell ⟨X, 1, none⟩ (.slice a1 key.length c1) = ws := ⟨_, rfl⟩
      rw [hws] at HX HBZ HF HR2 HSL1 ⊢
      clear HXn hgs hws
      have y1 := HF.out.cell (j := 1) rfl
      have y2 := HF.out.cell (j := 2) rfl
      have y3 := HF.out.cell (j := 3) rfl
      have y4 := HF.out.cell (j := 4) rfl
      have y5 := HF.out.cell (j := 5) rfl
      have x0 := HX.out.cell (j := 0) rfl
      have f0 := HX.out.frozen 0
      have x1 := HX.out.cell (j := 1) rfl
      have f1 := HX.out.frozen 1
      have x2 := HX.out.cell (j := 2) rfl
      have f2 := HX.out.frozen 2
      have x3 := HX.out.cell (j := 3) rfl
      have f3 := HX.out.frozen 3
      have x4 := HX.out.cell (j := 4) rfl
      have f4 := HX.out.frozen 4
      go_wp2_with fail
      refine HR2.out.text.mono ?_
      rintro e wc ⟨a2, c2, v3, rfl, oc, rc, gc⟩
      obtain ⟨t2, ht2⟩ : ∃ t, tP q1 = t := ⟨_, rfl⟩
      rw [ht2] at oc rc
      rw [ht2]
      obtain ⟨val, q2⟩ := t2
      dsimp only at oc rc
      dsimp only
      have HT2 := Lib.hid ht2
      have HX := Lib.hid (HX.out.grown gc (fun e => HXR.out (by cases e; rfl)))
      have HBZ := Lib.hid (HBZ.out.grown gc (fun e => HBB.out (by cases e; rfl)))
      have HF := Lib.hid (HF.out.grown gc (fun e => HFR.out (by cases e; rfl)))
      have HSL1 := Lib.hid (HSL1.out.stepR gc hR)
      have HSL2 : Hid (SL w wc 5 (.slice a2 val.length c2) val.length (bytesV val)) := Lib.hid (SL.of_owns oc (Nat.le_trans HR2.out.grown.size (Nat.le_refl _)))
      have HR3 := Lib.hid rc
      clear oc rc gc ht2
      clear y1 y2 y3 y4 y5 x0 x1 x2 x3 x4 f0 f1 f2 f3 f4
      have y1 := HF.out.cell (j := 1) rfl
      have y2 := HF.out.cell (j := 2) rfl
      have y3 := HF.out.cell (j := 3) rfl
      have y4 := HF.out.cell (j := 4) rfl
      have y5 := HF.out.cell (j := 5) rfl
      have x0 := HX.out.cell (j := 0) rfl
      have f0 := HX.out.frozen 0
      have x1 := HX.out.cell (j := 1) rfl
      have f1 := HX.out.frozen 1
      have x2 := HX.out.cell (j := 2) rfl
      have f2 := HX.out.frozen 2
      have x3 := HX.out.cell (j := 3) rfl
      have f3 := HX.out.frozen 3
      have x4 := HX.out.cell (j := 4) rfl
      have f4 := HX.out.frozen 4
      go_wp2_with fail
      clear y1 y2 y3 y4 y5 x0 x1 x2 x3 x4 f0 f1 f2 f3 f4
      have hgs := grownBy_setCell wc ⟨X, 2, none⟩ (.slice a2 val.length c2)
      have HSL1 := Lib.hid (HSL1.out.stepX hgs HX.out (by decide))
      have HSL2 := Lib.hid (HSL2.out.stepX hgs HX.out (by decide))
      have HXn := Lib.hid (HX.out.setCell 2 (.slice a2 val.length c2))
      have HBZ := Lib.hid (HBZ.out.setCell_other (p := ⟨X, 2, none⟩) (by exact HXB.out.symm) (.slice a2 val.length c2))
      have HF := Lib.hid (HF.out.setCell_other (p := ⟨X, 2, none⟩) (by exact HFX.out.1) (.slice a2 val.length c2))
      have HR3 := Lib.hid (HR3.out.put X hgs HXS.out hR HV.out)
      have HX : Hid (Blk (wc.setCell ⟨X, 2, none⟩ (.slice a2 val.length c2)) X 35 [.int .i64 k, .slice a1 key.length c1, .slice a2 val.length c2, .int .i64 0, .slice none 0 0]) := HXn
      obtain ⟨ws2, hws⟩ : ∃ ws, wc.setCell ⟨X, 2, none⟩ (.slice a2 val.length c2) = ws := ⟨_, rfl⟩
      rw [hws] at HX HBZ HF HR3 HSL1 HSL2 ⊢
      clear HXn hgs hws
      have y1 := HF.out.cell (j := 1) rfl
      have y2 := HF.out.cell (j := 2) rfl
      have y3 := HF.out.cell (j := 3) rfl
      have y4 := HF.out.cell (j := 4) rfl
      have y5 := HF.out.cell (j := 5) rfl
      have x0 := HX.out.cell (j := 0) rfl
      have f0 := HX.out.frozen 0
      have x1 := HX.out.cell (j := 1) rfl
      have f1 := HX.out.frozen 1
      have x2 := HX.out.cell (j := 2) rfl
      have f2 := HX.out.frozen 2
      have x3 := HX.out.cell (j := 3) rfl
      have f3 := HX.out.frozen 3
      have x4 := HX.out.cell (j := 4) rfl
      have f4 := HX.out.frozen 4
      go_wp2_with fail
      refine (HR3.out.num 8 (by decide)).mono ?_
      rintro e wc ⟨v4, rfl, rc, gc⟩
      obtain ⟨t3, ht3⟩ : ∃ t, nP 8 q2 = t := ⟨_, rfl⟩
      rw [ht3] at rc
      rw [ht3]
      obtain ⟨un, q3⟩ := t3
      dsimp only at rc
      dsimp only
      have HT3 := Lib.hid ht3
      have hsi : wrap64 (un : Int) = sI un := rfl
      obtain ⟨sn, hsn⟩ : ∃ s, sI un = s := ⟨_, rfl⟩
      rw [hsn] at hsi
      have HSN := Lib.hid hsn
      clear hsn
      have HX := Lib.hid (HX.out.grown gc (fun e => HXR.out (by cases e; rfl)))
      have HBZ := Lib.hid (HBZ.out.grown gc (fun e => HBB.out (by cases e; rfl)))
      have HF := Lib.hid (HF.out.grown gc (fun e => HFR.out (by cases e; rfl)))
      have HSL1 := Lib.hid (HSL1.out.stepR gc hR)
      have HSL2 := Lib.hid (HSL2.out.stepR gc hR)
      have HR4 := Lib.hid rc
      clear rc gc ht3
      clear y1 y2 y3 y4 y5 x0 x1 x2 x3 x4 f0 f1 f2 f3 f4
      have y1 := HF.out.cell (j := 1) rfl
      have y2 := HF.out.cell (j := 2) rfl
      have y3 := HF.out.cell (j := 3) rfl
      have y4 := HF.out.cell (j := 4) rfl
      have y5 := HF.out.cell (j := 5) rfl
      have x0 := HX.out.cell (j := 0) rfl
      have f0 := HX.out.frozen 0
      have x1 := HX.out.cell (j := 1) rfl
      have f1 := HX.out.frozen 1
      have x2 := HX.out.cell (j := 2) rfl
      have f2 := HX.out.frozen 2
      have x3 := HX.out.cell (j := 3) rfl
      have f3 := HX.out.frozen 3
      have x4 := HX.out.cell (j := 4) rfl
      have f4 := HX.out.frozen 4
      go_wp2_with fail
      clear y1 y2 y3 y4 y5 x0 x1 x2 x3 x4 f0 f1 f2 f3 f4
      have hgs := grownBy_setCell wc ⟨X, 3, none⟩ (.int .i64 sn)
      have HSL1 := Lib.hid (HSL1.out.stepX hgs HX.out (by decide))
      have HSL2 := Lib.hid (HSL2.out.stepX hgs HX.out (by decide))
      have HXn := Lib.hid (HX.out.setCell 3 (.int .i64 sn))
      have HBZ := Lib.hid (HBZ.out.setCell_other (p := ⟨X, 3, none⟩) (by exact HXB.out.symm) (.int .i64 sn))
      have HF := Lib.hid (HF.out.setCell_other (p := ⟨X, 3, none⟩) (by exact HFX.out.1) (.int .i64 sn))
      have HR4 := Lib.hid (HR4.out.put X hgs HXS.out hR HV.out)
      have HX : Hid (Blk (wc.setCell ⟨X, 3, none⟩ (.int .i64 sn)) X 35 [.int .i64 k, .slice a1 key.length c1, .slice a2 val.length c2, .int .i64 sn, .slice none 0 0]) := HXn
      obtain ⟨ws3, hws⟩ : ∃ ws, wc.setCell ⟨X, 3, none⟩ (.int .i64 sn) = ws := ⟨_, rfl⟩
      rw [hws] at HX HBZ HF HR4 HSL1 HSL2 ⊢
      clear HXn hgs hws
      have y1 := HF.out.cell (j := 1) rfl
      have y2 := HF.out.cell (j := 2) rfl
      have y3 := HF.out.cell (j := 3) rfl
      have y4 := HF.out.cell (j := 4) rfl
      have y5 := HF.out.cell (j := 5) rfl
      have x0 := HX.out.cell (j := 0) rfl
      have f0 := HX.out.frozen 0
      have x1 := HX.out.cell (j := 1) rfl
      have f1 := HX.out.frozen 1
      have x2 := HX.out.cell (j := 2) rfl
      have f2 := HX.out.frozen 2
      have x3 := HX.out.cell (j := 3) rfl
      have f3 := HX.out.frozen 3
      have x4 := HX.out.cell (j := 4) rfl
      have f4 := HX.out.frozen 4
      go_wp2_with fail
      go_loopw [43] (fun i wr => ∃ (j : Nat) (v' : Value) (a6 : Option Addr) (c6 : Nat), j ≤ 0 ∧ i = .int .i64 j ∧ RS w R v p.1 wr v' (nsP j q3).2 ∧ wr.ownsRow w.heap.size 3 1 (.slice a6 j c6) j (intsV (nsP j q3).1) ∧ Blk wr X 35 [.int .i64 k, .slice a1 key.length c1, .slice a2 val.length c2, .int .i64 sn, .slice a6 j c6] ∧ Blk wr B 35 [.int .i64 0, .slice none 0 0, .slice none 0 0, .int .i64 0, .slice none 0 0] ∧ SL w wr 5 (.slice a1 key.length c1) key.length (bytesV key) ∧ SL w wr 5 (.slice a2 val.length c2) val.length (bytesV val)) (fun i _ => 0 - (intOf i).toNat)
      case atStart => exact ⟨0, _, none, 0, by omega, rfl, HR4.out, World.ownsRow_nil _ _ _ _, HX.out, HBZ.out, HSL1.out, HSL2.out⟩
      case round =>
        clear HX HBZ HF HR4 HSL1 HSL2
        (try clear y1 y2 y3 y4 y5 x0 x1 x2 x3 x4 f0 f1 f2 f3 f4)
        obtain ⟨j, v', a6, c6, hj, rfl, hrs, ho, hxb, hbb, hsl1, hsl2⟩ := hrel
        obtain ⟨nj, hnj⟩ : ∃ r, nsP j q3 = r := ⟨_, rfl⟩
        rw [hnj] at hrs ho
        obtain ⟨ls, sj⟩ := nj
        dsimp only at hrs ho
        have HNJ := Lib.hid hnj
        have hll : ls.length = j := by have := nsP_len q3 j; rw [hnj] at this; exact this
        have HRJ := Lib.hid hrs
        have HO := Lib.hid ho
        have HX := Lib.hid hxb
        have HBZ := Lib.hid hbb
        have HSL1 := Lib.hid hsl1
        have HSL2 := Lib.hid hsl2
        have HLL := Lib.hid hll
        clear hnj hrs ho hxb hbb hll hsl1 hsl2
        by_cases hlt : j < 0
        · exact absurd hlt (Nat.not_lt_zero _)
        · obtain rfl : j = 0 := by omega
          have x0 := HX.out.cell (j := 0) rfl
          have b0 := HBZ.out.cell (j := 0) rfl
          have f0 := HBZ.out.frozen 0
          have x1 := HX.out.cell (j := 1) rfl
          have b1 := HBZ.out.cell (j := 1) rfl
          have f1 := HBZ.out.frozen 1
          have x2 := HX.out.cell (j := 2) rfl
          have b2 := HBZ.out.cell (j := 2) rfl
          have f2 := HBZ.out.frozen 2
          have x3 := HX.out.cell (j := 3) rfl
          have b3 := HBZ.out.cell (j := 3) rfl
          have f3 := HBZ.out.frozen 3
          have x4 := HX.out.cell (j := 4) rfl
          have b4 := HBZ.out.cell (j := 4) rfl
          have f4 := HBZ.out.frozen 4
          have HSL3 := Lib.hid (SL.of_owns (w := w) HO.out (Nat.le_refl _))
          go_wp2_with fail
          have hbF := ((((HBZ.out.setCell 0 (.int .i64 k)).setCell 1 (.slice a1 key.length c1)).setCell 2 (.slice a2 val.length c2)).setCell 3 (.int .i64 sn)).setCell 4 (.slice a6 0 c6)
          have hgF : wr.grownBy (((((wr.setCell ⟨B, 0, none⟩ (.int .i64 k)).setCell ⟨B, 1, none⟩ (.slice a1 key.length c1)).setCell ⟨B, 2, none⟩ (.slice a2 val.length c2)).setCell ⟨B, 3, none⟩ (.int .i64 sn)).setCell ⟨B, 4, none⟩ (.slice a6 0 c6)) (some B) := grownBy_trans (grownBy_trans (grownBy_trans (grownBy_trans (grownBy_setCell _ _ _) (grownBy_setCell _ _ _)) (grownBy_setCell _ _ _)) (grownBy_setCell _ _ _)) (grownBy_setCell _ _ _)
          simp only [List.set_cons_zero, List.set_cons_succ] at hbF
          obtain ⟨wF, hwF⟩ : ∃ wF, (((((wr.setCell ⟨B, 0, none⟩ (.int .i64 k)).setCell ⟨B, 1, none⟩ (.slice a1 key.length c1)).setCell ⟨B, 2, none⟩ (.slice a2 val.length c2)).setCell ⟨B, 3, none⟩ (.int .i64 sn)).setCell ⟨B, 4, none⟩ (.slice a6 0 c6)) = wF := ⟨_, rfl⟩
          rw [hwF] at hbF hgF ⊢
          have z0 := hbF.cell (j := 0) rfl
          have z1 := hbF.cell (j := 1) rfl
          have z2 := hbF.cell (j := 2) rfl
          have z3 := hbF.cell (j := 3) rfl
          have z4 := hbF.cell (j := 4) rfl
          have HSL1 := Lib.hid (HSL1.out.stepX hgF HBZ.out (by decide))
          have HSL2 := Lib.hid (HSL2.out.stepX hgF HBZ.out (by decide))
          have HSL3 := Lib.hid (HSL3.out.stepX hgF HBZ.out (by decide))
          have HRF := Lib.hid (HRJ.out.put B hgF HBN.out hR HV.out)
          have hRA : readA p = (⟨k, key, val, sn, ls, none, none, none, 0, 0, 0⟩, sj) := by
            rw [HRA.out]
            simp [readF, HT1.out, HT2.out, HT3.out, HNJ.out, HSN.out]
          refine bodyPost_ret (v := .agg #[.int .i64 k, .slice a1 key.length c1, .slice a2 val.length c2, .int .i64 sn, .slice a6 0 c6]) (by simp [results, Try.results43, go_sem, z0, z1, z2, z3, z4]) rfl ?_
          refine ⟨⟨k, key, val, sn, ls, a1, a2, a6, c1, c2, c6⟩, v', ?_, by rw [hRA]; rfl, ⟨⟨HSL1.out.rds, HSL2.out.rds, by dsimp only; rw [HLL.out]; exact HSL3.out.rds⟩, HSL1.out.kind, HSL2.out.kind, by dsimp only; rw [HLL.out]; exact HSL3.out.kind⟩, fun b hb => ?_, by rw [hRA]; exact HRF.out⟩
          · unfold SAct.cells
            dsimp only
            rw [HLL.out]
            (try rfl)
          · rcases hb with hb | hb | hb
            · exact HSL1.out.new b hb
            · exact HSL2.out.new b hb
            · dsimp only at hb
              rw [HLL.out] at hb
              exact HSL3.out.new b hb
    · (try dsimp only at HRA)
      have y1 := HF.out.cell (j := 1) rfl
      have y2 := HF.out.cell (j := 2) rfl
      have y3 := HF.out.cell (j := 3) rfl
      have y4 := HF.out.cell (j := 4) rfl
      have y5 := HF.out.cell (j := 5) rfl
      have x0 := HX.out.cell (j := 0) rfl
      have f0 := HX.out.frozen 0
      have x1 := HX.out.cell (j := 1) rfl
      have f1 := HX.out.frozen 1
      have x2 := HX.out.cell (j := 2) rfl
      have f2 := HX.out.frozen 2
      have x3 := HX.out.cell (j := 3) rfl
      have f3 := HX.out.frozen 3
      have x4 := HX.out.cell (j := 4) rfl
      have f4 := HX.out.frozen 4
      go_wp2_with fail
      go_loopw [43] (fun i wr => ∃ (j : Nat) (v' : Value) (a6 : Option Addr) (c6 : Nat), j ≤ 0 ∧ i = .int .i64 j ∧ RS w R v p.1 wr v' (nsP j p1).2 ∧ wr.ownsRow w.heap.size 3 1 (.slice a6 j c6) j (intsV (nsP j p1).1) ∧ Blk wr X 35 [.int .i64 k, .slice none 0 0, .slice none 0 0, .int .i64 0, .slice a6 j c6] ∧ Blk wr B 35 [.int .i64 0, .slice none 0 0, .slice none 0 0, .int .i64 0, .slice none 0 0]) (fun i _ => 0 - (intOf i).toNat)
      case atStart => exact ⟨0, _, none, 0, by omega, rfl, HR1.out, World.ownsRow_nil _ _ _ _, HX.out, HBZ.out⟩
      case round =>
        clear HX HBZ HF HR1 
        (try clear y1 y2 y3 y4 y5 x0 x1 x2 x3 x4 f0 f1 f2 f3 f4)
        obtain ⟨j, v', a6, c6, hj, rfl, hrs, ho, hxb, hbb⟩ := hrel
        obtain ⟨nj, hnj⟩ : ∃ r, nsP j p1 = r := ⟨_, rfl⟩
        rw [hnj] at hrs ho
        obtain ⟨ls, sj⟩ := nj
        dsimp only at hrs ho
        have HNJ := Lib.hid hnj
        have hll : ls.length = j := by have := nsP_len p1 j; rw [hnj] at this; exact this
        have HRJ := Lib.hid hrs
        have HO := Lib.hid ho
        have HX := Lib.hid hxb
        have HBZ := Lib.hid hbb
        have HLL := Lib.hid hll
        clear hnj hrs ho hxb hbb hll
        by_cases hlt : j < 0
        · exact absurd hlt (Nat.not_lt_zero _)
        · obtain rfl : j = 0 := by omega
          have x0 := HX.out.cell (j := 0) rfl
          have b0 := HBZ.out.cell (j := 0) rfl
          have f0 := HBZ.out.frozen 0
          have x1 := HX.out.cell (j := 1) rfl
          have b1 := HBZ.out.cell (j := 1) rfl
          have f1 := HBZ.out.frozen 1
          have x2 := HX.out.cell (j := 2) rfl
          have b2 := HBZ.out.cell (j := 2) rfl
          have f2 := HBZ.out.frozen 2
          have x3 := HX.out.cell (j := 3) rfl
          have b3 := HBZ.out.cell (j := 3) rfl
          have f3 := HBZ.out.frozen 3
          have x4 := HX.out.cell (j := 4) rfl
          have b4 := HBZ.out.cell (j := 4) rfl
          have f4 := HBZ.out.frozen 4
          have HSL1 : Hid (SL w wr 5 (.slice none 0 0) 0 (bytesV [])) := Lib.hid (SL.none _ _ _)
          have HSL2 : Hid (SL w wr 5 (.slice none 0 0) 0 (bytesV [])) := Lib.hid (SL.none _ _ _)
          have HSL3 := Lib.hid (SL.of_owns (w := w) HO.out (Nat.le_refl _))
          go_wp2_with fail
          have hbF := ((((HBZ.out.setCell 0 (.int .i64 k)).setCell 1 (.slice none 0 0)).setCell 2 (.slice none 0 0)).setCell 3 (.int .i64 0)).setCell 4 (.slice a6 0 c6)
          have hgF : wr.grownBy (((((wr.setCell ⟨B, 0, none⟩ (.int .i64 k)).setCell ⟨B, 1, none⟩ (.slice none 0 0)).setCell ⟨B, 2, none⟩ (.slice none 0 0)).setCell ⟨B, 3, none⟩ (.int .i64 0)).setCell ⟨B, 4, none⟩ (.slice a6 0 c6)) (some B) := grownBy_trans (grownBy_trans (grownBy_trans (grownBy_trans (grownBy_setCell _ _ _) (grownBy_setCell _ _ _)) (grownBy_setCell _ _ _)) (grownBy_setCell _ _ _)) (grownBy_setCell _ _ _)
          simp only [List.set_cons_zero, List.set_cons_succ] at hbF
          obtain ⟨wF, hwF⟩ : ∃ wF, (((((wr.setCell ⟨B, 0, none⟩ (.int .i64 k)).setCell ⟨B, 1, none⟩ (.slice none 0 0)).setCell ⟨B, 2, none⟩ (.slice none 0 0)).setCell ⟨B, 3, none⟩ (.int .i64 0)).setCell ⟨B, 4, none⟩ (.slice a6 0 c6)) = wF := ⟨_, rfl⟩
          rw [hwF] at hbF hgF ⊢
          have z0 := hbF.cell (j := 0) rfl
          have z1 := hbF.cell (j := 1) rfl
          have z2 := hbF.cell (j := 2) rfl
          have z3 := hbF.cell (j := 3) rfl
          have z4 := hbF.cell (j := 4) rfl
          have HSL1 := Lib.hid (HSL1.out.stepX hgF HBZ.out (by decide))
          have HSL2 := Lib.hid (HSL2.out.stepX hgF HBZ.out (by decide))
          have HSL3 := Lib.hid (HSL3.out.stepX hgF HBZ.out (by decide))
          have HRF := Lib.hid (HRJ.out.put B hgF HBN.out hR HV.out)
          have hRA : readA p = (⟨k, [], [], 0, ls, none, none, none, 0, 0, 0⟩, sj) := by
            rw [HRA.out]
            simp [readF, HNJ.out]
          refine bodyPost_ret (v := .agg #[.int .i64 k, .slice none 0 0, .slice none 0 0, .int .i64 0, .slice a6 0 c6]) (by simp [results, Try.results43, go_sem, z0, z1, z2, z3, z4]) rfl ?_
          refine ⟨⟨k, [], [], 0, ls, none, none, a6, 0, 0, c6⟩, v', ?_, by rw [hRA]; rfl, ⟨⟨HSL1.out.rds, HSL2.out.rds, by dsimp only; rw [HLL.out]; exact HSL3.out.rds⟩, HSL1.out.kind, HSL2.out.kind, by dsimp only; rw [HLL.out]; exact HSL3.out.kind⟩, fun b hb => ?_, by rw [hRA]; exact HRF.out⟩
          · unfold SAct.cells
            dsimp only
            rw [HLL.out]
            (try rfl)
          · rcases hb with hb | hb | hb
            · exact HSL1.out.new b hb
            · exact HSL2.out.new b hb
            · dsimp only at hb
              rw [HLL.out] at hb
              exact HSL3.out.new b hb
    · (try dsimp only at HRA)
      have y1 := HF.out.cell (j := 1) rfl
      have y2 := HF.out.cell (j := 2) rfl
      have y3 := HF.out.cell (j := 3) rfl
      have y4 := HF.out.cell (j := 4) rfl
      have y5 := HF.out.cell (j := 5) rfl
      have x0 := HX.out.cell (j := 0) rfl
      have f0 := HX.out.frozen 0
      have x1 := HX.out.cell (j := 1) rfl
      have f1 := HX.out.frozen 1
      have x2 := HX.out.cell (j := 2) rfl
      have f2 := HX.out.frozen 2
      have x3 := HX.out.cell (j := 3) rfl
      have f3 := HX.out.frozen 3
      have x4 := HX.out.cell (j := 4) rfl
      have f4 := HX.out.frozen 4
      go_wp2_with fail
      refine (HR1.out.num 8 (by decide)).mono ?_
      rintro e wc ⟨v2, rfl, rc, gc⟩
      obtain ⟨t1, ht1⟩ : ∃ t, nP 8 p1 = t := ⟨_, rfl⟩
      rw [ht1] at rc
      rw [ht1]
      obtain ⟨un, q1⟩ := t1
      dsimp only at rc
      dsimp only
      have HT1 := Lib.hid ht1
      have hsi : wrap64 (un : Int) = sI un := rfl
      obtain ⟨sn, hsn⟩ : ∃ s, sI un = s := ⟨_, rfl⟩
      rw [hsn] at hsi
      have HSN := Lib.hid hsn
      clear hsn
      have HX := Lib.hid (HX.out.grown gc (fun e => HXR.out (by cases e; rfl)))
      have HBZ := Lib.hid (HBZ.out.grown gc (fun e => HBB.out (by cases e; rfl)))
      have HF := Lib.hid (HF.out.grown gc (fun e => HFR.out (by cases e; rfl)))
      have HR2 := Lib.hid rc
      clear rc gc ht1
      clear y1 y2 y3 y4 y5 x0 x1 x2 x3 x4 f0 f1 f2 f3 f4
      have y1 := HF.out.cell (j := 1) rfl
      have y2 := HF.out.cell (j := 2) rfl
      have y3 := HF.out.cell (j := 3) rfl
      have y4 := HF.out.cell (j := 4) rfl
      have y5 := HF.out.cell (j := 5) rfl
      have x0 := HX.out.cell (j := 0) rfl
      have f0 := HX.out.frozen 0
      have x1 := HX.out.cell (j := 1) rfl
      have f1 := HX.out.frozen 1
      have x2 := HX.out.cell (j := 2) rfl
      have f2 := HX.out.frozen 2
      have x3 := HX.out.cell (j := 3) rfl
      have f3 := HX.out.frozen 3
      have x4 := HX.out.cell (j := 4) rfl
      have f4 := HX.out.frozen 4
      go_wp2_with fail
      clear y1 y2 y3 y4 y5 x0 x1 x2 x3 x4 f0 f1 f2 f3 f4
      have hgs := grownBy_setCell wc ⟨X, 3, none⟩ (.int .i64 sn)
      have HXn := Lib.hid (HX.out.setCell 3 (.int .i64 sn))
      have HBZ := Lib.hid (HBZ.out.setCell_other (p := ⟨X, 3, none⟩) (by exact HXB.out.symm) (.int .i64 sn))
      have HF := Lib.hid (HF.out.setCell_other (p := ⟨X, 3, none⟩) (by exact HFX.out.1) (.int .i64 sn))
      have HR2 := Lib.hid (HR2.out.put X hgs HXS.out hR HV.out)
      have HX : Hid (Blk (wc.setCell ⟨X, 3, none⟩ (.int .i64 sn)) X 35 [.int .i64 k, .slice none 0 0, .slice none 0 0, .int .i64 sn, .slice none 0 0]) := HXn
      obtain ⟨ws1, hws⟩ : ∃ ws, wc.setCell ⟨X, 3, none⟩ (.int .i64 sn) = ws := ⟨_, rfl⟩
      rw [hws] at HX HBZ HF HR2  ⊢
      clear HXn hgs hws
      have y1 := HF.out.cell (j := 1) rfl
      have y2 := HF.out.cell (j := 2) rfl
      have y3 := HF.out.cell (j := 3) rfl
      have y4 := HF.out.cell (j := 4) rfl
      have y5 := HF.out.cell (j := 5) rfl
      have x0 := HX.out.cell (j := 0) rfl
      have f0 := HX.out.frozen 0
      have x1 := HX.out.cell (j := 1) rfl
      have f1 := HX.out.frozen 1
      have x2 := HX.out.cell (j := 2) rfl
      have f2 := HX.out.frozen 2
      have x3 := HX.out.cell (j := 3) rfl
      have f3 := HX.out.frozen 3
      have x4 := HX.out.cell (j := 4) rfl
      have f4 := HX.out.frozen 4
      go_wp2_with fail
      go_loopw [43] (fun i wr => ∃ (j : Nat) (v' : Value) (a6 : Option Addr) (c6 : Nat), j ≤ 0 ∧ i = .int .i64 j ∧ RS w R v p.1 wr v' (nsP j q1).2 ∧ wr.ownsRow w.heap.size 3 1 (.slice a6 j c6) j (intsV (nsP j q1).1) ∧ Blk wr X 35 [.int .i64 k, .slice none 0 0, .slice none 0 0, .int .i64 sn, .slice a6 j c6] ∧ Blk wr B 35 [.int .i64 0, .slice none 0 0, .slice none 0 0, .int .i64 0, .slice none 0 0]) (fun i _ => 0 - (intOf i).toNat)
      case atStart => exact ⟨0, _, none, 0, by omega, rfl, HR2.out, World.ownsRow_nil _ _ _ _, HX.out, HBZ.out⟩
      case round =>
        clear HX HBZ HF HR2 
        (try clear y1 y2 y3 y4 y5 x0 x1 x2 x3 x4 f0 f1 f2 f3 f4)
        obtain ⟨j, v', a6, c6, hj, rfl, hrs, ho, hxb, hbb⟩ := hrel
        obtain ⟨nj, hnj⟩ : ∃ r, nsP j q1 = r := ⟨_, rfl⟩
        rw [hnj] at hrs ho
        obtain ⟨ls, sj⟩ := nj
        dsimp only at hrs ho
        have HNJ := Lib.hid hnj
        have hll : ls.length = j := by have := nsP_len q1 j; rw [hnj] at this; exact this
        have HRJ := Lib.hid hrs
        have HO := Lib.hid ho
        have HX := Lib.hid hxb
        have HBZ := Lib.hid hbb
        have HLL := Lib.hid hll
        clear hnj hrs ho hxb hbb hll
        by_cases hlt : j < 0
        · exact absurd hlt (Nat.not_lt_zero _)
        · obtain rfl : j = 0 := by omega
          have x0 := HX.out.cell (j := 0) rfl
          have b0 := HBZ.out.cell (j := 0) rfl
          have f0 := HBZ.out.frozen 0
          have x1 := HX.out.cell (j := 1) rfl
          have b1 := HBZ.out.cell (j := 1) rfl
          have f1 := HBZ.out.frozen 1
          have x2 := HX.out.cell (j := 2) rfl
          have b2 := HBZ.out.cell (j := 2) rfl
          have f2 := HBZ.out.frozen 2
          have x3 := HX.out.cell (j := 3) rfl
          have b3 := HBZ.out.cell (j := 3) rfl
          have f3 := HBZ.out.frozen 3
          have x4 := HX.out.cell (j := 4) rfl
          have b4 := HBZ.out.cell (j := 4) rfl
          have f4 := HBZ.out.frozen 4
          have HSL1 : Hid (SL w wr 5 (.slice none 0 0) 0 (bytesV [])) := Lib.hid (SL.none _ _ _)
          have HSL2 : Hid (SL w wr 5 (.slice none 0 0) 0 (bytesV [])) := Lib.hid (SL.none _ _ _)
          have HSL3 := Lib.hid (SL.of_owns (w := w) HO.out (Nat.le_refl _))
          go_wp2_with fail
          have hbF := ((((HBZ.out.setCell 0 (.int .i64 k)).setCell 1 (.slice none 0 0)).setCell 2 (.slice none 0 0)).setCell 3 (.int .i64 sn)).setCell 4 (.slice a6 0 c6)
          have hgF : wr.grownBy (((((wr.setCell ⟨B, 0, none⟩ (.int .i64 k)).setCell ⟨B, 1, none⟩ (.slice none 0 0)).setCell ⟨B, 2, none⟩ (.slice none 0 0)).setCell ⟨B, 3, none⟩ (.int .i64 sn)).setCell ⟨B, 4, none⟩ (.slice a6 0 c6)) (some B) := grownBy_trans (grownBy_trans (grownBy_trans (grownBy_trans (grownBy_setCell _ _ _) (grownBy_setCell _ _ _)) (grownBy_setCell _ _ _)) (grownBy_setCell _ _ _)) (grownBy_setCell _ _ _)
          simp only [List.set_cons_zero, List.set_cons_succ] at hbF
          obtain ⟨wF, hwF⟩ : ∃ wF, (((((wr.setCell ⟨B, 0, none⟩ (.int .i64 k)).setCell ⟨B, 1, none⟩ (.slice none 0 0)).setCell ⟨B, 2, none⟩ (.slice none 0 0)).setCell ⟨B, 3, none⟩ (.int .i64 sn)).setCell ⟨B, 4, none⟩ (.slice a6 0 c6)) = wF := ⟨_, rfl⟩
          rw [hwF] at hbF hgF ⊢
          have z0 := hbF.cell (j := 0) rfl
          have z1 := hbF.cell (j := 1) rfl
          have z2 := hbF.cell (j := 2) rfl
          have z3 := hbF.cell (j := 3) rfl
          have z4 := hbF.cell (j := 4) rfl
          have HSL1 := Lib.hid (HSL1.out.stepX hgF HBZ.out (by decide))
          have HSL2 := Lib.hid (HSL2.out.stepX hgF HBZ.out (by decide))
          have HSL3 := Lib.hid (HSL3.out.stepX hgF HBZ.out (by decide))
          have HRF := Lib.hid (HRJ.out.put B hgF HBN.out hR HV.out)
          have hRA : readA p = (⟨k, [], [], sn, ls, none, none, none, 0, 0, 0⟩, sj) := by
            rw [HRA.out]
            simp [readF, HT1.out, HNJ.out, HSN.out]
          refine bodyPost_ret (v := .agg #[.int .i64 k, .slice none 0 0, .slice none 0 0, .int .i64 sn, .slice a6 0 c6]) (by simp [results, Try.results43, go_sem, z0, z1, z2, z3, z4]) rfl ?_
          refine ⟨⟨k, [], [], sn, ls, none, none, a6, 0, 0, c6⟩, v', ?_, by rw [hRA]; rfl, ⟨⟨HSL1.out.rds, HSL2.out.rds, by dsimp only; rw [HLL.out]; exact HSL3.out.rds⟩, HSL1.out.kind, HSL2.out.kind, by dsimp only; rw [HLL.out]; exact HSL3.out.kind⟩, fun b hb => ?_, by rw [hRA]; exact HRF.out⟩
          · unfold SAct.cells
            dsimp only
            rw [HLL.out]
            (try rfl)
          · rcases hb with hb | hb | hb
            · exact HSL1.out.new b hb
            · exact HSL2.out.new b hb
            · dsimp only at hb
              rw [HLL.out] at hb
              exact HSL3.out.new b hb
    · (try dsimp only at HRA)
      have y1 := HF.out.cell (j := 1) rfl
      have y2 := HF.out.cell (j := 2) rfl
      have y3 := HF.out.cell (j := 3) rfl
      have y4 := HF.out.cell (j := 4) rfl
      have y5 := HF.out.cell (j := 5) rfl
      have x0 := HX.out.cell (j := 0) rfl
      have f0 := HX.out.frozen 0
      have x1 := HX.out.cell (j := 1) rfl
      have f1 := HX.out.frozen 1
      have x2 := HX.out.cell (j := 2) rfl
      have f2 := HX.out.frozen 2
      have x3 := HX.out.cell (j := 3) rfl
      have f3 := HX.out.frozen 3
      have x4 := HX.out.cell (j := 4) rfl
      have f4 := HX.out.frozen 4
      go_wp2_with fail
      refine (HR1.out.num 1 (by decide)).mono ?_
      rintro e wc ⟨v2, rfl, rc, gc⟩
      have hcl := nP1_lt p1 HR1.out.rr.small
      obtain ⟨t1, ht1⟩ : ∃ t, nP 1 p1 = t := ⟨_, rfl⟩
      rw [ht1] at rc hcl
      rw [ht1]
      obtain ⟨un, q1⟩ := t1
      dsimp only at rc hcl
      dsimp only
      have HT1 := Lib.hid ht1
      have hsi : wrap64 (un : Int) = un := by unfold wrap64; omega
      have HX := Lib.hid (HX.out.grown gc (fun e => HXR.out (by cases e; rfl)))
      have HBZ := Lib.hid (HBZ.out.grown gc (fun e => HBB.out (by cases e; rfl)))
      have HF := Lib.hid (HF.out.grown gc (fun e => HFR.out (by cases e; rfl)))
      have HR2 := Lib.hid rc
      clear rc gc ht1
      clear y1 y2 y3 y4 y5 x0 x1 x2 x3 x4 f0 f1 f2 f3 f4
      have y1 := HF.out.cell (j := 1) rfl
      have y2 := HF.out.cell (j := 2) rfl
      have y3 := HF.out.cell (j := 3) rfl
      have y4 := HF.out.cell (j := 4) rfl
      have y5 := HF.out.cell (j := 5) rfl
      have x0 := HX.out.cell (j := 0) rfl
      have f0 := HX.out.frozen 0
      have x1 := HX.out.cell (j := 1) rfl
      have f1 := HX.out.frozen 1
      have x2 := HX.out.cell (j := 2) rfl
      have f2 := HX.out.frozen 2
      have x3 := HX.out.cell (j := 3) rfl
      have f3 := HX.out.frozen 3
      have x4 := HX.out.cell (j := 4) rfl
      have f4 := HX.out.frozen 4
      go_wp2_with fail
      go_loopw [43] (fun i wr => ∃ (j : Nat) (v' : Value) (a6 : Option Addr) (c6 : Nat), j ≤ un ∧ i = .int .i64 j ∧ RS w R v p.1 wr v' (nsP j q1).2 ∧ wr.ownsRow w.heap.size 3 1 (.slice a6 j c6) j (intsV (nsP j q1).1) ∧ Blk wr X 35 [.int .i64 k, .slice none 0 0, .slice none 0 0, .int .i64 0, .slice a6 j c6] ∧ Blk wr B 35 [.int .i64 0, .slice none 0 0, .slice none 0 0, .int .i64 0, .slice none 0 0]) (fun i _ => un - (intOf i).toNat)
      case atStart => exact ⟨0, _, none, 0, by omega, rfl, HR2.out, World.ownsRow_nil _ _ _ _, HX.out, HBZ.out⟩
      case round =>
        clear HX HBZ HF HR2 
        (try clear y1 y2 y3 y4 y5 x0 x1 x2 x3 x4 f0 f1 f2 f3 f4)
        obtain ⟨j, v', a6, c6, hj, rfl, hrs, ho, hxb, hbb⟩ := hrel
        obtain ⟨nj, hnj⟩ : ∃ r, nsP j q1 = r := ⟨_, rfl⟩
        rw [hnj] at hrs ho
        obtain ⟨ls, sj⟩ := nj
        dsimp only at hrs ho
        have HNJ := Lib.hid hnj
        have hll : ls.length = j := by have := nsP_len q1 j; rw [hnj] at this; exact this
        have HRJ := Lib.hid hrs
        have HO := Lib.hid ho
        have HX := Lib.hid hxb
        have HBZ := Lib.hid hbb
        have HLL := Lib.hid hll
        clear hnj hrs ho hxb hbb hll
        by_cases hlt : j < un
        · have hji : (j : Int) < (un : Int) := by omega
          have x4 := HX.out.cell (j := 4) rfl
          go_wp2_with fail
          refine wp_region_planM (fun W => W.cell? ⟨X, 4, none⟩ = some (.slice a6 j c6)) [([0, 1], [2], 3, true), ([], [4], 5, true), ([], [], 6, true), ([], [7], 8, false)] (by kernel_rfl) (by kernel_rfl) ?_
          refine wpPlanM_seg x4 ?_
          iterate 2 ((apply wpReadD_step rfl (by rfl); (· intro wS hSw; (try have hSw := hSw rfl); (try dsimp only at hSw); go_simp; (try with_reducible rfl))); try simp only [Act.put, List.setIfInBounds_toArray, List.set_cons_zero, List.set_cons_succ])
          refine wpReadD_nil ?_
          iterate 1 ((apply wpReadD_step rfl (by rfl); (· intro wS hSw; (try have hSw := hSw rfl); (try dsimp only at hSw); (try subst hSw); go_simp; (try with_reducible rfl))); try simp only [Act.put, List.setIfInBounds_toArray, List.set_cons_zero, List.set_cons_succ])
          refine wpReadD_nil ?_
          refine wpOp_list rfl (fun K hK => ?_)
          go_simp
          refine ((HRJ.out.later (grownBy_drewN wr 1 none)).num 8 (by decide)).mono ?_
          rintro e wc ⟨v7, rfl, rc, gc⟩
          dsimp only
          obtain ⟨tj, htj⟩ : ∃ t, nP 8 sj = t := ⟨_, rfl⟩
          rw [htj] at rc
          rw [htj]
          obtain ⟨uj, qj⟩ := tj
          dsimp only at rc
          dsimp only
          have HTJ := Lib.hid htj
          have hsi : wrap64 (uj : Int) = sI uj := rfl
          obtain ⟨sj', hsj⟩ : ∃ s, sI uj = s := ⟨_, rfl⟩
          rw [hsj] at hsi
          have hsi2 : IntKind.i64.wrap (uj : Int) = sj' := (IntWalk.i64_left _).trans hsi
          have HSJ := Lib.hid hsj
          have HO := Lib.hid ((owns_grown HO.out (grownBy_drewN wr 1 none)).kept gc (.inr (fun e => by have := (HO.out.lt R e).1; omega)))
          have HX := Lib.hid ((HX.out.drewN 1).grown gc (fun e => HXR.out (by cases e; rfl)))
          have HBZ := Lib.hid ((HBZ.out.drewN 1).grown gc (fun e => HBB.out (by cases e; rfl)))
          have HRJ := Lib.hid rc
          refine hK _ _ ⟨_, fun _ h => h, fun _ => HX.out.cell (j := 4) rfl, ?_⟩
          clear hK K rc gc x4 htj hsj
          try simp only [Act.put, List.setIfInBounds_toArray, List.set_cons_zero, List.set_cons_succ]
          refine wpPlanM_here ?_
          iterate 1 ((apply wpReadD_step rfl (by rfl); (· intro wS hSw; (try have hSw := hSw rfl); (try dsimp only at hSw); (try subst hSw); go_simp; (try with_reducible rfl))); try simp only [Act.put, List.setIfInBounds_toArray, List.set_cons_zero, List.set_cons_succ])
          refine wpReadD_nil ?_
          refine wpOp_list rfl (fun K hK => ?_)
          go_simp
          have hga := World.grownBy_alloc wc (.cells #[.int .i64 sj'] 3) none
          have HSRC := Lib.hid (Rds.of_blk (sz := 1) (n := 1) (c := 1) (Blk.new wc 3 [.int .i64 sj']) rfl (by unfold maxLen; omega))
          have HO := Lib.hid (owns_grown HO.out hga)
          have HX := Lib.hid (HX.out.grown hga (by simp))
          have HBZ := Lib.hid (HBZ.out.grown hga (by simp))
          have HRJ := Lib.hid (HRJ.out.later hga)
          refine hK _ _ ⟨_, fun _ h => h, fun _ => HX.out.cell (j := 4) rfl, ?_⟩
          clear hK K hga hsi hsi2
          try simp only [Act.put, List.setIfInBounds_toArray, List.set_cons_zero, List.set_cons_succ]
          refine wpPlanM_here ?_
          refine wpReadD_nil ?_
          refine wpOp_list rfl (fun K hK => ?_)
          skip
          refine step_append_rds (by rfl) _ _ 33 (by rfl) w.heap.size 3 i1 _ 1 8 Try.underlying33 hi' hz0' hz1' hz2' rfl (by decide) (v := .slice a6 j c6) (n := j) (by rfl) HO.out (by rfl) HSRC.out (by simp [Value.oneCell']) (by unfold maxLen; omega) (by omega) HRJ.out.grown.size ?_
          intro vv w8 g1 g2 g3
          obtain ⟨a8, c8, rfl⟩ := (Rds.of_owns g1).slice
          have HX := Lib.hid (Blk.grown HX.out g2 (fun e => not_row HX.out HO.out (by decide) e.symm))
          have HBZ := Lib.hid (Blk.grown HBZ.out g2 (fun e => not_row HBZ.out HO.out (by decide) e.symm))
          have HRJ := Lib.hid (HRJ.out.putO g2 (fun b hb => (HO.out.lt b hb).1) hR HV.out)
          have HO := Lib.hid g1
          have fz := HX.out.frozen 4
          have x4 := HX.out.cell (j := 4) rfl
          refine hK _ _ ⟨_, fun _ h => h, fun _ => HX.out.cell (j := 4) rfl, ?_⟩
          clear hK K g1 g2 g3 HSRC
          try simp only [Act.put, List.setIfInBounds_toArray, List.set_cons_zero, List.set_cons_succ]
          refine wpPlanM_here ?_
          iterate 1 ((apply wpReadD_step rfl (by rfl); (· intro wS hSw; (try have hSw := hSw rfl); (try dsimp only at hSw); (try subst hSw); go_simp; (try with_reducible rfl))); try simp only [Act.put, List.setIfInBounds_toArray, List.set_cons_zero, List.set_cons_succ])
          refine wpReadD_nil ?_
          refine wpOp_list rfl (fun K hK => ?_)
          go_simp
          have hgs := grownBy_setCell w8 ⟨X, 4, none⟩ (.slice a8 (j + 1) c8)
          have HO := Lib.hid (HO.out.kept hgs (.inr (not_row HX.out HO.out (by decide))))
          have HBZ := Lib.hid (HBZ.out.setCell_other (p := ⟨X, 4, none⟩) (by exact HXB.out.symm) (.slice a8 (j + 1) c8))
          have HRJ := Lib.hid (HRJ.out.put X hgs HXS.out hR HV.out)
          have HX : Hid (Blk (w8.setCell ⟨X, 4, none⟩ (.slice a8 (j + 1) c8)) X 35 [.int .i64 k, .slice none 0 0, .slice none 0 0, .int .i64 0, .slice a8 (j + 1) c8]) := Lib.hid (HX.out.setCell 4 (.slice a8 (j + 1) c8))
          refine hK _ _ ⟨_, fun _ h => h, fun hf => (by cases hf), ?_⟩
          clear hK K hgs fz x4
          try simp only [Act.put, List.setIfInBounds_toArray, List.set_cons_zero, List.set_cons_succ]
          refine wpPlanM_nil (NoPanic.normal ?_)
          have HN2 : Hid (nsP (j + 1) q1 = (ls ++ [sj'], qj)) := Lib.hid (by rw [nsP, HNJ.out, HTJ.out, HSJ.out])
          have HO2 : Hid (World.ownsRow _ w.heap.size 3 1 (.slice a8 (j + 1) c8) (j + 1) (intsV (ls ++ [sj']))) := Lib.hid (by have := HO.out; simpa [intsV] using this)
          go_wp2_with fail
          exact ⟨⟨j + 1, v7, a8, c8, by omega, by go_num, by rw [HN2.out]; exact HRJ.out, by rw [HN2.out]; exact HO2.out, HX.out, HBZ.out⟩, by simp [intOf]; omega⟩
        · obtain rfl : j = un := by omega
          have x0 := HX.out.cell (j := 0) rfl
          have b0 := HBZ.out.cell (j := 0) rfl
          have f0 := HBZ.out.frozen 0
          have x1 := HX.out.cell (j := 1) rfl
          have b1 := HBZ.out.cell (j := 1) rfl
          have f1 := HBZ.out.frozen 1
          have x2 := HX.out.cell (j := 2) rfl
          have b2 := HBZ.out.cell (j := 2) rfl
          have f2 := HBZ.out.frozen 2
          have x3 := HX.out.cell (j := 3) rfl
          have b3 := HBZ.out.cell (j := 3) rfl
          have f3 := HBZ.out.frozen 3
          have x4 := HX.out.cell (j := 4) rfl
          have b4 := HBZ.out.cell (j := 4) rfl
          have f4 := HBZ.out.frozen 4
          have HSL1 : Hid (SL w wr 5 (.slice none 0 0) 0 (bytesV [])) := Lib.hid (SL.none _ _ _)
          have HSL2 : Hid (SL w wr 5 (.slice none 0 0) 0 (bytesV [])) := Lib.hid (SL.none _ _ _)
          have HSL3 := Lib.hid (SL.of_owns (w := w) HO.out (Nat.le_refl _))
          go_wp2_with fail
          have hbF := ((((HBZ.out.setCell 0 (.int .i64 k)).setCell 1 (.slice none 0 0)).setCell 2 (.slice none 0 0)).setCell 3 (.int .i64 0)).setCell 4 (.slice a6 j c6)
          have hgF : wr.grownBy (((((wr.setCell ⟨B, 0, none⟩ (.int .i64 k)).setCell ⟨B, 1, none⟩ (.slice none 0 0)).setCell ⟨B, 2, none⟩ (.slice none 0 0)).setCell ⟨B, 3, none⟩ (.int .i64 0)).setCell ⟨B, 4, none⟩ (.slice a6 j c6)) (some B) := grownBy_trans (grownBy_trans (grownBy_trans (grownBy_trans (grownBy_setCell _ _ _) (grownBy_setCell _ _ _)) (grownBy_setCell _ _ _)) (grownBy_setCell _ _ _)) (grownBy_setCell _ _ _)
          simp only [List.set_cons_zero, List.set_cons_succ] at hbF
          obtain ⟨wF, hwF⟩ : ∃ wF, (((((wr.setCell ⟨B, 0, none⟩ (.int .i64 k)).setCell ⟨B, 1, none⟩ (.slice none 0 0)).setCell ⟨B, 2, none⟩ (.slice none 0 0)).setCell ⟨B, 3, none⟩ (.int .i64 0)).setCell ⟨B, 4, none⟩ (.slice a6 j c6)) = wF := ⟨_, rfl⟩
          rw [hwF] at hbF hgF ⊢
          have z0 := hbF.cell (j := 0) rfl
          have z1 := hbF.cell (j := 1) rfl
          have z2 := hbF.cell (j := 2) rfl
          have z3 := hbF.cell (j := 3) rfl
          have z4 := hbF.cell (j := 4) rfl
          have HSL1 := Lib.hid (HSL1.out.stepX hgF HBZ.out (by decide))
          have HSL2 := Lib.hid (HSL2.out.stepX hgF HBZ.out (by decide))
          have HSL3 := Lib.hid (HSL3.out.stepX hgF HBZ.out (by decide))
          have HRF := Lib.hid (HRJ.out.put B hgF HBN.out hR HV.out)
          have hRA : readA p = (⟨k, [], [], 0, ls, none, none, none, 0, 0, 0⟩, sj) := by
            rw [HRA.out]
            simp [readF, HT1.out, HNJ.out]
          refine bodyPost_ret (v := .agg #[.int .i64 k, .slice none 0 0, .slice none 0 0, .int .i64 0, .slice a6 j c6]) (by simp [results, Try.results43, go_sem, z0, z1, z2, z3, z4]) rfl ?_
          refine ⟨⟨k, [], [], 0, ls, none, none, a6, 0, 0, c6⟩, v', ?_, by rw [hRA]; rfl, ⟨⟨HSL1.out.rds, HSL2.out.rds, by dsimp only; rw [HLL.out]; exact HSL3.out.rds⟩, HSL1.out.kind, HSL2.out.kind, by dsimp only; rw [HLL.out]; exact HSL3.out.kind⟩, fun b hb => ?_, by rw [hRA]; exact HRF.out⟩
          · unfold SAct.cells
            dsimp only
            rw [HLL.out]
            (try rfl)
          · rcases hb with hb | hb | hb
            · exact HSL1.out.new b hb
            · exact HSL2.out.new b hb
            · dsimp only at hb
              rw [HLL.out] at hb
              exact HSL3.out.new b hb
    · (try dsimp only at HRA)
      have y1 := HF.out.cell (j := 1) rfl
      have y2 := HF.out.cell (j := 2) rfl
      have y3 := HF.out.cell (j := 3) rfl
      have y4 := HF.out.cell (j := 4) rfl
      have y5 := HF.out.cell (j := 5) rfl
      have x0 := HX.out.cell (j := 0) rfl
      have f0 := HX.out.frozen 0
      have x1 := HX.out.cell (j := 1) rfl
      have f1 := HX.out.frozen 1
      have x2 := HX.out.cell (j := 2) rfl
      have f2 := HX.out.frozen 2
      have x3 := HX.out.cell (j := 3) rfl
      have f3 := HX.out.frozen 3
      have x4 := HX.out.cell (j := 4) rfl
      have f4 := HX.out.frozen 4
      go_wp2_with fail
      go_loopw [43] (fun i wr => ∃ (j : Nat) (v' : Value) (a6 : Option Addr) (c6 : Nat), j ≤ 3 ∧ i = .int .i64 j ∧ RS w R v p.1 wr v' (nsP j p1).2 ∧ wr.ownsRow w.heap.size 3 1 (.slice a6 j c6) j (intsV (nsP j p1).1) ∧ Blk wr X 35 [.int .i64 k, .slice none 0 0, .slice none 0 0, .int .i64 0, .slice a6 j c6] ∧ Blk wr B 35 [.int .i64 0, .slice none 0 0, .slice none 0 0, .int .i64 0, .slice none 0 0]) (fun i _ => 3 - (intOf i).toNat)
      case atStart => exact ⟨0, _, none, 0, by omega, rfl, HR1.out, World.ownsRow_nil _ _ _ _, HX.out, HBZ.out⟩
      case round =>
        clear HX HBZ HF HR1 
        (try clear y1 y2 y3 y4 y5 x0 x1 x2 x3 x4 f0 f1 f2 f3 f4)
        obtain ⟨j, v', a6, c6, hj, rfl, hrs, ho, hxb, hbb⟩ := hrel
        obtain ⟨nj, hnj⟩ : ∃ r, nsP j p1 = r := ⟨_, rfl⟩
        rw [hnj] at hrs ho
        obtain ⟨ls, sj⟩ := nj
        dsimp only at hrs ho
        have HNJ := Lib.hid hnj
        have hll : ls.length = j := by have := nsP_len p1 j; rw [hnj] at this; exact this
        have HRJ := Lib.hid hrs
        have HO := Lib.hid ho
        have HX := Lib.hid hxb
        have HBZ := Lib.hid hbb
        have HLL := Lib.hid hll
        clear hnj hrs ho hxb hbb hll
        by_cases hlt : j < 3
        · have hji : (j : Int) < (3 : Int) := by omega
          have x4 := HX.out.cell (j := 4) rfl
          go_wp2_with fail
          refine wp_region_planM (fun W => W.cell? ⟨X, 4, none⟩ = some (.slice a6 j c6)) [([0, 1], [2], 3, true), ([], [4], 5, true), ([], [], 6, true), ([], [7], 8, false)] (by kernel_rfl) (by kernel_rfl) ?_
          refine wpPlanM_seg x4 ?_
          iterate 2 ((apply wpReadD_step rfl (by rfl); (· intro wS hSw; (try have hSw := hSw rfl); (try dsimp only at hSw); go_simp; (try with_reducible rfl))); try simp only [Act.put, List.setIfInBounds_toArray, List.set_cons_zero, List.set_cons_succ])
          refine wpReadD_nil ?_
          iterate 1 ((apply wpReadD_step rfl (by rfl); (· intro wS hSw; (try have hSw := hSw rfl); (try dsimp only at hSw); (try subst hSw); go_simp; (try with_reducible rfl))); try simp only [Act.put, List.setIfInBounds_toArray, List.set_cons_zero, List.set_cons_succ])
          refine wpReadD_nil ?_
          refine wpOp_list rfl (fun K hK => ?_)
          go_simp
          refine ((HRJ.out.later (grownBy_drewN wr 1 none)).num 8 (by decide)).mono ?_
          rintro e wc ⟨v7, rfl, rc, gc⟩
          dsimp only
          obtain ⟨tj, htj⟩ : ∃ t, nP 8 sj = t := ⟨_, rfl⟩
          rw [htj] at rc
          rw [htj]
          obtain ⟨uj, qj⟩ := tj
          dsimp only at rc
          dsimp only
          have HTJ := Lib.hid htj
          have hsi : wrap64 (uj : Int) = sI uj := rfl
          obtain ⟨sj', hsj⟩ : ∃ s, sI uj = s := ⟨_, rfl⟩
          rw [hsj] at hsi
          have hsi2 : IntKind.i64.wrap (uj : Int) = sj' := (IntWalk.i64_left _).trans hsi
          have HSJ := Lib.hid hsj
          have HO := Lib.hid ((owns_grown HO.out (grownBy_drewN wr 1 none)).kept gc (.inr (fun e => by have := (HO.out.lt R e).1; omega)))
          have HX := Lib.hid ((HX.out.drewN 1).grown gc (fun e => HXR.out (by cases e; rfl)))
          have HBZ := Lib.hid ((HBZ.out.drewN 1).grown gc (fun e => HBB.out (by cases e; rfl)))
          have HRJ := Lib.hid rc
          refine hK _ _ ⟨_, fun _ h => h, fun _ => HX.out.cell (j := 4) rfl, ?_⟩
          clear hK K rc gc x4 htj hsj
          try simp only [Act.put, List.setIfInBounds_toArray, List.set_cons_zero, List.set_cons_succ]
          refine wpPlanM_here ?_
          iterate 1 ((apply wpReadD_step rfl (by rfl); (· intro wS hSw; (try have hSw := hSw rfl); (try dsimp only at hSw); (try subst hSw); go_simp; (try with_reducible rfl))); try simp only [Act.put, List.setIfInBounds_toArray, List.set_cons_zero, List.set_cons_succ])
          refine wpReadD_nil ?_
          refine wpOp_list rfl (fun K hK => ?_)
          go_simp
          have hga := World.grownBy_alloc wc (.cells #[.int .i64 sj'] 3) none
          have HSRC := Lib.hid (Rds.of_blk (sz := 1) (n := 1) (c := 1) (Blk.new wc 3 [.int .i64 sj']) rfl (by unfold maxLen; omega))
          have HO := Lib.hid (owns_grown HO.out hga)
          have HX := Lib.hid (HX.out.grown hga (by simp))
          have HBZ := Lib.hid (HBZ.out.grown hga (by simp))
          have HRJ := Lib.hid (HRJ.out.later hga)
          refine hK _ _ ⟨_, fun _ h => h, fun _ => HX.out.cell (j := 4) rfl, ?_⟩
          clear hK K hga hsi hsi2
          try simp only [Act.put, List.setIfInBounds_toArray, List.set_cons_zero, List.set_cons_succ]
          refine wpPlanM_here ?_
          refine wpReadD_nil ?_
          refine wpOp_list rfl (fun K hK => ?_)
          skip
          refine step_append_rds (by rfl) _ _ 33 (by rfl) w.heap.size 3 i1 _ 1 8 Try.underlying33 hi' hz0' hz1' hz2' rfl (by decide) (v := .slice a6 j c6) (n := j) (by rfl) HO.out (by rfl) HSRC.out (by simp [Value.oneCell']) (by unfold maxLen; omega) (by omega) HRJ.out.grown.size ?_
          intro vv w8 g1 g2 g3
          obtain ⟨a8, c8, rfl⟩ := (Rds.of_owns g1).slice
          have HX := Lib.hid (Blk.grown HX.out g2 (fun e => not_row HX.out HO.out (by decide) e.symm))
          have HBZ := Lib.hid (Blk.grown HBZ.out g2 (fun e => not_row HBZ.out HO.out (by decide) e.symm))
          have HRJ := Lib.hid (HRJ.out.putO g2 (fun b hb => (HO.out.lt b hb).1) hR HV.out)
          have HO := Lib.hid g1
          have fz := HX.out.frozen 4
          have x4 := HX.out.cell (j := 4) rfl
          refine hK _ _ ⟨_, fun _ h => h, fun _ => HX.out.cell (j := 4) rfl, ?_⟩
          clear hK K g1 g2 g3 HSRC
          try simp only [Act.put, List.setIfInBounds_toArray, List.set_cons_zero, List.set_cons_succ]
          refine wpPlanM_here ?_
          iterate 1 ((apply wpReadD_step rfl (by rfl); (· intro wS hSw; (try have hSw := hSw rfl); (try dsimp only at hSw); (try subst hSw); go_simp; (try with_reducible rfl))); try simp only [Act.put, List.setIfInBounds_toArray, List.set_cons_zero, List.set_cons_succ])
          refine wpReadD_nil ?_
          refine wpOp_list rfl (fun K hK => ?_)
          go_simp
          have hgs := grownBy_setCell w8 ⟨X, 4, none⟩ (.slice a8 (j + 1) c8)
          have HO := Lib.hid (HO.out.kept hgs (.inr (not_row HX.out HO.out (by decide))))
          have HBZ := Lib.hid (HBZ.out.setCell_other (p := ⟨X, 4, none⟩) (by exact HXB.out.symm) (.slice a8 (j + 1) c8))
          have HRJ := Lib.hid (HRJ.out.put X hgs HXS.out hR HV.out)
          have HX : Hid (Blk (w8.setCell ⟨X, 4, none⟩ (.slice a8 (j + 1) c8)) X 35 [.int .i64 k, .slice none 0 0, .slice none 0 0, .int .i64 0, .slice a8 (j + 1) c8]) := Lib.hid (HX.out.setCell 4 (.slice a8 (j + 1) c8))
          refine hK _ _ ⟨_, fun _ h => h, fun hf => (by cases hf), ?_⟩
          clear hK K hgs fz x4
          try simp only [Act.put, List.setIfInBounds_toArray, List.set_cons_zero, List.set_cons_succ]
          refine wpPlanM_nil (NoPanic.normal ?_)
          have HN2 : Hid (nsP (j + 1) p1 = (ls ++ [sj'], qj)) := Lib.hid (by rw [nsP, HNJ.out, HTJ.out, HSJ.out])
          have HO2 : Hid (World.ownsRow _ w.heap.size 3 1 (.slice a8 (j + 1) c8) (j + 1) (intsV (ls ++ [sj']))) := Lib.hid (by have := HO.out; simpa [intsV] using this)
          go_wp2_with fail
          exact ⟨⟨j + 1, v7, a8, c8, by omega, by go_num, by rw [HN2.out]; exact HRJ.out, by rw [HN2.out]; exact HO2.out, HX.out, HBZ.out⟩, by simp [intOf]; omega⟩
        · obtain rfl : j = 3 := by omega
          have x0 := HX.out.cell (j := 0) rfl
          have b0 := HBZ.out.cell (j := 0) rfl
          have f0 := HBZ.out.frozen 0
          have x1 := HX.out.cell (j := 1) rfl
          have b1 := HBZ.out.cell (j := 1) rfl
          have f1 := HBZ.out.frozen 1
          have x2 := HX.out.cell (j := 2) rfl
          have b2 := HBZ.out.cell (j := 2) rfl
          have f2 := HBZ.out.frozen 2
          have x3 := HX.out.cell (j := 3) rfl
          have b3 := HBZ.out.cell (j := 3) rfl
          have f3 := HBZ.out.frozen 3
          have x4 := HX.out.cell (j := 4) rfl
          have b4 := HBZ.out.cell (j := 4) rfl
          have f4 := HBZ.out.frozen 4
          have HSL1 : Hid (SL w wr 5 (.slice none 0 0) 0 (bytesV [])) := Lib.hid (SL.none _ _ _)
          have HSL2 : Hid (SL w wr 5 (.slice none 0 0) 0 (bytesV [])) := Lib.hid (SL.none _ _ _)
          have HSL3 := Lib.hid (SL.of_owns (w := w) HO.out (Nat.le_refl _))
          go_wp2_with fail
          have hbF := ((((HBZ.out.setCell 0 (.int .i64 k)).setCell 1 (.slice none 0 0)).setCell 2 (.slice none 0 0)).setCell 3 (.int .i64 0)).setCell 4 (.slice a6 3 c6)
          have hgF : wr.grownBy (((((wr.setCell ⟨B, 0, none⟩ (.int .i64 k)).setCell ⟨B, 1, none⟩ (.slice none 0 0)).setCell ⟨B, 2, none⟩ (.slice none 0 0)).setCell ⟨B, 3, none⟩ (.int .i64 0)).setCell ⟨B, 4, none⟩ (.slice a6 3 c6)) (some B) := grownBy_trans (grownBy_trans (grownBy_trans (grownBy_trans (grownBy_setCell _ _ _) (grownBy_setCell _ _ _)) (grownBy_setCell _ _ _)) (grownBy_setCell _ _ _)) (grownBy_setCell _ _ _)
          simp only [List.set_cons_zero, List.set_cons_succ] at hbF
          obtain ⟨wF, hwF⟩ : ∃ wF, (((((wr.setCell ⟨B, 0, none⟩ (.int .i64 k)).setCell ⟨B, 1, none⟩ (.slice none 0 0)).setCell ⟨B, 2, none⟩ (.slice none 0 0)).setCell ⟨B, 3, none⟩ (.int .i64 0)).setCell ⟨B, 4, none⟩ (.slice a6 3 c6)) = wF := ⟨_, rfl⟩
          rw [hwF] at hbF hgF ⊢
          have z0 := hbF.cell (j := 0) rfl
          have z1 := hbF.cell (j := 1) rfl
          have z2 := hbF.cell (j := 2) rfl
          have z3 := hbF.cell (j := 3) rfl
          have z4 := hbF.cell (j := 4) rfl
          have HSL1 := Lib.hid (HSL1.out.stepX hgF HBZ.out (by decide))
          have HSL2 := Lib.hid (HSL2.out.stepX hgF HBZ.out (by decide))
          have HSL3 := Lib.hid (HSL3.out.stepX hgF HBZ.out (by decide))
          have HRF := Lib.hid (HRJ.out.put B hgF HBN.out hR HV.out)
          have hRA : readA p = (⟨k, [], [], 0, ls, none, none, none, 0, 0, 0⟩, sj) := by
            rw [HRA.out]
            simp [readF, HNJ.out]
          refine bodyPost_ret (v := .agg #[.int .i64 k, .slice none 0 0, .slice none 0 0, .int .i64 0, .slice a6 3 c6]) (by simp [results, Try.results43, go_sem, z0, z1, z2, z3, z4]) rfl ?_
          refine ⟨⟨k, [], [], 0, ls, none, none, a6, 0, 0, c6⟩, v', ?_, by rw [hRA]; rfl, ⟨⟨HSL1.out.rds, HSL2.out.rds, by dsimp only; rw [HLL.out]; exact HSL3.out.rds⟩, HSL1.out.kind, HSL2.out.kind, by dsimp only; rw [HLL.out]; exact HSL3.out.kind⟩, fun b hb => ?_, by rw [hRA]; exact HRF.out⟩
          · unfold SAct.cells
            dsimp only
            rw [HLL.out]
            (try rfl)
          · rcases hb with hb | hb | hb
            · exact HSL1.out.new b hb
            · exact HSL2.out.new b hb
            · dsimp only at hb
              rw [HLL.out] at hb
              exact HSL3.out.new b hb

end Go.Proofs.Ytbjpjnkaaiajlaa
