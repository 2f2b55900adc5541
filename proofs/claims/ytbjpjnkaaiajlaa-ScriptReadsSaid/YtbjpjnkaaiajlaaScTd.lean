/- Layer 20: told: are acts the document's? -/
import Derived.Test.YtbjpjnkaaiajlaaScPk
namespace Go.Proofs.Ytbjpjnkaaiajlaa
open Go.RowKit

/-- What is known while two acts are laid into variables, whatever order is drawn. -/
structure GT (w0 : World) (cx cy : List Value) (D : Nat → Bool) (vals : Nat → Value) (W : World) : Prop where
  grown : w0.grownBy W none
  v8 : D 8 = true → ∃ b, vals 8 = .pointer (some ⟨b, 0, none⟩) ∧ w0.heap.size ≤ b ∧ (D 10 = false → Blk W b 35 [.int .i64 0, .slice none 0 0, .slice none 0 0, .int .i64 0, .slice none 0 0]) ∧ (D 10 = true → Blk W b 35 cx)
  v9 : D 9 = true → ∃ b, vals 9 = .pointer (some ⟨b, 0, none⟩) ∧ w0.heap.size ≤ b ∧ (D 11 = false → Blk W b 38 [.int .i64 0, .string ⟨#[]⟩, .string ⟨#[]⟩, .int .i64 0, .slice none 0 0]) ∧ (D 11 = true → Blk W b 38 cy)
  o10 : D 10 = true → D 8 = true ∧ D 9 = true
  o11 : D 11 = true → D 8 = true ∧ D 9 = true ∧ D 10 = true
theorem blk_apart {W : World} {a b : Nat} {e f : TypeId} {xs ys : List Value} (h : Blk W a e xs) (k : Blk W b f ys) (hn : e ≠ f) : a ≠ b := fun e' => by
  subst e'
  unfold Blk at h k
  rw [h] at k
  simp at k
  exact hn k.2
theorem GT.begin {w0 : World} {cx cy : List Value} {vals : Nat → Value} : GT w0 cx cy (fun _ => false) vals w0.drew :=
  ⟨grownBy_drewN w0 1 none, fun h => (by cases h), fun h => (by cases h), fun h => (by cases h), fun h => (by cases h)⟩
theorem GT.keep {w0 W : World} {cx cy : List Value} {D : Nat → Bool} {vals : Nat → Value} (h : GT w0 cx cy D vals W) (k : Nat) (v : Value) (hk : k < 8) : GT w0 cx cy (setD D k) (setV vals k v) W := by
  have e8 : setD D k 8 = D 8 := setD_ne (by omega)
  have e9 : setD D k 9 = D 9 := setD_ne (by omega)
  have e10 : setD D k 10 = D 10 := setD_ne (by omega)
  have e11 : setD D k 11 = D 11 := setD_ne (by omega)
  have v8 : setV vals k v 8 = vals 8 := setV_no (by omega)
  have v9 : setV vals k v 9 = vals 9 := setV_no (by omega)
  refine ⟨h.grown, ?_, ?_, ?_, ?_⟩
  · rw [e8, e10, v8]; exact h.v8
  · rw [e9, e11, v9]; exact h.v9
  · rw [e8, e9, e10]; exact h.o10
  · rw [e8, e9, e10, e11]; exact h.o11
theorem GT.off {w0 W : World} {cx cy : List Value} {D : Nat → Bool} {vals : Nat → Value} (h : GT w0 cx cy D vals W) {k : Nat} (hk : k = 8 ∨ k = 9) (hD : D k = false) : D 10 = false ∧ D 11 = false := by
  constructor
  · cases e : D 10
    · rfl
    · rcases hk with rfl | rfl
      · rw [(h.o10 e).1] at hD; cases hD
      · rw [(h.o10 e).2] at hD; cases hD
  · cases e : D 11
    · rfl
    · rcases hk with rfl | rfl
      · rw [(h.o11 e).1] at hD; cases hD
      · rw [(h.o11 e).2.1] at hD; cases hD
theorem GT.f8 {w0 W : World} {cx cy : List Value} {D : Nat → Bool} {vals : Nat → Value} (h : GT w0 cx cy D vals W) (hD : D 8 = false) : GT w0 cx cy (setD D 8) (setV vals 8 (.pointer (some ⟨W.heap.size, 0, none⟩))) (W.alloc (.cells ([.int .i64 0, .slice none 0 0, .slice none 0 0, .int .i64 0, .slice none 0 0] : List Value).toArray 35)) := by
  obtain ⟨h10, h11⟩ := h.off (.inl rfl) hD
  have hg := World.grownBy_alloc W (.cells ([.int .i64 0, .slice none 0 0, .slice none 0 0, .int .i64 0, .slice none 0 0] : List Value).toArray 35) none
  have e9 : setD D 8 9 = D 9 := setD_ne (by decide)
  have e10 : setD D 8 10 = D 10 := setD_ne (by decide)
  have e11 : setD D 8 11 = D 11 := setD_ne (by decide)
  have v9 : setV vals 8 (.pointer (some ⟨W.heap.size, 0, none⟩)) 9 = vals 9 := setV_no (by decide)
  refine ⟨grownBy_trans h.grown hg, fun _ => ⟨_, setV_at, h.grown.size, fun _ => Blk.new W _ _, fun hc => ?_⟩, ?_, ?_, ?_⟩
  · rw [e10, h10] at hc; cases hc
  · rw [e9, e11, v9]
    intro hd
    obtain ⟨b, h3, h4, h5, h6⟩ := h.v9 hd
    exact ⟨b, h3, h4, fun hs => (h5 hs).grown hg (by simp), fun hs => (h6 hs).grown hg (by simp)⟩
  · rw [e10, h10]; intro hc; cases hc
  · rw [e11, h11]; intro hc; cases hc
theorem GT.f9 {w0 W : World} {cx cy : List Value} {D : Nat → Bool} {vals : Nat → Value} (h : GT w0 cx cy D vals W) (hD : D 9 = false) : GT w0 cx cy (setD D 9) (setV vals 9 (.pointer (some ⟨W.heap.size, 0, none⟩))) (W.alloc (.cells ([.int .i64 0, .string ⟨#[]⟩, .string ⟨#[]⟩, .int .i64 0, .slice none 0 0] : List Value).toArray 38)) := by
  obtain ⟨h10, h11⟩ := h.off (.inr rfl) hD
  have hg := World.grownBy_alloc W (.cells ([.int .i64 0, .string ⟨#[]⟩, .string ⟨#[]⟩, .int .i64 0, .slice none 0 0] : List Value).toArray 38) none
  have e8 : setD D 9 8 = D 8 := setD_ne (by decide)
  have e10 : setD D 9 10 = D 10 := setD_ne (by decide)
  have e11 : setD D 9 11 = D 11 := setD_ne (by decide)
  have v8 : setV vals 9 (.pointer (some ⟨W.heap.size, 0, none⟩)) 8 = vals 8 := setV_no (by decide)
  refine ⟨grownBy_trans h.grown hg, ?_, fun _ => ⟨_, setV_at, h.grown.size, fun _ => Blk.new W _ _, fun hc => ?_⟩, ?_, ?_⟩
  · rw [e8, e10, v8]
    intro hd
    obtain ⟨b, h3, h4, h5, h6⟩ := h.v8 hd
    exact ⟨b, h3, h4, fun hs => (h5 hs).grown hg (by simp), fun hs => (h6 hs).grown hg (by simp)⟩
  · rw [e11, h11] at hc; cases hc
  · rw [e10, h10]; intro hc; cases hc
  · rw [e11, h11]; intro hc; cases hc
theorem GT.s10 {w0 W W' : World} {cx cy : List Value} {D : Nat → Bool} {vals : Nat → Value} (h : GT w0 cx cy D vals W) (b : Nat) (h8 : D 8 = true) (h9 : D 9 = true) (hD : D 10 = false) (hv : vals 8 = .pointer (some ⟨b, 0, none⟩)) (hn : w0.heap.size ≤ b) (hW : Blk W' b 35 cx) (hg : W.grownBy W' (some b)) : GT w0 cx cy (setD D 10) (setV vals 10 undef) W' := by
  have h11 : D 11 = false := by
    cases e : D 11
    · rfl
    · rw [(h.o11 e).2.2] at hD; cases hD
  have e8 : setD D 10 8 = D 8 := setD_ne (by decide)
  have e9 : setD D 10 9 = D 9 := setD_ne (by decide)
  have e11 : setD D 10 11 = D 11 := setD_ne (by decide)
  have v8 : setV vals 10 undef 8 = vals 8 := setV_no (by decide)
  have v9 : setV vals 10 undef 9 = vals 9 := setV_no (by decide)
  refine ⟨grownBy_base2 h.grown hg hn, fun _ => ⟨b, by rw [v8]; exact hv, hn, fun hc => ?_, fun _ => hW⟩, ?_, fun _ => ⟨by rw [e8]; exact h8, by rw [e9]; exact h9⟩, ?_⟩
  · rw [setD_eq] at hc; cases hc
  · rw [e9, e11, v9]
    intro hd
    obtain ⟨c, h3, h4, h5, h6⟩ := h.v9 hd
    obtain ⟨b', k3, k4, k5, k6⟩ := h.v8 h8
    have hbb : b' = b := by rw [hv] at k3; simp at k3; exact k3.symm
    subst hbb
    exact ⟨c, h3, h4, fun hs => (h5 hs).grown hg (by simp; exact blk_apart (h5 hs) (k5 hD) (by decide)), fun hs => by rw [h11] at hs; cases hs⟩
  · rw [e11, h11]; intro hc; cases hc
theorem GT.s11 {w0 W W' : World} {cx cy : List Value} {D : Nat → Bool} {vals : Nat → Value} (h : GT w0 cx cy D vals W) (c : Nat) (h8 : D 8 = true) (h9 : D 9 = true) (h10 : D 10 = true) (hD : D 11 = false) (hv : vals 9 = .pointer (some ⟨c, 0, none⟩)) (hn : w0.heap.size ≤ c) (hW : Blk W' c 38 cy) (hg : W.grownBy W' (some c)) : GT w0 cx cy (setD D 11) (setV vals 11 undef) W' := by
  have e8 : setD D 11 8 = D 8 := setD_ne (by decide)
  have e9 : setD D 11 9 = D 9 := setD_ne (by decide)
  have e10 : setD D 11 10 = D 10 := setD_ne (by decide)
  have v8 : setV vals 11 undef 8 = vals 8 := setV_no (by decide)
  have v9 : setV vals 11 undef 9 = vals 9 := setV_no (by decide)
  refine ⟨grownBy_base2 h.grown hg hn, ?_, fun _ => ⟨c, by rw [v9]; exact hv, hn, fun hc => ?_, fun _ => hW⟩, fun _ => ⟨by rw [e8]; exact h8, by rw [e9]; exact h9⟩, fun _ => ⟨by rw [e8]; exact h8, by rw [e9]; exact h9, by rw [e10]; exact h10⟩⟩
  · rw [e8, e10, v8]
    intro hd
    obtain ⟨b, h3, h4, h5, h6⟩ := h.v8 hd
    obtain ⟨c', k3, k4, k5, k6⟩ := h.v9 h9
    have hbb : c' = c := by rw [hv] at k3; simp at k3; exact k3.symm
    subst hbb
    exact ⟨b, h3, h4, fun hs => (by rw [h10] at hs; cases hs), fun hs => (h6 hs).grown hg (by simp; exact blk_apart (h6 hs) (k5 hD) (by decide))⟩
  · rw [setD_eq] at hc; cases hc


set_option maxRecDepth 100000 in
set_option maxHeartbeats 8000000 in
theorem told_yes (l l' : List SAct) (a a' : Option Addr) (c c' : Nat) (w : World) (hd : l.map SAct.data = l'.map SAct.data) (hr : Rds w 5 (.slice a l.length c) l.length (sactsV l)) (hg : ∀ x ∈ l, x.good w) (hr' : Rds w 5 (.slice a' l'.length c') l'.length (ractsV l')) (hg' : ∀ x ∈ l', Rds w 1 (.slice x.na x.ns.length x.nc) x.ns.length (intsV x.ns)) :
    Calls Try.prog 20 #[.slice a l.length c, .slice a' l'.length c'] w fun e w' => e = .returned (.bool true) ∧ w.grownBy w' none := by
  have hll := len_same hd
  have hm := hr.2.1
  unfold maxLen at hm
  have HLL := Lib.hid hll
  rw [← hll] at hr' ⊢
  have HR := Lib.hid hr
  have HR' := Lib.hid hr'
  have HG := Lib.hid hg
  have HG' := Lib.hid hg'
  have HD := Lib.hid hd
  have hnl : ((l.length : Int) != (l.length : Int)) = false := by simp
  clear hr hr' hg hg' hd hll
  go_enter Try.func20, Try.ntmps20
  go_wp2_with fail
  go_loopw [5] (fun i wr => ∃ j : Nat, j ≤ l.length ∧ i = .int .i64 j ∧ w.grownBy wr none) (fun i _ => l.length - (intOf i).toNat)
  case atStart => exact ⟨0, by omega, rfl, grownBy_refl _ _⟩
  case round =>
    obtain ⟨j, hj, rfl, hgr⟩ := hrel
    by_cases hlt : j < l.length
    · obtain ⟨b, o, rfl, hc⟩ := HR.out.at' (by omega)
      obtain ⟨b', o', rfl, hc'⟩ := HR'.out.at' (by omega)
      have x0 := hgr.cell (hc _ _ (sactsV_get l j 0 hlt (by omega))) (by simp)
      have x1 := hgr.cell (hc _ _ (sactsV_get l j 1 hlt (by omega))) (by simp)
      have x2 := hgr.cell (hc _ _ (sactsV_get l j 2 hlt (by omega))) (by simp)
      have x3 := hgr.cell (hc _ _ (sactsV_get l j 3 hlt (by omega))) (by simp)
      have x4 := hgr.cell (hc _ _ (sactsV_get l j 4 hlt (by omega))) (by simp)
      have y0 := hgr.cell (hc' _ _ (ractsV_get l' j 0 (by have := HLL.out; omega) (by omega))) (by simp)
      have y1 := hgr.cell (hc' _ _ (ractsV_get l' j 1 (by have := HLL.out; omega) (by omega))) (by simp)
      have y2 := hgr.cell (hc' _ _ (ractsV_get l' j 2 (by have := HLL.out; omega) (by omega))) (by simp)
      have y3 := hgr.cell (hc' _ _ (ractsV_get l' j 3 (by have := HLL.out; omega) (by omega))) (by simp)
      have y4 := hgr.cell (hc' _ _ (ractsV_get l' j 4 (by have := HLL.out; omega) (by omega))) (by simp)
      simp only [← Nat.add_assoc, Nat.add_zero] at x0 x1 x2 x3 x4 y0 y1 y2 y3 y4
      have hgd := (HG.out _ (sact_mem l j hlt)).grown hgr
      have hgd' := (HG'.out _ (sact_mem l' j (by have := HLL.out; omega))).grown hgr (by simp)
      have hda : (l.getD j default).data = (l'.getD j default).data := by
        have h1 := congrArg (fun m : List SAct => m.getD j default) HD.out
        simpa [List.getD, hlt, show j < l'.length by have := HLL.out; omega] using h1
      obtain ⟨x, hx⟩ : ∃ x, l.getD j default = x := ⟨_, rfl⟩
      obtain ⟨y, hy⟩ : ∃ y, l'.getD j default = y := ⟨_, rfl⟩
      rw [hx] at x0 x1 x2 x3 x4 hgd hda
      rw [hy] at y0 y1 y2 y3 y4 hgd' hda
      obtain ⟨k, key, val, n, ns, ka, va, na, kc, vc, nc⟩ := x
      obtain ⟨k', key', val', n', ns', ka', va', na', kc', vc', nc'⟩ := y
      unfold SAct.data at hda
      simp only [SAct.mk.injEq] at hda
      obtain ⟨h1, h2, h3, h4, h5, _⟩ := hda
      subst h1 h2 h3 h4 h5
      dsimp only at x0 x1 x2 x3 x4 y0 y1 y2 y3 y4 hgd'
      have HKEY := Lib.hid hgd.key
      have HVAL := Lib.hid hgd.val
      have HNS := Lib.hid hgd.ns
      have HNS' := Lib.hid hgd'
      dsimp only at HKEY HVAL HNS
      have hnm := hgd.ns.2.1
      unfold maxLen at hnm
      dsimp only at hnm
      have HG1 := Lib.hid hgr
      clear hc hc' hx hy hgd hgd' hgr
      have hji : (j : Int) < (l.length : Int) := by omega
      have hj0 : (0 : Int) ≤ (j : Int) := by omega
      go_wp2_with fail
      refine wp_region_FG (fun i v => match i with
          | 0 => v = .slice (some ⟨b, o, none⟩) l.length c
          | 1 => v = .int .i64 j
          | 2 => v = .pointer (some ⟨b, o + j * 5, none⟩)
          | 3 => v = .agg #[.int .i64 k, .slice ka key.length kc, .slice va val.length vc, .int .i64 n, .slice na ns.length nc]
          | 4 => v = .slice (some ⟨b', o', none⟩) l.length c'
          | 5 => v = .int .i64 j
          | 6 => v = .pointer (some ⟨b', o' + j * 5, none⟩)
          | 7 => v = .agg #[.int .i64 k, .string (strN key), .string (strN val), .int .i64 n, .slice na' ns.length nc']
          | _ => True) (GT wr [.int .i64 k, .slice ka key.length kc, .slice va val.length vc, .int .i64 n, .slice na ns.length nc] [.int .i64 k, .string (strN key), .string (strN val), .int .i64 n, .slice na' ns.length nc']) [[], [], [0, 1], [0, 1, 2], [], [], [4, 5], [4, 5, 6], [], [], [0, 1, 2, 3, 8, 9], [0, 1, 2, 3, 4, 5, 6, 7, 8, 9, 10]] (by kernel_rfl) (by kernel_rfl) (fun vals => GT.begin) ?xobs ?xend
      case xobs =>
        refine fgObs_cons (fun D vals W hG hD hC => ?_) (fgObs_cons (fun D vals W hG hD hC => ?_) (fgObs_cons (fun D vals W hG hD hC => ?_) (fgObs_cons (fun D vals W hG hD hC => ?_) (fgObs_cons (fun D vals W hG hD hC => ?_) (fgObs_cons (fun D vals W hG hD hC => ?_) (fgObs_cons (fun D vals W hG hD hC => ?_) (fgObs_cons (fun D vals W hG hD hC => ?_) (fgObs_cons (fun D vals W hG hD hC => ?_) (fgObs_cons (fun D vals W hG hD hC => ?_) (fgObs_cons (fun D vals W hG hD hC => ?_) (fgObs_cons (fun D vals W hG hD hC => ?_) (fgObs_nil))))))))))))
        case _ =>
          have q0 := hG.grown.cell x0 (by simp); have q1 := hG.grown.cell x1 (by simp); have q2 := hG.grown.cell x2 (by simp); have q3 := hG.grown.cell x3 (by simp); have q4 := hG.grown.cell x4 (by simp)
          have r0 := hG.grown.cell y0 (by simp); have r1 := hG.grown.cell y1 (by simp); have r2 := hG.grown.cell y2 (by simp); have r3 := hG.grown.cell y3 (by simp); have r4 := hG.grown.cell y4 (by simp)
          (repeat (refine givenV_step rfl (fun v h hv => ?_); (try dsimp only at h); first | subst h | (clear h; subst hv)))
          refine givenV_nil ?_
          (try simp only [Act.put, List.setIfInBounds_toArray, List.set_cons_zero, List.set_cons_succ])
          refine free_read rfl (by rfl) (v := _) ?_ ⟨rfl, hG.keep 0 _ (by decide)⟩
          go_simp
          (try with_reducible rfl)
        case _ =>
          have q0 := hG.grown.cell x0 (by simp); have q1 := hG.grown.cell x1 (by simp); have q2 := hG.grown.cell x2 (by simp); have q3 := hG.grown.cell x3 (by simp); have q4 := hG.grown.cell x4 (by simp)
          have r0 := hG.grown.cell y0 (by simp); have r1 := hG.grown.cell y1 (by simp); have r2 := hG.grown.cell y2 (by simp); have r3 := hG.grown.cell y3 (by simp); have r4 := hG.grown.cell y4 (by simp)
          (repeat (refine givenV_step rfl (fun v h hv => ?_); (try dsimp only at h); first | subst h | (clear h; subst hv)))
          refine givenV_nil ?_
          (try simp only [Act.put, List.setIfInBounds_toArray, List.set_cons_zero, List.set_cons_succ])
          refine free_read rfl (by rfl) (v := _) ?_ ⟨rfl, hG.keep 1 _ (by decide)⟩
          go_simp
          (try with_reducible rfl)
        case _ =>
          have q0 := hG.grown.cell x0 (by simp); have q1 := hG.grown.cell x1 (by simp); have q2 := hG.grown.cell x2 (by simp); have q3 := hG.grown.cell x3 (by simp); have q4 := hG.grown.cell x4 (by simp)
          have r0 := hG.grown.cell y0 (by simp); have r1 := hG.grown.cell y1 (by simp); have r2 := hG.grown.cell y2 (by simp); have r3 := hG.grown.cell y3 (by simp); have r4 := hG.grown.cell y4 (by simp)
          (repeat (refine givenV_step rfl (fun v h hv => ?_); (try dsimp only at h); first | subst h | (clear h; subst hv)))
          refine givenV_nil ?_
          (try simp only [Act.put, List.setIfInBounds_toArray, List.set_cons_zero, List.set_cons_succ])
          refine free_read rfl (by rfl) (v := _) ?_ ⟨rfl, hG.keep 2 _ (by decide)⟩
          go_simp
          (try with_reducible rfl)
        case _ =>
          have q0 := hG.grown.cell x0 (by simp); have q1 := hG.grown.cell x1 (by simp); have q2 := hG.grown.cell x2 (by simp); have q3 := hG.grown.cell x3 (by simp); have q4 := hG.grown.cell x4 (by simp)
          have r0 := hG.grown.cell y0 (by simp); have r1 := hG.grown.cell y1 (by simp); have r2 := hG.grown.cell y2 (by simp); have r3 := hG.grown.cell y3 (by simp); have r4 := hG.grown.cell y4 (by simp)
          (repeat (refine givenV_step rfl (fun v h hv => ?_); (try dsimp only at h); first | subst h | (clear h; subst hv)))
          refine givenV_nil ?_
          (try simp only [Act.put, List.setIfInBounds_toArray, List.set_cons_zero, List.set_cons_succ])
          refine free_read rfl (by rfl) (v := _) ?_ ⟨rfl, hG.keep 3 _ (by decide)⟩
          go_simp
          (try with_reducible rfl)
        case _ =>
          have q0 := hG.grown.cell x0 (by simp); have q1 := hG.grown.cell x1 (by simp); have q2 := hG.grown.cell x2 (by simp); have q3 := hG.grown.cell x3 (by simp); have q4 := hG.grown.cell x4 (by simp)
          have r0 := hG.grown.cell y0 (by simp); have r1 := hG.grown.cell y1 (by simp); have r2 := hG.grown.cell y2 (by simp); have r3 := hG.grown.cell y3 (by simp); have r4 := hG.grown.cell y4 (by simp)
          (repeat (refine givenV_step rfl (fun v h hv => ?_); (try dsimp only at h); first | subst h | (clear h; subst hv)))
          refine givenV_nil ?_
          (try simp only [Act.put, List.setIfInBounds_toArray, List.set_cons_zero, List.set_cons_succ])
          refine free_read rfl (by rfl) (v := _) ?_ ⟨rfl, hG.keep 4 _ (by decide)⟩
          go_simp
          (try with_reducible rfl)
        case _ =>
          have q0 := hG.grown.cell x0 (by simp); have q1 := hG.grown.cell x1 (by simp); have q2 := hG.grown.cell x2 (by simp); have q3 := hG.grown.cell x3 (by simp); have q4 := hG.grown.cell x4 (by simp)
          have r0 := hG.grown.cell y0 (by simp); have r1 := hG.grown.cell y1 (by simp); have r2 := hG.grown.cell y2 (by simp); have r3 := hG.grown.cell y3 (by simp); have r4 := hG.grown.cell y4 (by simp)
          (repeat (refine givenV_step rfl (fun v h hv => ?_); (try dsimp only at h); first | subst h | (clear h; subst hv)))
          refine givenV_nil ?_
          (try simp only [Act.put, List.setIfInBounds_toArray, List.set_cons_zero, List.set_cons_succ])
          refine free_read rfl (by rfl) (v := _) ?_ ⟨rfl, hG.keep 5 _ (by decide)⟩
          go_simp
          (try with_reducible rfl)
        case _ =>
          have q0 := hG.grown.cell x0 (by simp); have q1 := hG.grown.cell x1 (by simp); have q2 := hG.grown.cell x2 (by simp); have q3 := hG.grown.cell x3 (by simp); have q4 := hG.grown.cell x4 (by simp)
          have r0 := hG.grown.cell y0 (by simp); have r1 := hG.grown.cell y1 (by simp); have r2 := hG.grown.cell y2 (by simp); have r3 := hG.grown.cell y3 (by simp); have r4 := hG.grown.cell y4 (by simp)
          (repeat (refine givenV_step rfl (fun v h hv => ?_); (try dsimp only at h); first | subst h | (clear h; subst hv)))
          refine givenV_nil ?_
          (try simp only [Act.put, List.setIfInBounds_toArray, List.set_cons_zero, List.set_cons_succ])
          refine free_read rfl (by rfl) (v := _) ?_ ⟨rfl, hG.keep 6 _ (by decide)⟩
          go_simp
          (try with_reducible rfl)
        case _ =>
          have q0 := hG.grown.cell x0 (by simp); have q1 := hG.grown.cell x1 (by simp); have q2 := hG.grown.cell x2 (by simp); have q3 := hG.grown.cell x3 (by simp); have q4 := hG.grown.cell x4 (by simp)
          have r0 := hG.grown.cell y0 (by simp); have r1 := hG.grown.cell y1 (by simp); have r2 := hG.grown.cell y2 (by simp); have r3 := hG.grown.cell y3 (by simp); have r4 := hG.grown.cell y4 (by simp)
          (repeat (refine givenV_step rfl (fun v h hv => ?_); (try dsimp only at h); first | subst h | (clear h; subst hv)))
          refine givenV_nil ?_
          (try simp only [Act.put, List.setIfInBounds_toArray, List.set_cons_zero, List.set_cons_succ])
          refine free_read rfl (by rfl) (v := _) ?_ ⟨rfl, hG.keep 7 _ (by decide)⟩
          go_simp
          (try with_reducible rfl)
        case _ =>
          refine givenV_nil ?_
          (try simp only [Act.put, List.setIfInBounds_toArray, List.set_cons_zero, List.set_cons_succ])
          refine wpOp_list rfl (fun K hK => ?_)
          go_simp
          exact hK _ _ ⟨_, rfl, True.intro, hG.f8 hD⟩
        case _ =>
          refine givenV_nil ?_
          (try simp only [Act.put, List.setIfInBounds_toArray, List.set_cons_zero, List.set_cons_succ])
          refine wpOp_list rfl (fun K hK => ?_)
          go_simp
          exact hK _ _ ⟨_, rfl, True.intro, hG.f9 hD⟩
        case _ =>
          obtain ⟨fb, hvf, hnf, hbf, _⟩ := hG.v8 (hC 8 (by simp))
          have hbf := hbf hD
          have f0 := hbf.frozen 0; have f1 := hbf.frozen 1; have f2 := hbf.frozen 2; have f3 := hbf.frozen 3; have f4 := hbf.frozen 4
          have g0 := hbf.cell (j := 0) rfl; have g1 := hbf.cell (j := 1) rfl; have g2 := hbf.cell (j := 2) rfl; have g3 := hbf.cell (j := 3) rfl; have g4 := hbf.cell (j := 4) rfl
          (repeat (refine givenV_step rfl (fun v h hv => ?_); (try dsimp only at h); first | subst h | (clear h; subst hv)))
          refine givenV_nil ?_
          (try simp only [Act.put, List.setIfInBounds_toArray, List.set_cons_zero, List.set_cons_succ])
          (try rw [hvf])
          refine wpOp_list rfl (fun K hK => ?_)
          go_simp
          refine hK _ _ ⟨undef, rfl, True.intro, hG.s10 fb (hC 8 (by simp)) (hC 9 (by simp)) hD hvf hnf ?_ ?_⟩
          · exact ((((hbf.setCell 0 _).setCell 1 _).setCell 2 _).setCell 3 _).setCell 4 _
          · exact grownBy_trans (grownBy_trans (grownBy_trans (grownBy_trans (grownBy_setCell _ _ _) (grownBy_setCell _ _ _)) (grownBy_setCell _ _ _)) (grownBy_setCell _ _ _)) (grownBy_setCell _ _ _)
        case _ =>
          obtain ⟨fb, hvf, hnf, hbf, _⟩ := hG.v9 (hC 9 (by simp))
          have hbf := hbf hD
          have f0 := hbf.frozen 0; have f1 := hbf.frozen 1; have f2 := hbf.frozen 2; have f3 := hbf.frozen 3; have f4 := hbf.frozen 4
          have g0 := hbf.cell (j := 0) rfl; have g1 := hbf.cell (j := 1) rfl; have g2 := hbf.cell (j := 2) rfl; have g3 := hbf.cell (j := 3) rfl; have g4 := hbf.cell (j := 4) rfl
          (repeat (refine givenV_step rfl (fun v h hv => ?_); (try dsimp only at h); first | subst h | (clear h; subst hv)))
          refine givenV_nil ?_
          (try simp only [Act.put, List.setIfInBounds_toArray, List.set_cons_zero, List.set_cons_succ])
          (try rw [hvf])
          refine wpOp_list rfl (fun K hK => ?_)
          go_simp
          refine hK _ _ ⟨undef, rfl, True.intro, hG.s11 fb (hC 8 (by simp)) (hC 9 (by simp)) (hC 10 (by simp)) hD hvf hnf ?_ ?_⟩
          · exact ((((hbf.setCell 0 _).setCell 1 _).setCell 2 _).setCell 3 _).setCell 4 _
          · exact grownBy_trans (grownBy_trans (grownBy_trans (grownBy_trans (grownBy_setCell _ _ _) (grownBy_setCell _ _ _)) (grownBy_setCell _ _ _)) (grownBy_setCell _ _ _)) (grownBy_setCell _ _ _)
      case xend =>
        intro D vals W hG hD
        obtain ⟨p8, e8, s8, _, hb8⟩ := hG.v8 (hD 8 (by decide))
        obtain ⟨p9, e9, s9, _, hb9⟩ := hG.v9 (hD 9 (by decide))
        have hb8 := hb8 (hD 10 (by decide))
        have hb9 := hb9 (hD 11 (by decide))
        have hgW := hG.grown
        (repeat (refine givenV_step rfl (fun v h hv => ?_); (try dsimp only at h); first | subst h | (clear h; subst hv)))
        refine givenV_nil ?_
        (try simp only [Act.put, List.setIfInBounds_toArray, List.set_cons_zero, List.set_cons_succ])
        rw [e8, e9]
        clear e8 e9 hG hD x0 x1 x2 x3 x4 y0 y1 y2 y3 y4
        have hcv1 := conv_rds (HKEY.out.grown hgW (by simp))
        have hcv2 := conv_rds (HVAL.out.grown hgW (by simp))
        have hs1 := strN_beq key
        have hs2 := strN_beq val
        have hk1 : (k != k) = false := by simp
        have hn1 : (n != n) = false := by simp
        have hs1n : ((strN key).toList != (strN key).toList) = false := by simp
        have hs2n : ((strN val).toList != (strN val).toList) = false := by simp
        have hl1 : ((ns.length : Int) != (ns.length : Int)) = false := by simp
        have x0 := hb8.cell (j := 0) rfl; have x1 := hb8.cell (j := 1) rfl; have x2 := hb8.cell (j := 2) rfl; have x3 := hb8.cell (j := 3) rfl; have x4 := hb8.cell (j := 4) rfl
        have y0 := hb9.cell (j := 0) rfl; have y1 := hb9.cell (j := 1) rfl; have y2 := hb9.cell (j := 2) rfl; have y3 := hb9.cell (j := 3) rfl; have y4 := hb9.cell (j := 4) rfl
        have HB8 := Lib.hid hb8
        have HB9 := Lib.hid hb9
        have HGW := Lib.hid hgW
        clear hb8 hb9 hgW
        go_wp2_with fail
        go_loopw [8] (fun i wq => ∃ p : Nat, p ≤ ns.length ∧ i = .int .i64 p ∧ W.grownBy wq none) (fun i _ => ns.length - (intOf i).toNat)
        case atStart => exact ⟨0, by omega, rfl, grownBy_refl _ _⟩
        case round =>
          obtain ⟨p, hp, rfl, hgq⟩ := hrel
          clear x0 x1 x2 x3 x4 y0 y1 y2 y3 y4 hcv1 hcv2
          have x4 := (HB8.out.grown hgq (by simp)).cell (j := 4) rfl
          have y4 := (HB9.out.grown hgq (by simp)).cell (j := 4) rfl
          by_cases hlp : p < ns.length
          · obtain ⟨nb, no, rfl, hc⟩ := ((HNS.out.grown HGW.out (by simp)).grown hgq (by simp)).at' (by omega)
            obtain ⟨nb', no', rfl, hc'⟩ := ((HNS'.out.grown HGW.out (by simp)).grown hgq (by simp)).at' (by omega)
            have z0 := hc p (.int .i64 (ns.getD p 0)) (by simp [intsV, hlp, List.getD])
            have z1 := hc' p (.int .i64 (ns.getD p 0)) (by simp [intsV, hlp, List.getD])
            obtain ⟨z, hz⟩ : ∃ z, ns.getD p 0 = z := ⟨_, rfl⟩
            rw [hz] at z0 z1
            have hzz : (z != z) = false := by simp
            have HGQ := Lib.hid hgq
            clear hc hc' hz hgq
            have hpi : (p : Int) < (ns.length : Int) := by omega
            have hp0 : (0 : Int) ≤ (p : Int) := by omega
            go_wp2_with fail
            go_quiet (fail)
            go_wp2_with fail
            exact ⟨⟨p + 1, by omega, by go_num, grownBy_trans HGQ.out (grownBy_drewN _ _ _)⟩, by simp [intOf]; omega⟩
          · obtain rfl : p = ns.length := by omega
            have HGQ := Lib.hid hgq
            clear hgq
            go_wp2_with fail
            exact ⟨⟨j + 1, by omega, by go_num, grownBy_trans HG1.out (grownBy_trans HGW.out HGQ.out)⟩, by simp [intOf]; omega⟩
    · obtain rfl : j = l.length := by omega
      have HG1 := Lib.hid hgr
      clear hgr
      go_wp2_with fail
      go_ret
      exact ⟨rfl, HG1.out⟩

end Go.Proofs.Ytbjpjnkaaiajlaa
