/- Layer 2: MixSeeds: two chains of appends in one region that draws its order. -/
import Derived.Test.YtnlcjelmdfjkcaaRefBits4
import Derived.Test.YtnlcjelmdfjkcaaMixI
import Derived.Test.YtnlcjelmdfjkcaaFreeG
import Derived.Test.YtnlcjelmdfjkcaaStepApp
import Derived.Test.YtnlcjelmdfjkcaaGrown
import Derived.Test.YtnlcjelmdfjkcaaArg2
import Derived.Test.YtnlcjelmdfjkcaaArgBs
namespace Go.Proofs.Ytnlcjelmdfjkcaa
open Go.RowKit Go.WideShapes Go.ChangeShapes Go.ChangeAt

/-- Which operations make a row, and which takes it over. -/
def ownerS (j : Nat) : Bool := [true, false, true, false, false, true, true, true, false, true, false, false, true, true, true, true].getD j false
def nextS (j : Nat) : Nat := [2, 98, 6, 98, 98, 6, 14, 9, 98, 13, 98, 98, 13, 15, 98, 98].getD j 98
def liveS (D : Nat → Bool) (j : Nat) : Bool := ownerS j && D j && !D (nextS j)
def contS (xs : List Nat) (x y : Nat) (j : Nat) : List Nat := [[], [], xs, [], [], [x], xs ++ [x], [], [], xs, [], [], [y], xs ++ [y], xs ++ [x], xs ++ [y]].getD j []
structure GI (w0 : World) (c : Nat → List Nat) (D : Nat → Bool) (vals : Nat → Value) (w : World) : Prop where
  grown : w0.grownBy w none
  own : ∀ j, liveS D j = true → w.ownsRow w0.heap.size 5 1 (vals j) (c j).length (bytesV (c j))
  apart : ∀ i j, i ≠ j → liveS D i = true → liveS D j = true → ∀ b, (vals i).ownBlock = some b → (vals j).ownBlock ≠ some b
  z : D 98 = false
theorem liveS_step {D : Nat → Bool} {k j : Nat} (h : liveS (setD D k) j = true) : (j = k ∧ ownerS k = true) ∨ (j ≠ k ∧ liveS D j = true ∧ nextS j ≠ k) := by
  unfold liveS setD at h
  simp only [Bool.and_eq_true, Bool.or_eq_true, beq_iff_eq, Bool.not_eq_true', Bool.or_eq_false_iff, beq_eq_false_iff_ne] at h
  obtain ⟨⟨h1, h2⟩, h3, h4⟩ := h
  by_cases e : j = k
  · subst e; exact .inl ⟨rfl, h1⟩
  · refine .inr ⟨e, ?_, h3⟩
    unfold liveS
    rcases h2 with h2 | h2
    · exact absurd h2 e
    · rw [h1, h2, h4]; rfl
theorem setV_ne {vals : Nat → Value} {i j : Nat} {v : Value} (h : j ≠ i) : setV vals i v j = vals j := by unfold setV; rw [if_neg h]
theorem setV_eq {vals : Nat → Value} {i : Nat} {v : Value} : setV vals i v i = v := by unfold setV; rw [if_pos rfl]
theorem setD_98 {D : Nat → Bool} {k : Nat} (h : D 98 = false) (hk : k < 98) : setD D k 98 = false := by
  unfold setD
  rw [h, Bool.or_false]
  exact beq_eq_false_iff_ne.2 (by omega)
theorem GI.keep {w0 w : World} {c : Nat → List Nat} {D : Nat → Bool} {vals : Nat → Value} (h : GI w0 c D vals w) (k : Nat) (v : Value) (hk : k < 98) (ho : ownerS k = false) : GI w0 c (setD D k) (setV vals k v) w := by
  have key : ∀ j, liveS (setD D k) j = true → j ≠ k ∧ liveS D j = true := fun j hj => by
    rcases liveS_step hj with ⟨_, h2⟩ | ⟨h1, h2, _⟩
    · rw [ho] at h2; cases h2
    · exact ⟨h1, h2⟩
  refine ⟨h.grown, fun j hj => ?_, fun i j hij hi hj b hb => ?_, setD_98 h.z hk⟩
  · rw [setV_ne (key j hj).1]
    exact h.own j (key j hj).2
  · rw [setV_ne (key i hi).1] at hb
    rw [setV_ne (key j hj).1]
    exact h.apart i j hij (key i hi).2 (key j hj).2 b hb
theorem GI.new {w0 w : World} {c : Nat → List Nat} {D : Nat → Bool} {vals : Nat → Value} (h : GI w0 c D vals w) (k : Nat) (cs : Array Value) (n : Nat) (hk : k < 98) (hc : cs.toList = bytesV (c k)) (hn : (c k).length = n) (hm : n ≤ maxLen) : GI w0 c (setD D k) (setV vals k (.slice (some ⟨w.heap.size, 0, none⟩) n n)) (w.alloc (.cells cs 5)) := by
  subst hn
  have hg := World.grownBy_alloc w (.cells cs 5) none
  have hs : cs.size = (c k).length * 1 := by rw [← Array.length_toList, hc, bytesV_len, Nat.mul_one]
  refine ⟨grownBy_trans h.grown hg, fun j hj => ?_, fun i j hij hi hj b hb => ?_, setD_98 h.z hk⟩
  · rcases liveS_step hj with ⟨rfl, _⟩ | ⟨h1, h2, _⟩
    · rw [setV_eq, ← hc]
      have := World.ownsRow_lit w cs (base := w0.heap.size) (e := 5) (size := 1) (c j).length h.grown.size hm hs
      exact this
    · rw [setV_ne h1]
      exact owns_grown (h.own j h2) hg
  · rcases liveS_step hi with ⟨rfl, _⟩ | ⟨h1, h2, _⟩
    · rw [setV_eq] at hb
      rcases liveS_step hj with ⟨rfl, _⟩ | ⟨h3, h4, _⟩
      · exact absurd rfl hij
      · rw [setV_ne h3]
        intro e
        have := ((h.own j h4).lt b e).2
        simp [Value.ownBlock] at hb
        omega
    · rw [setV_ne h1] at hb
      rcases liveS_step hj with ⟨rfl, _⟩ | ⟨h3, h4, _⟩
      · rw [setV_eq]
        intro e
        have := ((h.own i h2).lt b hb).2
        simp [Value.ownBlock] at e
        omega
      · rw [setV_ne h3]
        exact h.apart i j hij h2 h4 b hb
theorem GI.app {w0 w w' : World} {c : Nat → List Nat} {D : Nat → Bool} {vals : Nat → Value} (h : GI w0 c D vals w) (k i : Nat) (v' : Value) (hk : k < 98) (hi : nextS i = k) (hl : liveS D i = true) (hown : w'.ownsRow w0.heap.size 5 1 v' (c k).length (bytesV (c k))) (hg : w.grownBy w' (vals i).ownBlock) (hb' : v'.ownBlock = (vals i).ownBlock ∨ v'.ownBlock = some w.heap.size) : GI w0 c (setD D k) (setV vals k v') w' := by
  have key : ∀ j, j ≠ k → liveS D j = true → nextS j ≠ k → j ≠ i := fun j _ _ h3 e => h3 (by rw [e]; exact hi)
  have far : ∀ j, liveS D j = true → j ≠ i → ∀ b, v'.ownBlock = some b → (vals j).ownBlock ≠ some b := fun j hj hji b hb e => by
    rcases hb' with h1 | h1
    · exact h.apart i j (Ne.symm hji) hl hj b (h1 ▸ hb) e
    · have := ((h.own j hj).lt b e).2
      rw [h1] at hb
      simp at hb
      omega
  refine ⟨grownBy_own2 h.grown (h.own i hl) (Nat.le_refl _) hg, fun j hj => ?_, fun p q hpq hp hq b hb => ?_, setD_98 h.z hk⟩
  · rcases liveS_step hj with ⟨rfl, _⟩ | ⟨h1, h2, h3⟩
    · rw [setV_eq]; exact hown
    · rw [setV_ne h1]
      refine (h.own j h2).kept hg ?_
      rcases hv : (vals j).ownBlock with _ | b
      · exact .inl rfl
      · exact .inr (fun e => h.apart i j (Ne.symm (key j h1 h2 h3)) hl h2 b e.symm hv)
  · rcases liveS_step hp with ⟨rfl, _⟩ | ⟨h1, h2, h3⟩
    · rw [setV_eq] at hb
      rcases liveS_step hq with ⟨rfl, _⟩ | ⟨h4, h5, h6⟩
      · exact absurd rfl hpq
      · rw [setV_ne h4]
        exact far q h5 (key q h4 h5 h6) b hb
    · rw [setV_ne h1] at hb
      rcases liveS_step hq with ⟨rfl, _⟩ | ⟨h4, h5, h6⟩
      · rw [setV_eq]
        exact fun e => far p h2 (key p h1 h2 h3) b e hb
      · rw [setV_ne h4]
        exact h.apart p q hpq h2 h5 b hb
theorem GI.move {w0 w : World} {c : Nat → List Nat} {D : Nat → Bool} {vals : Nat → Value} (h : GI w0 c D vals w) (k i : Nat) (hk : k < 98) (hi : nextS i = k) (hl : liveS D i = true) (hc : c k = c i) : GI w0 c (setD D k) (setV vals k (vals i)) w :=
  h.app k i (vals i) hk hi hl (by rw [hc]; exact h.own i hl) (grownBy_refl _ _) (.inl rfl)
/-- An operation whose taker is not done. -/
theorem GI.alive {w0 w : World} {c : Nat → List Nat} {D : Nat → Bool} {vals : Nat → Value} (_h : GI w0 c D vals w) (i : Nat) (ho : ownerS i = true) (hd : D i = true) (hn : D (nextS i) = false) : liveS D i = true := by
  unfold liveS
  rw [ho, hd, hn]; rfl

theorem infoByteS : (Try.prog.info? 5).map (fun i => (i.zero, i.size, i.bytes)) = some (some (.int .u8 0), 1, 1) := by kernel_rfl
theorem bytesV_two (xs : List Nat) (x : Nat) : bytesV xs ++ bytesV [x] = bytesV (xs ++ [x]) := by simp [bytesV]

set_option maxRecDepth 100000 in
set_option maxHeartbeats 8000000 in
theorem mixSeeds_walk0 (s t : BitVec 64) (xs : List Nat) (a : Option Addr) (c : Nat) (x y : Nat) (w : World) (hx : x < 256) (hy : y < 256) (hg : ∀ x ∈ xs, x < 256) (hr : Rds w 1 (.slice a xs.length c) xs.length (bytesV xs)) :
    Calls Try.prog 7 #[.agg #[.int .u64 (U s), .int .u64 (U t)], .slice a xs.length c, .agg #[.int .u8 (x : Int), .int .u8 (y : Int)]] w fun e w' => e = .returned (.bool true) ∧ Below w.heap.size w w' := by
  by_cases h300 : 300 < xs.length
  · go_enter Try.func7, Try.ntmps7
    go_wp2_with fail
    go_quiet (fail)
    go_wp2_with fail
    go_ret
    exact ⟨rfl, below_grownBy (grownBy_trans (grownBy_trans (World.grownBy_alloc _ _ none) (World.grownBy_alloc _ _ none)) (grownBy_drewN _ _ none))⟩
  · have HR := Lib.hid hr
    have HG := Lib.hid hg
    have hl : xs.length ≤ 300 := by omega
    clear hr hg
    obtain ⟨i0, hi, hz0, hz1, hz2⟩ := info_parts infoByteS
    go_enter Try.func7, Try.ntmps7
    go_wp2_with fail
    go_quiet (fail)
    go_wp2_with fail
    obtain ⟨w0, hw0⟩ : ∃ w0, ((w.alloc (.cells #[.int .u64 (U s), .int .u64 (U t)] 34)).alloc (.cells #[.int .u8 (x : Int), .int .u8 (y : Int)] 35)).drewN nq = w0 := ⟨_, rfl⟩
    have hg0 : w.grownBy w0 none := by rw [← hw0]; exact grownBy_trans (grownBy_trans (World.grownBy_alloc _ _ none) (World.grownBy_alloc _ _ none)) (grownBy_drewN _ _ none)
    obtain ⟨B, hB⟩ : ∃ B, w.heap.size + 1 = B := ⟨_, rfl⟩
    have hb0 : Blk w0 B 35 [.int .u8 (x : Int), .int .u8 (y : Int)] := by
      rw [← hw0, ← hB]
      have := (Blk.new (w.alloc (.cells #[.int .u64 (U s), .int .u64 (U t)] 34)) 35 [.int .u8 (x : Int), .int .u8 (y : Int)]).drewN nq
      simpa using this
    rw [hw0, hB]
    clear hw0 hB
    have HR0 := Lib.hid (HR.out.grown hg0 (by simp))
    have HG0 := Lib.hid hg0
    have HB0 := Lib.hid hb0
    clear hg0 hb0 HR
    refine wp_region_FG (fun j v => match j with
      | 1 => v = .slice a xs.length c
      | 3 => v = .pointer (some ⟨B, 0, none⟩)
      | 4 => v = .int .u8 (x : Int)
      | 8 => v = .slice a xs.length c
      | 10 => v = .pointer (some ⟨B, 1, none⟩)
      | 11 => v = .int .u8 (y : Int)
      | _ => True) (GI w0 (contS xs x y)) [[], [], [0, 1], [], [3], [3, 4], [0, 1, 2, 3, 4, 5], [], [], [0, 1, 2, 3, 4, 5, 6, 7, 8], [], [10], [10, 11], [0, 1, 2, 3, 4, 5, 6, 7, 8, 9, 10, 11, 12], [0, 1, 2, 3, 4, 5, 6, 7, 8, 9, 10, 11, 12, 13], [0, 1, 2, 3, 4, 5, 6, 7, 8, 9, 10, 11, 12, 13, 14]] (by kernel_rfl) (by kernel_rfl) (fun vals => ⟨grownBy_drewN w0 1 none, fun j hj => by simp [liveS] at hj, fun i j _ hi => by simp [liveS] at hi, rfl⟩) ?xobs ?xend
    case xobs =>
      refine fgObs_cons (fun D vals W hG hD hC => ?_) (fgObs_cons (fun D vals W hG hD hC => ?_) (fgObs_cons (fun D vals W hG hD hC => ?_) (fgObs_cons (fun D vals W hG hD hC => ?_) (fgObs_cons (fun D vals W hG hD hC => ?_) (fgObs_cons (fun D vals W hG hD hC => ?_) (fgObs_cons (fun D vals W hG hD hC => ?_) (fgObs_cons (fun D vals W hG hD hC => ?_) (fgObs_cons (fun D vals W hG hD hC => ?_) (fgObs_cons (fun D vals W hG hD hC => ?_) (fgObs_cons (fun D vals W hG hD hC => ?_) (fgObs_cons (fun D vals W hG hD hC => ?_) (fgObs_cons (fun D vals W hG hD hC => ?_) (fgObs_cons (fun D vals W hG hD hC => ?_) (fgObs_cons (fun D vals W hG hD hC => ?_) (fgObs_cons (fun D vals W hG hD hC => ?_) (fgObs_nil))))))))))))))))
      case _ =>
        (repeat (refine givenV_step rfl (fun v h hv => ?_); (try dsimp only at h); first | subst h | (clear h; subst hv)))
        refine givenV_nil ?_
        (try simp only [Act.put, List.setIfInBounds_toArray, List.set_cons_zero, List.set_cons_succ])
        refine wpOp_list rfl (fun K hK => ?_)
        go_simp
        exact hK _ _ ⟨_, rfl, True.intro, hG.new 0 #[] 0 (by omega) rfl rfl (by unfold maxLen; omega)⟩
      case _ => (have q0 := (HB0.out.grown hG.grown (by simp)).cell (j := 0) rfl); (have q1 := (HB0.out.grown hG.grown (by simp)).cell (j := 1) rfl); (repeat (refine givenV_step rfl (fun v h hv => ?_); (try dsimp only at h); first | subst h | (clear h; subst hv))); refine givenV_nil ?_; (try simp only [Act.put, List.setIfInBounds_toArray, List.set_cons_zero, List.set_cons_succ]); refine free_read rfl (by rfl) (v := _) ?_ ⟨rfl, hG.keep 1 _ (by omega) rfl⟩; go_simp; (try with_reducible rfl)
      case _ =>
        have h1 := hG.alive 0 rfl (hC 0 (by simp)) hD
        (repeat (refine givenV_step rfl (fun v h hv => ?_); (try dsimp only at h); first | subst h | (clear h; subst hv)))
        refine givenV_nil ?_
        (try simp only [Act.put, List.setIfInBounds_toArray, List.set_cons_zero, List.set_cons_succ])
        refine wpOp_list rfl (fun K hK => ?_)
        refine step_append_rds (by rfl) _ _ 31 (by rfl) w0.heap.size 5 i0 _ 1 1 Try.underlying31 hi hz0 hz1 hz2 rfl (by decide) (v := vals 0) (n := _) (by rfl) (hG.own 0 h1) (by rfl) (HR0.out.grown hG.grown (by simp)) (by simp [Value.oneCell', bytesV, contS]) (by unfold maxLen; simp [contS]; omega) (by simp [contS]; omega) hG.grown.size ?_
        intro v' w' g1 g2 g3
        refine hK _ _ ⟨_, rfl, True.intro, hG.app 2 0 v' (by omega) rfl h1 ?_ g2 g3⟩
        simpa [contS, bytesV] using g1
      case _ => (have q0 := (HB0.out.grown hG.grown (by simp)).cell (j := 0) rfl); (have q1 := (HB0.out.grown hG.grown (by simp)).cell (j := 1) rfl); (repeat (refine givenV_step rfl (fun v h hv => ?_); (try dsimp only at h); first | subst h | (clear h; subst hv))); refine givenV_nil ?_; (try simp only [Act.put, List.setIfInBounds_toArray, List.set_cons_zero, List.set_cons_succ]); refine free_read rfl (by rfl) (v := _) ?_ ⟨rfl, hG.keep 3 _ (by omega) rfl⟩; go_simp; (try with_reducible rfl)
      case _ => (have q0 := (HB0.out.grown hG.grown (by simp)).cell (j := 0) rfl); (have q1 := (HB0.out.grown hG.grown (by simp)).cell (j := 1) rfl); (repeat (refine givenV_step rfl (fun v h hv => ?_); (try dsimp only at h); first | subst h | (clear h; subst hv))); refine givenV_nil ?_; (try simp only [Act.put, List.setIfInBounds_toArray, List.set_cons_zero, List.set_cons_succ]); refine free_read rfl (by rfl) (v := _) ?_ ⟨rfl, hG.keep 4 _ (by omega) rfl⟩; go_simp; (try with_reducible rfl)
      case _ =>
        (repeat (refine givenV_step rfl (fun v h hv => ?_); (try dsimp only at h); first | subst h | (clear h; subst hv)))
        refine givenV_nil ?_
        (try simp only [Act.put, List.setIfInBounds_toArray, List.set_cons_zero, List.set_cons_succ])
        refine wpOp_list rfl (fun K hK => ?_)
        go_simp
        exact hK _ _ ⟨_, rfl, True.intro, hG.new 5 #[.int .u8 (x : Int)] 1 (by omega) rfl rfl (by unfold maxLen; omega)⟩
      case _ =>
        have h1 := hG.alive 2 rfl (hC 2 (by simp)) hD
        have h2 := hG.alive 5 rfl (hC 5 (by simp)) hD
        (repeat (refine givenV_step rfl (fun v h hv => ?_); (try dsimp only at h); first | subst h | (clear h; subst hv)))
        refine givenV_nil ?_
        (try simp only [Act.put, List.setIfInBounds_toArray, List.set_cons_zero, List.set_cons_succ])
        refine wpOp_list rfl (fun K hK => ?_)
        refine step_append_rds (by rfl) _ _ 31 (by rfl) w0.heap.size 5 i0 _ 1 1 Try.underlying31 hi hz0 hz1 hz2 rfl (by decide) (v := vals 2) (n := _) (by rfl) (hG.own 2 h1) (by rfl) (Rds.of_owns (hG.own 5 h2)) (by simp [Value.oneCell', bytesV, contS]) (by unfold maxLen; simp [contS]; omega) (by simp [contS]; omega) hG.grown.size ?_
        intro v' w' g1 g2 g3
        refine hK _ _ ⟨_, rfl, True.intro, hG.app 6 2 v' (by omega) rfl h1 ?_ g2 g3⟩
        simpa [contS, bytesV] using g1
      case _ =>
        (repeat (refine givenV_step rfl (fun v h hv => ?_); (try dsimp only at h); first | subst h | (clear h; subst hv)))
        refine givenV_nil ?_
        (try simp only [Act.put, List.setIfInBounds_toArray, List.set_cons_zero, List.set_cons_succ])
        refine wpOp_list rfl (fun K hK => ?_)
        go_simp
        exact hK _ _ ⟨_, rfl, True.intro, hG.new 7 #[] 0 (by omega) rfl rfl (by unfold maxLen; omega)⟩
      case _ => (have q0 := (HB0.out.grown hG.grown (by simp)).cell (j := 0) rfl); (have q1 := (HB0.out.grown hG.grown (by simp)).cell (j := 1) rfl); (repeat (refine givenV_step rfl (fun v h hv => ?_); (try dsimp only at h); first | subst h | (clear h; subst hv))); refine givenV_nil ?_; (try simp only [Act.put, List.setIfInBounds_toArray, List.set_cons_zero, List.set_cons_succ]); refine free_read rfl (by rfl) (v := _) ?_ ⟨rfl, hG.keep 8 _ (by omega) rfl⟩; go_simp; (try with_reducible rfl)
      case _ =>
        have h1 := hG.alive 7 rfl (hC 7 (by simp)) hD
        (repeat (refine givenV_step rfl (fun v h hv => ?_); (try dsimp only at h); first | subst h | (clear h; subst hv)))
        refine givenV_nil ?_
        (try simp only [Act.put, List.setIfInBounds_toArray, List.set_cons_zero, List.set_cons_succ])
        refine wpOp_list rfl (fun K hK => ?_)
        refine step_append_rds (by rfl) _ _ 31 (by rfl) w0.heap.size 5 i0 _ 1 1 Try.underlying31 hi hz0 hz1 hz2 rfl (by decide) (v := vals 7) (n := _) (by rfl) (hG.own 7 h1) (by rfl) (HR0.out.grown hG.grown (by simp)) (by simp [Value.oneCell', bytesV, contS]) (by unfold maxLen; simp [contS]; omega) (by simp [contS]; omega) hG.grown.size ?_
        intro v' w' g1 g2 g3
        refine hK _ _ ⟨_, rfl, True.intro, hG.app 9 7 v' (by omega) rfl h1 ?_ g2 g3⟩
        simpa [contS, bytesV] using g1
      case _ => (have q0 := (HB0.out.grown hG.grown (by simp)).cell (j := 0) rfl); (have q1 := (HB0.out.grown hG.grown (by simp)).cell (j := 1) rfl); (repeat (refine givenV_step rfl (fun v h hv => ?_); (try dsimp only at h); first | subst h | (clear h; subst hv))); refine givenV_nil ?_; (try simp only [Act.put, List.setIfInBounds_toArray, List.set_cons_zero, List.set_cons_succ]); refine free_read rfl (by rfl) (v := _) ?_ ⟨rfl, hG.keep 10 _ (by omega) rfl⟩; go_simp; (try with_reducible rfl)
      case _ => (have q0 := (HB0.out.grown hG.grown (by simp)).cell (j := 0) rfl); (have q1 := (HB0.out.grown hG.grown (by simp)).cell (j := 1) rfl); (repeat (refine givenV_step rfl (fun v h hv => ?_); (try dsimp only at h); first | subst h | (clear h; subst hv))); refine givenV_nil ?_; (try simp only [Act.put, List.setIfInBounds_toArray, List.set_cons_zero, List.set_cons_succ]); refine free_read rfl (by rfl) (v := _) ?_ ⟨rfl, hG.keep 11 _ (by omega) rfl⟩; go_simp; (try with_reducible rfl)
      case _ =>
        (repeat (refine givenV_step rfl (fun v h hv => ?_); (try dsimp only at h); first | subst h | (clear h; subst hv)))
        refine givenV_nil ?_
        (try simp only [Act.put, List.setIfInBounds_toArray, List.set_cons_zero, List.set_cons_succ])
        refine wpOp_list rfl (fun K hK => ?_)
        go_simp
        exact hK _ _ ⟨_, rfl, True.intro, hG.new 12 #[.int .u8 (y : Int)] 1 (by omega) rfl rfl (by unfold maxLen; omega)⟩
      case _ =>
        have h1 := hG.alive 9 rfl (hC 9 (by simp)) hD
        have h2 := hG.alive 12 rfl (hC 12 (by simp)) hD
        (repeat (refine givenV_step rfl (fun v h hv => ?_); (try dsimp only at h); first | subst h | (clear h; subst hv)))
        refine givenV_nil ?_
        (try simp only [Act.put, List.setIfInBounds_toArray, List.set_cons_zero, List.set_cons_succ])
        refine wpOp_list rfl (fun K hK => ?_)
        refine step_append_rds (by rfl) _ _ 31 (by rfl) w0.heap.size 5 i0 _ 1 1 Try.underlying31 hi hz0 hz1 hz2 rfl (by decide) (v := vals 9) (n := _) (by rfl) (hG.own 9 h1) (by rfl) (Rds.of_owns (hG.own 12 h2)) (by simp [Value.oneCell', bytesV, contS]) (by unfold maxLen; simp [contS]; omega) (by simp [contS]; omega) hG.grown.size ?_
        intro v' w' g1 g2 g3
        refine hK _ _ ⟨_, rfl, True.intro, hG.app 13 9 v' (by omega) rfl h1 ?_ g2 g3⟩
        simpa [contS, bytesV] using g1
      case _ =>
        have h1 := hG.alive 6 rfl (hC 6 (by simp)) hD
        (repeat (refine givenV_step rfl (fun v h hv => ?_); (try dsimp only at h); first | subst h | (clear h; subst hv)))
        refine givenV_nil ?_
        (try simp only [Act.put, List.setIfInBounds_toArray, List.set_cons_zero, List.set_cons_succ])
        refine free_read rfl (by rfl) (v := vals 6) ?_ ⟨True.intro, hG.move 14 6 (by omega) rfl h1 rfl⟩
        go_simp
        (try with_reducible rfl)
      case _ =>
        have h1 := hG.alive 13 rfl (hC 13 (by simp)) hD
        (repeat (refine givenV_step rfl (fun v h hv => ?_); (try dsimp only at h); first | subst h | (clear h; subst hv)))
        refine givenV_nil ?_
        (try simp only [Act.put, List.setIfInBounds_toArray, List.set_cons_zero, List.set_cons_succ])
        refine free_read rfl (by rfl) (v := vals 13) ?_ ⟨True.intro, hG.move 15 13 (by omega) rfl h1 rfl⟩
        go_simp
        (try with_reducible rfl)
    case xend =>
      intro D vals W hG hD
      have h14 := hG.own 14 (hG.alive 14 rfl (hD 14 (by decide)) hG.z)
      have h15 := hG.own 15 (hG.alive 15 rfl (hD 15 (by decide)) hG.z)
      (repeat (refine givenV_step rfl (fun v h hv => ?_); (try dsimp only at h); first | subst h | (clear h; subst hv)))
      refine givenV_nil ?_
      (try simp only [Act.put, List.setIfInBounds_toArray, List.set_cons_zero, List.set_cons_succ])
      have g := grownBy_trans HG0.out hG.grown
      have r := HR0.out.grown hG.grown (by simp)
      obtain ⟨a14, c14, e14⟩ := (Rds.of_owns h14).slice
      obtain ⟨a15, c15, e15⟩ := (Rds.of_owns h15).slice
      have R14 := Rds.of_owns h14
      have R15 := Rds.of_owns h15
      rw [e14] at R14
      rw [e15] at R15
      rw [show (contS xs x y 14).length = xs.length + 1 by simp [contS]] at e14
      rw [show (contS xs x y 15).length = xs.length + 1 by simp [contS]] at e15
      rw [e14, e15]
      have hgx : ∀ z ∈ xs ++ [x], z < 256 := fun z hz => by
        rcases List.mem_append.1 hz with h | h
        · exact HG.out z h
        · rw [List.mem_singleton.1 h]; exact hx
      have hgy : ∀ z ∈ xs ++ [y], z < 256 := fun z hz => by
        rcases List.mem_append.1 hz with h | h
        · exact HG.out z h
        · rw [List.mem_singleton.1 h]; exact hy
      have CA := Lib.hid (fun W' (g' : W.grownBy W' none) => phash_any s xs a c W' HG.out (r.grown g' (by simp)))
      have CB := Lib.hid (fun W' (g' : W.grownBy W' none) => phash_any t xs a c W' HG.out (r.grown g' (by simp)))
      have CX := Lib.hid (fun W' (g' : W.grownBy W' none) => phash_any s (xs ++ [x]) a14 c14 W' hgx (Rds.grown (row := none) R14 g' (by simp)))
      have CY := Lib.hid (fun W' (g' : W.grownBy W' none) => phash_any s (xs ++ [y]) a15 c15 W' hgy (Rds.grown (row := none) R15 g' (by simp)))
      have CW := Lib.hid (fun W' (_ : W.grownBy W' none) => awake_any W')
      rw [show (xs ++ [x]).length = xs.length + 1 by simp] at CX
      rw [show (xs ++ [y]).length = xs.length + 1 by simp] at CY
      have HW := Lib.hid g
      have HB := Lib.hid (HB0.out.grown hG.grown (by simp))
      have F1 := hashB_seed s t xs
      have F2 := hashB_last s xs x y hx hy
      obtain ⟨q1, e1⟩ : ∃ q, (U s == U t) = q := ⟨_, rfl⟩
      obtain ⟨q2, e2⟩ : ∃ q, ((x : Int) == (y : Int)) = q := ⟨_, rfl⟩
      rw [e1] at F1
      rw [e2] at F2
      obtain ⟨n1, k1⟩ : ∃ n, U (hashB s xs) = n := ⟨_, rfl⟩
      obtain ⟨n2, k2⟩ : ∃ n, U (hashB t xs) = n := ⟨_, rfl⟩
      obtain ⟨n3, k3⟩ : ∃ n, U (hashB s (xs ++ [x])) = n := ⟨_, rfl⟩
      obtain ⟨n4, k4⟩ : ∃ n, U (hashB s (xs ++ [y])) = n := ⟨_, rfl⟩
      rw [k1] at CA F1
      rw [k2] at CB F1
      rw [k3] at CX F2
      rw [k4] at CY F2
      have b1 : (q1 == q1) = true := beq_self_eq_true q1
      have b2 : (q2 == q2) = true := beq_self_eq_true q2
      have x0 := gw_cell (HB.out.cell (j := 0) rfl)
      have x1 := gw_cell (HB.out.cell (j := 1) rfl)
      clear e14 e15 h14 h15 hG hD g r HB0 HG0 HR0 R14 R15 hgx hgy HG k1 k2 k3 k4 HB
      obtain ⟨m1, k1⟩ : ∃ n, U s = n := ⟨_, rfl⟩
      obtain ⟨m2, k2⟩ : ∃ n, U t = n := ⟨_, rfl⟩
      rw [k1] at CA CX CY e1 ⊢
      rw [k2] at CB e1 ⊢
      clear k1 k2
      go_wp2_with fail
      refine wp_region_grown (by kernel_rfl) (by kernel_rfl) ?_
      repeat (go_big_quiet_step (fail))
      go_big_quiet_step ((go_at_call 15; exact calls_grown CA.out _))
      repeat (go_big_quiet_step (fail))
      go_big_quiet_step ((go_at_call 15; exact calls_grown CB.out _))
      repeat (go_big_quiet_step (fail))
      go_big_quiet_step ((go_at_call 15; exact calls_grown CX.out _))
      repeat (go_big_quiet_step (fail))
      go_big_quiet_step ((go_at_call 15; exact calls_grown CY.out _))
      repeat (go_big_quiet_step (fail))
      go_big_quiet_step ((go_at_call 10; exact calls_grown CW.out _))
      repeat (go_big_quiet_step (fail))
      refine wpQuiet_nil ?_
      rintro _ ⟨g, rfl⟩
      go_wp2_with fail
      go_ret
      exact ⟨rfl, below_grownBy (grownBy_trans HW.out (gw_grown g))⟩

section
variable {H : Type} {enc : TypeId × Value → H} {r : Reach} {b0 : Nat}
theorem mixSeeds_walk (w : World) {v0 v1 v2 : Value} {d0 d1 d2 : DataW H} {p0 p1 p2 : List MemPlace} (k0 : Value.okWide Try.prog w r b0 34 v0) (k1 : Value.okWide Try.prog w r b0 31 v1) (k2 : Value.okWide Try.prog w r b0 35 v2)
    (h0 : DataW.Trod enc Try.prog w 0 (fun _ => true) true 34 v0 d0 p0) (h1 : DataW.Trod enc Try.prog w 0 (fun _ => true) true 31 v1 d1 p1) (h2 : DataW.Trod enc Try.prog w 0 (fun _ => true) true 35 v2 d2 p2) :
    Calls Try.prog 7 #[v0, v1, v2] w fun e w' => e = .returned (.bool true) ∧ Below w.heap.size w w' := by
  obtain ⟨s, t, rfl⟩ := arg_two64 w k0 h0
  obtain ⟨xs, a, c, rfl, hr, hg⟩ := arg_bytes w k1 h1
  obtain ⟨x, y, rfl, hx, hy⟩ := arg_two8 w k2 h2
  exact mixSeeds_walk0 s t xs a c x y w hx hy hg hr
end

end Go.Proofs.Ytnlcjelmdfjkcaa
