/- package script: Right. -/
import Derived.Test.YtbjpjnkaaiajlaaScG
namespace Go.Proofs.Ytbjpjnkaaiajlaa
open Go.RowKit

/-- May it be an act? -/
def rightB (k : Int) (kl vl nl : Nat) (n : Int) : Bool :=
  isK k && decide (kl ≤ 65535) && decide (vl ≤ 65535) && decide (nl ≤ (formX k).nums) && (!(formX k).just || decide (nl = (formX k).nums)) && ((formX k).key || decide (kl = 0)) && ((formX k).value || decide (vl = 0)) && ((formX k).num || decide (n = 0))

set_option maxRecDepth 100000 in
set_option maxHeartbeats 4000000 in
theorem pright_any (k n : Int) (ka va na : Option Addr) (kl vl nl kc vc nc : Nat) (w : World) :
    Calls Try.prog 12 #[.agg #[.int .i64 k, .slice ka kl kc, .slice va vl vc, .int .i64 n, .slice na nl nc]] w fun e w' => e = .returned (.bool (rightB k kl vl nl n)) ∧ w.grownBy w' none := by
  unfold rightB
  have hlk : ∀ (W : World) (b : Nat), W.heap[b]? = some (formO 10) → (Instr.lookup 66 (.map (some b)) (.int .i64 k) true).run Try.prog W = .ok (.tuple #[(formX k).val, .bool (isK k)]) W := fun W b h => by
    have := run_lookX W b k true h
    rwa [if_pos rfl] at this
  unfold Form.val at hlk
  obtain ⟨f, hf⟩ : ∃ f, formX k = f := ⟨_, rfl⟩
  obtain ⟨q, hq⟩ : ∃ q, isK k = q := ⟨_, rfl⟩
  rw [hf, hq] at hlk ⊢
  have HLK := Lib.hid hlk
  clear hlk hf hq
  go_enter Try.func12, Try.ntmps12
  go_wp2_with fail
  obtain ⟨B, hB⟩ : ∃ B, w.heap.size = B := ⟨_, rfl⟩
  obtain ⟨w0, hw0⟩ : ∃ w0, w.alloc (.cells #[.int .i64 k, .slice ka kl kc, .slice va vl vc, .int .i64 n, .slice na nl nc] 35) = w0 := ⟨_, rfl⟩
  have hx : Blk w0 B 35 [.int .i64 k, .slice ka kl kc, .slice va vl vc, .int .i64 n, .slice na nl nc] := by rw [← hw0, ← hB]; exact Blk.new w _ _
  have hg0 : w.grownBy w0 none := by rw [← hw0]; exact World.grownBy_alloc _ _ none
  rw [hB, hw0]
  clear hB hw0
  have HX := Lib.hid hx
  have HG0 := Lib.hid hg0
  clear hx hg0
  refine wp_region_FG (fun j v => match j with
      | 1 => v = .pointer (some ⟨B, 0, none⟩)
      | 2 => v = .int .i64 k
      | 3 => v = .tuple #[.agg #[.string f.name, .bool f.key, .bool f.value, .bool f.num, .int .i64 (f.nums : Int), .bool f.just], .bool q]
      | 4 => v = .tuple #[.agg #[.string f.name, .bool f.key, .bool f.value, .bool f.num, .int .i64 (f.nums : Int), .bool f.just], .bool q]
      | 5 => v = .agg #[.string f.name, .bool f.key, .bool f.value, .bool f.num, .int .i64 (f.nums : Int), .bool f.just]
      | 6 => v = .bool q
      | 9 => v = .bool q
      | _ => True) (GF w0 f 7 8) [[], [], [1], [0, 1, 2], [0, 1, 2, 3], [0, 1, 2, 3, 4], [0, 1, 2, 3, 4], [], [0, 1, 2, 3, 4, 5, 7], [0, 1, 2, 3, 4, 5, 6, 7, 8]] (by kernel_rfl) (by kernel_rfl) (fun vals => GF.begin) ?xobs ?xend
  case xobs =>
    refine fgObs_cons (fun D vals W hG hD hC => ?_) (fgObs_cons (fun D vals W hG hD hC => ?_) (fgObs_cons (fun D vals W hG hD hC => ?_) (fgObs_cons (fun D vals W hG hD hC => ?_) (fgObs_cons (fun D vals W hG hD hC => ?_) (fgObs_cons (fun D vals W hG hD hC => ?_) (fgObs_cons (fun D vals W hG hD hC => ?_) (fgObs_cons (fun D vals W hG hD hC => ?_) (fgObs_cons (fun D vals W hG hD hC => ?_) (fgObs_cons (fun D vals W hG hD hC => ?_) (fgObs_nil))))))))))
    case _ =>
      refine givenV_nil ?_
      (try simp only [Act.put, List.setIfInBounds_toArray, List.set_cons_zero, List.set_cons_succ])
      refine wpOp_list rfl (fun K hK => ?_)
      go_simp
      refine (forms_any W).mono ?_
      rintro e w' ⟨rfl, rfl⟩
      exact hK _ _ ⟨_, rfl, True.intro, hG.forms (by decide) (by decide)⟩
    case _ =>
      have q0 := (HX.out.grown hG.grown (by simp)).cell (j := 0) rfl
      (repeat (refine givenV_step rfl (fun v h hv => ?_); (try dsimp only at h); first | subst h | (clear h; subst hv)))
      refine givenV_nil ?_
      (try simp only [Act.put, List.setIfInBounds_toArray, List.set_cons_zero, List.set_cons_succ])
      refine free_read rfl (by rfl) (v := _) ?_ ⟨rfl, hG.keep 1 _ (by decide) (by decide) (by decide)⟩
      go_simp
      (try with_reducible rfl)
    case _ =>
      have q0 := (HX.out.grown hG.grown (by simp)).cell (j := 0) rfl
      (repeat (refine givenV_step rfl (fun v h hv => ?_); (try dsimp only at h); first | subst h | (clear h; subst hv)))
      refine givenV_nil ?_
      (try simp only [Act.put, List.setIfInBounds_toArray, List.set_cons_zero, List.set_cons_succ])
      refine free_read rfl (by rfl) (v := _) ?_ ⟨rfl, hG.keep 2 _ (by decide) (by decide) (by decide)⟩
      go_simp
      (try with_reducible rfl)
    case _ =>
      have q0 := (HX.out.grown hG.grown (by simp)).cell (j := 0) rfl
      have hdst : D 8 = false := by
        cases hs : D 8
        · rfl
        · rw [(hG.ord hs).2.2] at hD; cases hD
      obtain ⟨mb, hvm, hmb⟩ := hG.map (hC 0 (by simp)) hdst
      have hlk := HLK.out W mb hmb
      (repeat (refine givenV_step rfl (fun v h hv => ?_); (try dsimp only at h); first | subst h | (clear h; subst hv)))
      refine givenV_nil ?_
      (try simp only [Act.put, List.setIfInBounds_toArray, List.set_cons_zero, List.set_cons_succ])
      (try rw [hvm])
      refine free_read rfl (by rfl) (v := _) ?_ ⟨rfl, hG.keep 3 _ (by decide) (by decide) (by decide)⟩
      go_simp
      (try with_reducible rfl)
    case _ =>
      have q0 := (HX.out.grown hG.grown (by simp)).cell (j := 0) rfl
      (repeat (refine givenV_step rfl (fun v h hv => ?_); (try dsimp only at h); first | subst h | (clear h; subst hv)))
      refine givenV_nil ?_
      (try simp only [Act.put, List.setIfInBounds_toArray, List.set_cons_zero, List.set_cons_succ])
      refine free_read rfl (by rfl) (v := _) ?_ ⟨rfl, hG.keep 4 _ (by decide) (by decide) (by decide)⟩
      go_simp
      (try with_reducible rfl)
    case _ =>
      have q0 := (HX.out.grown hG.grown (by simp)).cell (j := 0) rfl
      (repeat (refine givenV_step rfl (fun v h hv => ?_); (try dsimp only at h); first | subst h | (clear h; subst hv)))
      refine givenV_nil ?_
      (try simp only [Act.put, List.setIfInBounds_toArray, List.set_cons_zero, List.set_cons_succ])
      refine free_read rfl (by rfl) (v := _) ?_ ⟨rfl, hG.keep 5 _ (by decide) (by decide) (by decide)⟩
      go_simp
      (try with_reducible rfl)
    case _ =>
      have q0 := (HX.out.grown hG.grown (by simp)).cell (j := 0) rfl
      (repeat (refine givenV_step rfl (fun v h hv => ?_); (try dsimp only at h); first | subst h | (clear h; subst hv)))
      refine givenV_nil ?_
      (try simp only [Act.put, List.setIfInBounds_toArray, List.set_cons_zero, List.set_cons_succ])
      refine free_read rfl (by rfl) (v := _) ?_ ⟨rfl, hG.keep 6 _ (by decide) (by decide) (by decide)⟩
      go_simp
      (try with_reducible rfl)
    case _ =>
      refine givenV_nil ?_
      (try simp only [Act.put, List.setIfInBounds_toArray, List.set_cons_zero, List.set_cons_succ])
      refine wpOp_list rfl (fun K hK => ?_)
      go_simp
      exact hK _ _ ⟨_, rfl, True.intro, hG.fresh (by decide) (by decide) hD⟩
    case _ =>
      have hdal := hC 7 (by simp)
      have hd0 := hC 0 (by simp)
      obtain ⟨fb, hvf, hnf, hbf, _⟩ := hG.var hdal
      have hbf := hbf hD
      have f0 := hbf.frozen 0; have f1 := hbf.frozen 1; have f2 := hbf.frozen 2; have f3 := hbf.frozen 3; have f4 := hbf.frozen 4; have f5 := hbf.frozen 5
      unfold noForm Form.cells at hbf
      have g0 := hbf.cell (j := 0) rfl; have g1 := hbf.cell (j := 1) rfl; have g2 := hbf.cell (j := 2) rfl; have g3 := hbf.cell (j := 3) rfl; have g4 := hbf.cell (j := 4) rfl; have g5 := hbf.cell (j := 5) rfl
      (repeat (refine givenV_step rfl (fun v h hv => ?_); (try dsimp only at h); first | subst h | (clear h; subst hv)))
      refine givenV_nil ?_
      (try simp only [Act.put, List.setIfInBounds_toArray, List.set_cons_zero, List.set_cons_succ])
      (try rw [hvf])
      refine wpOp_list rfl (fun K hK => ?_)
      go_simp
      refine hK _ _ ⟨undef, rfl, True.intro, hG.stored fb hd0 (hC 3 (by simp)) hdal (by decide) (by decide) hvf hnf ?_ ?_⟩
      · exact (((((hbf.setCell 0 _).setCell 1 _).setCell 2 _).setCell 3 _).setCell 4 _).setCell 5 _
      · exact grownBy_trans (grownBy_trans (grownBy_trans (grownBy_trans (grownBy_trans (grownBy_setCell _ _ _) (grownBy_setCell _ _ _)) (grownBy_setCell _ _ _)) (grownBy_setCell _ _ _)) (grownBy_setCell _ _ _)) (grownBy_setCell _ _ _)
    case _ =>
      have q0 := (HX.out.grown hG.grown (by simp)).cell (j := 0) rfl
      (repeat (refine givenV_step rfl (fun v h hv => ?_); (try dsimp only at h); first | subst h | (clear h; subst hv)))
      refine givenV_nil ?_
      (try simp only [Act.put, List.setIfInBounds_toArray, List.set_cons_zero, List.set_cons_succ])
      refine free_read rfl (by rfl) (v := _) ?_ ⟨rfl, hG.keep 9 _ (by decide) (by decide) (by decide)⟩
      go_simp
      (try with_reducible rfl)
  case xend =>
    intro D vals W hG hD
    obtain ⟨fb, hvf, hnf, _, hbf⟩ := hG.var (hD 7 (by decide))
    have hbf := hbf (hD 8 (by decide))
    have hgW := hG.grown
    (repeat (refine givenV_step rfl (fun v h hv => ?_); (try dsimp only at h); first | subst h | (clear h; subst hv)))
    refine givenV_nil ?_
    (try simp only [Act.put, List.setIfInBounds_toArray, List.set_cons_zero, List.set_cons_succ])
    rw [hvf]
    clear hvf hG hD
    have hxW := HX.out.grown hgW (by simp)
    have x1 := hxW.cell (j := 1) rfl
    have x2 := hxW.cell (j := 2) rfl
    have x3 := hxW.cell (j := 3) rfl
    have x4 := hxW.cell (j := 4) rfl
    unfold Form.cells at hbf
    have y1 := hbf.cell (j := 1) rfl
    have y2 := hbf.cell (j := 2) rfl
    have y3 := hbf.cell (j := 3) rfl
    have y4 := hbf.cell (j := 4) rfl
    have y5 := hbf.cell (j := 5) rfl
    have HG := Lib.hid (grownBy_trans HG0.out hgW)
    clear hgW hbf hxW hnf HG0 HX HLK
    obtain ⟨nm, key, value, num, nums, just⟩ := f
    dsimp only at y1 y2 y3 y4 y5
    have E1 : ((kl : Int) == 0) = decide (kl = 0) := by rw [Bool.eq_iff_iff, beq_iff_eq, decide_eq_true_eq]; omega
    have E2 : ((vl : Int) == 0) = decide (vl = 0) := by rw [Bool.eq_iff_iff, beq_iff_eq, decide_eq_true_eq]; omega
    have E3 : (n == 0) = decide (n = 0) := by rw [Bool.eq_iff_iff, beq_iff_eq, decide_eq_true_eq]
    have E4 : ((nl : Int) != (nums : Int)) = !decide (nl = nums) := by
      rw [bne, show ((nl : Int) == (nums : Int)) = decide (nl = nums) by rw [Bool.eq_iff_iff, beq_iff_eq, decide_eq_true_eq]; omega]
    have D1 : decide ((65535 : Int) < (kl : Int)) = !decide (kl ≤ 65535) := by rw [← decide_not]; exact decide_eq_decide.2 (by omega)
    have D2 : decide ((65535 : Int) < (vl : Int)) = !decide (vl ≤ 65535) := by rw [← decide_not]; exact decide_eq_decide.2 (by omega)
    have D3 : decide ((nums : Int) < (nl : Int)) = !decide (nl ≤ nums) := by rw [← decide_not]; exact decide_eq_decide.2 (by omega)
    have D3n : decide (nums < nl) = !decide (nl ≤ nums) := by rw [← decide_not]; exact decide_eq_decide.2 (by omega)
    have E4n : (nl != nums) = !decide (nl = nums) := by rw [bne, show (nl == nums) = decide (nl = nums) by rw [Bool.eq_iff_iff, beq_iff_eq, decide_eq_true_eq]]
    obtain ⟨p1, hp1⟩ : ∃ p, decide (kl = 0) = p := ⟨_, rfl⟩
    rw [hp1] at E1
    have P1 := Lib.hid hp1
    clear hp1
    obtain ⟨p2, hp2⟩ : ∃ p, decide (vl = 0) = p := ⟨_, rfl⟩
    rw [hp2] at E2
    have P2 := Lib.hid hp2
    clear hp2
    obtain ⟨p3, hp3⟩ : ∃ p, decide (n = 0) = p := ⟨_, rfl⟩
    rw [hp3] at E3
    have P3 := Lib.hid hp3
    clear hp3
    obtain ⟨p4, hp4⟩ : ∃ p, decide (nl = nums) = p := ⟨_, rfl⟩
    rw [hp4] at E4 E4n
    have P4 := Lib.hid hp4
    clear hp4
    obtain ⟨r1, hr1⟩ : ∃ p, decide (kl ≤ 65535) = p := ⟨_, rfl⟩
    rw [hr1] at D1
    have R1 := Lib.hid hr1
    clear hr1
    obtain ⟨r2, hr2⟩ : ∃ p, decide (vl ≤ 65535) = p := ⟨_, rfl⟩
    rw [hr2] at D2
    have R2 := Lib.hid hr2
    clear hr2
    obtain ⟨r3, hr3⟩ : ∃ p, decide (nl ≤ nums) = p := ⟨_, rfl⟩
    rw [hr3] at D3 D3n
    have R3 := Lib.hid hr3
    clear hr3
    cases q
    · go_wp2_with fail
      go_ret
      exact ⟨by first | rfl | (simp only [P1.out, P2.out, P3.out, P4.out, R1.out, R2.out, R3.out]; (try rfl)), HG.out⟩
    cases r1
    · go_wp2_with fail
      go_ret
      exact ⟨by first | rfl | (simp only [P1.out, P2.out, P3.out, P4.out, R1.out, R2.out, R3.out]; (try rfl)), HG.out⟩
    cases r2
    · go_wp2_with fail
      go_ret
      exact ⟨by first | rfl | (simp only [P1.out, P2.out, P3.out, P4.out, R1.out, R2.out, R3.out]; (try rfl)), HG.out⟩
    cases r3
    · go_wp2_with fail
      go_ret
      exact ⟨by first | rfl | (simp only [P1.out, P2.out, P3.out, P4.out, R1.out, R2.out, R3.out]; (try rfl)), HG.out⟩
    rcases (show (just = true ∧ p4 = false) ∨ (just = true ∧ p4 = true) ∨ just = false by cases just <;> cases p4 <;> simp) with ⟨rfl, rfl⟩ | ⟨rfl, rfl⟩ | rfl
    · go_wp2_with fail
      go_ret
      exact ⟨by first | rfl | (simp only [P1.out, P2.out, P3.out, P4.out, R1.out, R2.out, R3.out]; (try rfl)), HG.out⟩
    all_goals
      rcases (show key = true ∨ (key = false ∧ p1 = true) ∨ (key = false ∧ p1 = false) by cases key <;> cases p1 <;> simp) with rfl | ⟨rfl, rfl⟩ | ⟨rfl, rfl⟩
      case inr.inr =>
        go_wp2_with fail
        go_ret
        exact ⟨by first | rfl | (simp only [P1.out, P2.out, P3.out, P4.out, R1.out, R2.out, R3.out]; (try rfl)), HG.out⟩
      all_goals
        rcases (show value = true ∨ (value = false ∧ p2 = true) ∨ (value = false ∧ p2 = false) by cases value <;> cases p2 <;> simp) with rfl | ⟨rfl, rfl⟩ | ⟨rfl, rfl⟩
        case inr.inr =>
          go_wp2_with fail
          go_ret
          exact ⟨by first | rfl | (simp only [P1.out, P2.out, P3.out, P4.out, R1.out, R2.out, R3.out]; (try rfl)), HG.out⟩
        all_goals
          rcases (show num = true ∨ (num = false ∧ p3 = true) ∨ (num = false ∧ p3 = false) by cases num <;> cases p3 <;> simp) with rfl | ⟨rfl, rfl⟩ | ⟨rfl, rfl⟩
          all_goals
            go_wp2_with fail
            go_ret
            exact ⟨by first | rfl | (simp only [P1.out, P2.out, P3.out, P4.out, R1.out, R2.out, R3.out]; (try rfl)), HG.out⟩

end Go.Proofs.Ytbjpjnkaaiajlaa
