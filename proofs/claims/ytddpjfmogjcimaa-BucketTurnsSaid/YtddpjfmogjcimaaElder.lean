/- package bucket: elder. -/
import Derived.Test.YtddpjfmogjcimaaCmp
namespace Go.Proofs.Ytddpjfmogjcimaa
open Go.RowKit

theorem or_elder (r r' a a' : Int) : decide (orI (cmpI r r') (cmpI a a') < 0) = decide (r < r' ∨ (r = r' ∧ a < a')) := by
  congr 1
  unfold orI cmpI
  rw [eq_iff_iff]
  repeat' split
  all_goals omega
set_option maxRecDepth 100000 in
set_option maxHeartbeats 4000000 in
theorem elder_any0 (r r' a a' : Int) (h s h' s' : Value) (n m : Int) (w0 : World) (hh : h = .int .u64 n) (hh' : h' = .int .u64 m) (hs : ∃ z, s = .int .i64 z) (hs' : ∃ z, s' = .int .i64 z) :
    Calls Try.prog 51 #[.agg #[h, .int .i64 r, .int .i64 a, s], .agg #[h', .int .i64 r', .int .i64 a', s']] w0 fun e w' => e = .returned (.bool (decide (orI (cmpI r r') (cmpI a a') < 0))) ∧ w0.grownBy w' none := by
  subst hh hh'
  obtain ⟨z, rfl⟩ := hs
  obtain ⟨z', rfl⟩ := hs'
  go_enter Try.func51, Try.ntmps51
  go_wp2_with fail
  have b0 := (Blk.new w0 41 [.int .u64 n, .int .i64 r, .int .i64 a, .int .i64 z]).alloc (.cells #[.int .u64 m, .int .i64 r', .int .i64 a', .int .i64 z'] 41)
  have b1 := Blk.new (w0.alloc (.cells #[.int .u64 n, .int .i64 r, .int .i64 a, .int .i64 z] 41)) 41 [.int .u64 m, .int .i64 r', .int .i64 a', .int .i64 z']
  rw [World.size_alloc] at b1
  have h1 := b0.cell (j := 1) rfl
  have h2 := b0.cell (j := 2) rfl
  have k1 := b1.cell (j := 1) rfl
  have k2 := b1.cell (j := 2) rfl
  have hgw : w0.grownBy ((w0.alloc (.cells #[.int .u64 n, .int .i64 r, .int .i64 a, .int .i64 z] 41)).alloc (.cells #[.int .u64 m, .int .i64 r', .int .i64 a', .int .i64 z'] 41)) none := grownBy_trans (World.grownBy_alloc _ _ none) (World.grownBy_alloc _ _ none)
  clear b0 b1
  obtain ⟨w, hw⟩ : ∃ w, (w0.alloc (.cells #[.int .u64 n, .int .i64 r, .int .i64 a, .int .i64 z] 41)).alloc (.cells #[.int .u64 m, .int .i64 r', .int .i64 a', .int .i64 z'] 41) = w := ⟨_, rfl⟩
  rw [hw] at h1 h2 k1 k2 hgw ⊢
  clear hw
  refine wp_region_need (fun j v W => match j with
      | 0 => v = .pointer (some ⟨w0.heap.size, 1, none⟩)
      | 1 => v = .pointer (some ⟨w0.heap.size, 1, none⟩)
      | 2 => v = .int .i64 r
      | 3 => v = .pointer (some ⟨w0.heap.size + 1, 1, none⟩)
      | 4 => v = .pointer (some ⟨w0.heap.size + 1, 1, none⟩)
      | 5 => v = .int .i64 r'
      | 6 => v = .int .i64 (cmpI r r')
      | 7 => v = .pointer (some ⟨w0.heap.size, 1, none⟩)
      | 8 => v = .pointer (some ⟨w0.heap.size, 2, none⟩)
      | 9 => v = .int .i64 a
      | 10 => v = .pointer (some ⟨w0.heap.size + 1, 1, none⟩)
      | 11 => v = .pointer (some ⟨w0.heap.size + 1, 2, none⟩)
      | 12 => v = .int .i64 a'
      | 13 => v = .int .i64 (cmpI a a')
      | 14 => ∃ b, v = .slice (some ⟨b, 0, none⟩) 2 2 ∧ Blk W b 3 [.int .i64 (cmpI r r'), .int .i64 (cmpI a a')]
      | 15 => v = .int .i64 (orI (cmpI r r') (cmpI a a'))
      | 16 => v = .bool (decide (orI (cmpI r r') (cmpI a a') < 0))
      | 17 => v = .bool (decide (orI (cmpI r r') (cmpI a a') < 0))
      | _ => True) [0, 1, 3, 0, 8, 24, 63, 0, 128, 384, 0, 1024, 3072, 8191, 16383, 32767, 65535, 131071] [[], [0], [1], [], [3], [4], [2, 5], [], [7], [8], [], [10], [11], [9, 12], [6, 13], [14], [15], [16]] (by kernel_rfl) (by kernel_rfl) ?xst ?xobs ?xend
  case xst =>
    intro j v W W' hg h
    match j, h with
    | 0, h => exact h
    | 1, h => exact h
    | 2, h => exact h
    | 3, h => exact h
    | 4, h => exact h
    | 5, h => exact h
    | 6, h => exact h
    | 7, h => exact h
    | 8, h => exact h
    | 9, h => exact h
    | 10, h => exact h
    | 11, h => exact h
    | 12, h => exact h
    | 13, h => exact h
    | 14, h => obtain ⟨b, hb, hk⟩ := h; exact ⟨b, hb, hk.grown hg (by simp)⟩
    | 15, h => exact h
    | 16, h => exact h
    | 17, h => exact h
    | (n + 18), _ => trivial
  case xobs =>
    refine freeObs_cons (fun W hG => ?_) (freeObs_cons (fun W hG => ?_) (freeObs_cons (fun W hG => ?_) (freeObs_cons (fun W hG => ?_) (freeObs_cons (fun W hG => ?_) (freeObs_cons (fun W hG => ?_) (freeObs_cons (fun W hG => ?_) (freeObs_cons (fun W hG => ?_) (freeObs_cons (fun W hG => ?_) (freeObs_cons (fun W hG => ?_) (freeObs_cons (fun W hG => ?_) (freeObs_cons (fun W hG => ?_) (freeObs_cons (fun W hG => ?_) (freeObs_cons (fun W hG => ?_) (freeObs_cons (fun W hG => ?_) (freeObs_cons (fun W hG => ?_) (freeObs_cons (fun W hG => ?_) (freeObs_cons (fun W hG => ?_) (freeObs_nil))))))))))))))))))
    case _ =>
      have x1 := hG.cell h1 (by simp); have x2 := hG.cell h2 (by simp); have y1 := hG.cell k1 (by simp); have y2 := hG.cell k2 (by simp)
      (repeat (refine given_step rfl (fun v h => ?_); (try dsimp only at h); (try subst h)))
      refine given_nil ?_
      (try simp only [Act.put, List.setIfInBounds_toArray, List.set_cons_zero, List.set_cons_succ])
      refine free_read rfl (by rfl) (v := _) ?_ ⟨grownBy_refl _ _, hG, rfl⟩
      go_simp
      (try with_reducible rfl)
    case _ =>
      have x1 := hG.cell h1 (by simp); have x2 := hG.cell h2 (by simp); have y1 := hG.cell k1 (by simp); have y2 := hG.cell k2 (by simp)
      (repeat (refine given_step rfl (fun v h => ?_); (try dsimp only at h); (try subst h)))
      refine given_nil ?_
      (try simp only [Act.put, List.setIfInBounds_toArray, List.set_cons_zero, List.set_cons_succ])
      refine free_read rfl (by rfl) (v := _) ?_ ⟨grownBy_refl _ _, hG, rfl⟩
      go_simp
      (try with_reducible rfl)
    case _ =>
      have x1 := hG.cell h1 (by simp); have x2 := hG.cell h2 (by simp); have y1 := hG.cell k1 (by simp); have y2 := hG.cell k2 (by simp)
      (repeat (refine given_step rfl (fun v h => ?_); (try dsimp only at h); (try subst h)))
      refine given_nil ?_
      (try simp only [Act.put, List.setIfInBounds_toArray, List.set_cons_zero, List.set_cons_succ])
      refine free_read rfl (by rfl) (v := _) ?_ ⟨grownBy_refl _ _, hG, rfl⟩
      go_simp
      (try with_reducible rfl)
    case _ =>
      have x1 := hG.cell h1 (by simp); have x2 := hG.cell h2 (by simp); have y1 := hG.cell k1 (by simp); have y2 := hG.cell k2 (by simp)
      (repeat (refine given_step rfl (fun v h => ?_); (try dsimp only at h); (try subst h)))
      refine given_nil ?_
      (try simp only [Act.put, List.setIfInBounds_toArray, List.set_cons_zero, List.set_cons_succ])
      refine free_read rfl (by rfl) (v := _) ?_ ⟨grownBy_refl _ _, hG, rfl⟩
      go_simp
      (try with_reducible rfl)
    case _ =>
      have x1 := hG.cell h1 (by simp); have x2 := hG.cell h2 (by simp); have y1 := hG.cell k1 (by simp); have y2 := hG.cell k2 (by simp)
      (repeat (refine given_step rfl (fun v h => ?_); (try dsimp only at h); (try subst h)))
      refine given_nil ?_
      (try simp only [Act.put, List.setIfInBounds_toArray, List.set_cons_zero, List.set_cons_succ])
      refine free_read rfl (by rfl) (v := _) ?_ ⟨grownBy_refl _ _, hG, rfl⟩
      go_simp
      (try with_reducible rfl)
    case _ =>
      have x1 := hG.cell h1 (by simp); have x2 := hG.cell h2 (by simp); have y1 := hG.cell k1 (by simp); have y2 := hG.cell k2 (by simp)
      (repeat (refine given_step rfl (fun v h => ?_); (try dsimp only at h); (try subst h)))
      refine given_nil ?_
      (try simp only [Act.put, List.setIfInBounds_toArray, List.set_cons_zero, List.set_cons_succ])
      refine free_read rfl (by rfl) (v := _) ?_ ⟨grownBy_refl _ _, hG, rfl⟩
      go_simp
      (try with_reducible rfl)
    case _ =>
      (repeat (refine given_step rfl (fun v h => ?_); (try dsimp only at h); (try subst h)))
      refine given_nil ?_
      (try simp only [Act.put, List.setIfInBounds_toArray, List.set_cons_zero, List.set_cons_succ])
      refine wpOp_list rfl (fun K hK => ?_)
      go_simp
      refine (compare_int _ _ _).mono ?_
      rintro e w' ⟨rfl, rfl⟩
      exact hK _ _ ⟨_, rfl, (grownBy_refl _ _), grownBy_trans hG (grownBy_refl _ _), rfl⟩
    case _ =>
      have x1 := hG.cell h1 (by simp); have x2 := hG.cell h2 (by simp); have y1 := hG.cell k1 (by simp); have y2 := hG.cell k2 (by simp)
      (repeat (refine given_step rfl (fun v h => ?_); (try dsimp only at h); (try subst h)))
      refine given_nil ?_
      (try simp only [Act.put, List.setIfInBounds_toArray, List.set_cons_zero, List.set_cons_succ])
      refine free_read rfl (by rfl) (v := _) ?_ ⟨grownBy_refl _ _, hG, rfl⟩
      go_simp
      (try with_reducible rfl)
    case _ =>
      have x1 := hG.cell h1 (by simp); have x2 := hG.cell h2 (by simp); have y1 := hG.cell k1 (by simp); have y2 := hG.cell k2 (by simp)
      (repeat (refine given_step rfl (fun v h => ?_); (try dsimp only at h); (try subst h)))
      refine given_nil ?_
      (try simp only [Act.put, List.setIfInBounds_toArray, List.set_cons_zero, List.set_cons_succ])
      refine free_read rfl (by rfl) (v := _) ?_ ⟨grownBy_refl _ _, hG, rfl⟩
      go_simp
      (try with_reducible rfl)
    case _ =>
      have x1 := hG.cell h1 (by simp); have x2 := hG.cell h2 (by simp); have y1 := hG.cell k1 (by simp); have y2 := hG.cell k2 (by simp)
      (repeat (refine given_step rfl (fun v h => ?_); (try dsimp only at h); (try subst h)))
      refine given_nil ?_
      (try simp only [Act.put, List.setIfInBounds_toArray, List.set_cons_zero, List.set_cons_succ])
      refine free_read rfl (by rfl) (v := _) ?_ ⟨grownBy_refl _ _, hG, rfl⟩
      go_simp
      (try with_reducible rfl)
    case _ =>
      have x1 := hG.cell h1 (by simp); have x2 := hG.cell h2 (by simp); have y1 := hG.cell k1 (by simp); have y2 := hG.cell k2 (by simp)
      (repeat (refine given_step rfl (fun v h => ?_); (try dsimp only at h); (try subst h)))
      refine given_nil ?_
      (try simp only [Act.put, List.setIfInBounds_toArray, List.set_cons_zero, List.set_cons_succ])
      refine free_read rfl (by rfl) (v := _) ?_ ⟨grownBy_refl _ _, hG, rfl⟩
      go_simp
      (try with_reducible rfl)
    case _ =>
      have x1 := hG.cell h1 (by simp); have x2 := hG.cell h2 (by simp); have y1 := hG.cell k1 (by simp); have y2 := hG.cell k2 (by simp)
      (repeat (refine given_step rfl (fun v h => ?_); (try dsimp only at h); (try subst h)))
      refine given_nil ?_
      (try simp only [Act.put, List.setIfInBounds_toArray, List.set_cons_zero, List.set_cons_succ])
      refine free_read rfl (by rfl) (v := _) ?_ ⟨grownBy_refl _ _, hG, rfl⟩
      go_simp
      (try with_reducible rfl)
    case _ =>
      have x1 := hG.cell h1 (by simp); have x2 := hG.cell h2 (by simp); have y1 := hG.cell k1 (by simp); have y2 := hG.cell k2 (by simp)
      (repeat (refine given_step rfl (fun v h => ?_); (try dsimp only at h); (try subst h)))
      refine given_nil ?_
      (try simp only [Act.put, List.setIfInBounds_toArray, List.set_cons_zero, List.set_cons_succ])
      refine free_read rfl (by rfl) (v := _) ?_ ⟨grownBy_refl _ _, hG, rfl⟩
      go_simp
      (try with_reducible rfl)
    case _ =>
      (repeat (refine given_step rfl (fun v h => ?_); (try dsimp only at h); (try subst h)))
      refine given_nil ?_
      (try simp only [Act.put, List.setIfInBounds_toArray, List.set_cons_zero, List.set_cons_succ])
      refine wpOp_list rfl (fun K hK => ?_)
      go_simp
      refine (compare_int _ _ _).mono ?_
      rintro e w' ⟨rfl, rfl⟩
      exact hK _ _ ⟨_, rfl, (grownBy_refl _ _), grownBy_trans hG (grownBy_refl _ _), rfl⟩
    case _ =>
      (repeat (refine given_step rfl (fun v h => ?_); (try dsimp only at h); (try subst h)))
      refine given_nil ?_
      (try simp only [Act.put, List.setIfInBounds_toArray, List.set_cons_zero, List.set_cons_succ])
      refine wpOp_list rfl (fun K hK => ?_)
      go_simp
      exact hK _ _ ⟨_, rfl, World.grownBy_alloc _ _ none, grownBy_trans hG (World.grownBy_alloc _ _ none), ⟨_, rfl, Blk.new W _ _⟩⟩
    case _ =>
      refine given_step rfl (fun v h => ?_)
      obtain ⟨b, rfl, hb⟩ := h
      refine given_nil ?_
      (try simp only [Act.put, List.setIfInBounds_toArray, List.set_cons_zero, List.set_cons_succ])
      refine wpOp_list rfl (fun K hK => ?_)
      go_simp
      refine (or_two _ _ b 2 W (hb.cell (j := 0) rfl) (hb.cell (j := 1) rfl)).mono ?_
      rintro e w' ⟨rfl, rfl⟩
      exact hK _ _ ⟨_, rfl, grownBy_refl _ _, hG, rfl⟩
    case _ =>
      have x1 := hG.cell h1 (by simp); have x2 := hG.cell h2 (by simp); have y1 := hG.cell k1 (by simp); have y2 := hG.cell k2 (by simp)
      (repeat (refine given_step rfl (fun v h => ?_); (try dsimp only at h); (try subst h)))
      refine given_nil ?_
      (try simp only [Act.put, List.setIfInBounds_toArray, List.set_cons_zero, List.set_cons_succ])
      refine free_read rfl (by rfl) (v := _) ?_ ⟨grownBy_refl _ _, hG, rfl⟩
      go_simp
      (try with_reducible rfl)
    case _ =>
      have x1 := hG.cell h1 (by simp); have x2 := hG.cell h2 (by simp); have y1 := hG.cell k1 (by simp); have y2 := hG.cell k2 (by simp)
      (repeat (refine given_step rfl (fun v h => ?_); (try dsimp only at h); (try subst h)))
      refine given_nil ?_
      (try simp only [Act.put, List.setIfInBounds_toArray, List.set_cons_zero, List.set_cons_succ])
      refine free_read rfl (by rfl) (v := _) ?_ ⟨grownBy_refl _ _, hG, rfl⟩
      go_simp
      (try with_reducible rfl)
  case xend =>
    intro W hG
    (repeat (refine given_step rfl (fun v h => ?_); (try dsimp only at h); (try subst h)))
    refine given_nil ?_
    (try simp only [Act.put, List.setIfInBounds_toArray, List.set_cons_zero, List.set_cons_succ])
    go_wp2_with fail
    go_ret
    exact ⟨rfl, grownBy_trans hgw hG⟩

/-- Is an entry elder than another? -/
def eldB (x y : Ent) : Bool := decide (x.r < y.r ∨ (x.r = y.r ∧ x.a < y.a))
theorem elder_any (x y : Ent) (w : World) : Calls Try.prog 51 #[x.val, y.val] w fun e w' => e = .returned (.bool (eldB x y)) ∧ w.grownBy w' none := by
  have h := elder_any0 x.r y.r x.a y.a (.int .u64 (U x.h)) (.int .i64 x.s) (.int .u64 (U y.h)) (.int .i64 y.s) _ _ w rfl rfl ⟨_, rfl⟩ ⟨_, rfl⟩
  rw [or_elder] at h
  exact h

end Go.Proofs.Ytddpjfmogjcimaa
