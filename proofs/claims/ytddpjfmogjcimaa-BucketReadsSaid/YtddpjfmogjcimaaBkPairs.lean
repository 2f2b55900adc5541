/- package bucket: the pairs of neighbours, an iterator. -/
import Derived.Test.YtddpjfmogjcimaaBkRight2
import Derived.Test.YtddpjfmogjcimaaIter
import Derived.Test.YtddpjfmogjcimaaPlan2In
import Derived.Laws.EntriesVeiled
namespace Go.Proofs.Ytddpjfmogjcimaa
open Go.RowKit Go.Shelf
attribute [local go_sem] Oper.semAt_some

/-- Neighbours. -/
def pairsL (xs : List Ent) (k : Nat) : List (Ent × Ent) := upto (fun i => (xs.getD i Ent.zero, xs.getD (i + 1) Ent.zero)) k
abbrev encP (p : Ent × Ent) : Array Value := #[p.1.val, p.2.val]

theorem pairs_calls (d p : Int) (xs : List Ent) (a : Option Addr) (c : Nat) (w : World) :
    Calls Try.prog 38 #[.agg #[.int .i64 d, .int .i64 p, .slice a xs.length c]] w fun e w' => e = .returned (.func (.func 57) #[] #[.pointer (some ⟨w.heap.size, 0, none⟩)]) ∧ w' = w.alloc (.cells #[.int .i64 d, .int .i64 p, .slice a xs.length c] 29) := by
  go_enter Try.func38, Try.ntmps38
  go_wp2
  go_ret
  exact ⟨rfl, rfl⟩

set_option maxRecDepth 100000 in
set_option maxHeartbeats 4000000 in
theorem pairs1_in (n l s n₀ : Nat) (hn : 1 ≤ n) (xs : List Ent) (a : Option Addr) (c : Nat) (J Jx : List (Ent × Ent) → World → Prop)
    (hJ : ∀ pre A B, J pre A → A.grownBy B none → J pre B)
    (hY : ∀ pre x' W, J pre W → pre.length < xs.length - 1 → YieldAt Fence.wide (n - 1) Try.prog l (encP x') W fun e W' =>
      (e = .returned (.bool true) ∧ J (pre ++ [x']) W' ∧ Below n₀ W W') ∨ (e = .returned (.bool false) ∧ Jx (pre ++ [x']) W'))
    (W : World) (hB : W.cell? ⟨s, 2, none⟩ = some (.slice a xs.length c)) (hs : s < n₀) (hnw : n₀ ≤ W.heap.size) (hr : Rds W 4 (.slice a xs.length c) xs.length (entsV xs)) (hrb : xs ≠ [] → ∀ b, (Value.slice a xs.length c).ownBlock = some b → b < n₀) (h0 : J [] W) :
    CallsIn Fence.wide n Try.prog 57 #[.func (.yield l) #[] #[], .pointer (some ⟨s, 0, none⟩)] W fun e W' => (∃ v, e = .returned v) ∧
      ((∃ ys, ys = pairsL xs (xs.length - 1) ∧ J ys W') ∨ (∃ pre, (∃ k, k ≤ xs.length - 1 ∧ pre = pairsL xs k) ∧ Jx pre W')) := by
  have hm := hr.2.1
  unfold maxLen at hm
  have HR := Lib.hid hr
  have HB := Lib.hid hB
  clear hr hB
  refine callsIn_of_wp Try.func57 rfl trivial ?_ rfl
  simp only [Try.ntmps57, List.size_toArray, List.length_cons, List.length_nil, Nat.reduceAdd, Nat.reduceSub, Array.replicate_succ, Array.replicate_zero, List.push_toArray, List.append_toArray, List.nil_append, List.cons_append]
  have b0 := HB.out
  gi_wp2
  gi_loopw [8] (fun i wr => ∃ k : Nat, k ≤ xs.length ∧ i = .int .i64 k ∧ J (pairsL xs (k - 1)) wr ∧ Below n₀ W wr) (fun i _ => xs.length - (intOf i).toNat)
  case atStart => exact ⟨0, Nat.zero_le _, rfl, h0, Below.refl _ _⟩
  case round =>
    obtain ⟨k, hk, rfl, hJs, hbl⟩ := hrel
    clear b0
    by_cases hlt : k < xs.length
    · have hrw := HR.out.below hbl (fun hne => hrb (fun e => hne (by rw [e]; rfl)))
      have HBL := Lib.hid hbl
      have b0 : wr.cell? ⟨s, 2, none⟩ = some (.slice a xs.length c) := (hbl.cell (p := ⟨s, 2, none⟩) hs).trans HB.out
      obtain ⟨b, o, rfl, hc⟩ := hrw.at' (by omega)
      obtain ⟨e0, e1, e2, e3⟩ := entsV_cells xs k hlt
      have x0 := hc _ _ e0
      have x1 := hc _ _ e1
      have x2 := hc _ _ e2
      have x3 := hc _ _ e3
      simp only [← Nat.add_assoc] at x1 x2 x3
      clear e0 e1 e2 e3
      cases k with
      | zero =>
        clear hc hrw
        simp only [Nat.zero_mul, Nat.add_zero] at x0 x1 x2 x3
        generalize hx : xs.getD 0 Ent.zero = x at *
        gi_wp2
        refine wpIn_region_planD (fun _ => True) [([0, 1, 2, 3, 4, 5, 6, 7, 8, 9, 10, 11, 12], 13, false)] (show Fence.wide.round = none from rfl) (by kernel_rfl) (by kernel_rfl) ?_
        refine wpPlanDIn_seg trivial ?_
        repeat ((first | (apply wpReadDIn_step rfl (fun _ => rfl) (by rfl); (· intro wS hSw; (try have hSw := hSw rfl); (try dsimp only at hSw); (try subst hSw); go_simp; (try with_reducible rfl))) | (apply wpReadDIn_skip rfl (fun _ => rfl) (by rfl))); (try simp only [Act.put, List.setIfInBounds_toArray, List.set_cons_zero, List.set_cons_succ]))
        refine wpReadDIn_nil ?_
        refine wpOpIn_list rfl (fun K hK => ?_)
        go_simp
        refine hK _ _ ?_
        first | refine ⟨fun hf => (by cases hf), ?_⟩ | skip
        clear hK K
        refine wpPlanDIn_nil (NoPanic.normal ?_)
        gi_wp2
        go_roundw
        case rel => exact ⟨1, by omega, rfl, hJ _ _ _ hJs (grownBy_trans (World.grownBy_alloc _ _ none) (grownBy_drewN _ 1 none)), HBL.out.trans ((below_grownBy (grownBy_trans (World.grownBy_alloc wr _ none) (grownBy_drewN _ 1 none))).mono (Nat.le_trans hnw HBL.out.size))⟩
        case measure => simp [intOf]; omega
      | succ k =>
        obtain ⟨e0, e1, e2, e3⟩ := entsV_cells xs k (by omega)
        have y0 := hc _ _ e0
        have y1 := hc _ _ e1
        have y2 := hc _ _ e2
        have y3 := hc _ _ e3
        simp only [← Nat.add_assoc] at y1 y2 y3
        have hJ1 := hJ _ _ ((wr.alloc (.cells #[.int .u64 (U (xs.getD (k + 1) Ent.zero).h), .int .i64 (xs.getD (k + 1) Ent.zero).r, .int .i64 (xs.getD (k + 1) Ent.zero).a, .int .i64 (xs.getD (k + 1) Ent.zero).s] 41)).drew) hJs (grownBy_trans (World.grownBy_alloc _ _ none) (grownBy_drewN _ 1 none))
        obtain ⟨fn, tmps, assign, body, hy, hRR⟩ := hY (pairsL xs (k + 1 - 1)) (xs.getD k Ent.zero, xs.getD (k + 1) Ent.zero) _ hJ1 (by simp [pairsL, upto]; omega)
        dsimp only [encP, Ent.val] at hy
        have HUP := Lib.hid (upto_succ (fun i => (xs.getD i Ent.zero, xs.getD (i + 1) Ent.zero)) k)
        clear e0 e1 e2 e3 hc hrw hJs
        generalize xs.getD (k + 1) Ent.zero = x at *
        generalize xs.getD k Ent.zero = y at *
        gi_wp2
        obtain ⟨W3, hW3⟩ : ∃ W3, (wr.alloc (.cells #[.int .u64 (U x.h), .int .i64 x.r, .int .i64 x.a, .int .i64 x.s] 41)).drew = W3 := ⟨_, rfl⟩
        have g3 : wr.grownBy W3 none := by rw [← hW3]; exact grownBy_trans (World.grownBy_alloc _ _ none) (grownBy_drewN _ 1 none)
        have hb3 : Blk W3 wr.heap.size 41 [.int .u64 (U x.h), .int .i64 x.r, .int .i64 x.a, .int .i64 x.s] := by rw [← hW3]; exact (Blk.new wr _ _).drew
        have c0 := g3.cell b0 (by simp)
        have z0 := hb3.cell (j := 0) rfl
        have z1 := hb3.cell (j := 1) rfl
        have z2 := hb3.cell (j := 2) rfl
        have z3 := hb3.cell (j := 3) rfl
        have y0 := g3.cell y0 (by simp)
        have y1 := g3.cell y1 (by simp)
        have y2 := g3.cell y2 (by simp)
        have y3 := g3.cell y3 (by simp)
        refine wpIn_region_planD (fun w' => w' = W3) [([0, 1, 2, 3, 4, 5, 6, 7, 8, 9, 10], 11, false), ([], 12, false), ([], 13, false)] (show Fence.wide.round = none from rfl) (by kernel_rfl) (by kernel_rfl) ?_
        rw [hW3]
        rw [hW3] at hy hJ1 hRR
        clear hW3 b0 x0 x1 x2 x3
        have hwk : IntKind.i64.wrap (k : Int) = k := IntWalk.i64_in _ (by omega)
        have hk0 : k < xs.length := by omega
        have hk1 : (k : Int) < xs.length := by omega
        refine wpPlanDIn_seg rfl ?_
        repeat ((first | (apply wpReadDIn_step rfl (fun _ => rfl) (by rfl); (· intro wS hSw; (try have hSw := hSw rfl); (try dsimp only at hSw); (try subst hSw); go_simp; (try with_reducible rfl))) | (apply wpReadDIn_skip rfl (fun _ => rfl) (by rfl))); (try simp only [Act.put, List.setIfInBounds_toArray, List.set_cons_zero, List.set_cons_succ]))
        refine wpReadDIn_nil ?_
        refine wpOpIn_list rfl (fun K hK => ?_)
        go_simp
        refine hRR.mono ?_
        rintro e W4 (⟨rfl, hJ4, hb4⟩ | ⟨rfl, hx4⟩)
        · dsimp only
          refine hK _ _ ?_
          first | refine ⟨fun hf => (by cases hf), ?_⟩ | skip
          clear hK K
          try simp only [Act.put, List.setIfInBounds_toArray, List.set_cons_zero, List.set_cons_succ]
          refine wpPlanDIn_one ?_
          refine wpOpIn_list rfl (fun K hK => ?_)
          go_simp
          refine hK _ _ ?_
          first | refine ⟨fun hf => (by cases hf), ?_⟩ | skip
          clear hK K
          try simp only [Act.put, List.setIfInBounds_toArray, List.set_cons_zero, List.set_cons_succ]
          refine wpPlanDIn_one ?_
          refine wpOpIn_list rfl (fun K hK => ?_)
          go_simp
          refine hK _ _ ?_
          first | refine ⟨fun hf => (by cases hf), ?_⟩ | skip
          clear hK K
          refine wpPlanDIn_nil (NoPanic.normal ?_)
          gi_wp2
          go_roundw
          case rel => exact ⟨k + 2, by omega, by go_num, by show J (pairsL xs (k + 1)) W4; unfold pairsL; rw [HUP.out]; exact hJ4, HBL.out.trans (((below_grownBy g3).mono (Nat.le_trans hnw HBL.out.size)).trans hb4)⟩
          case measure => simp [intOf]; omega
        · dsimp only
          refine hK _ _ ?_
          first | refine ⟨fun hf => (by cases hf), ?_⟩ | skip
          clear hK K
          try simp only [Act.put, List.setIfInBounds_toArray, List.set_cons_zero, List.set_cons_succ]
          refine wpPlanDIn_one ?_
          refine wpOpIn_list rfl (fun K hK => ?_)
          go_simp
          refine hK _ _ ?_
          first | refine ⟨fun hf => (by cases hf), ?_⟩ | skip
          clear hK K
          try simp only [Act.put, List.setIfInBounds_toArray, List.set_cons_zero, List.set_cons_succ]
          refine wpPlanDIn_one ?_
          refine wpOpIn_list rfl (fun K hK => ?_)
          go_simp
          refine hK _ _ ?_
          first | refine ⟨fun hf => (by cases hf), ?_⟩ | skip
          clear hK K
          refine wpPlanDIn_nil (NoPanic.normal ?_)
          gi_wp2
          refine bodyPost_ret (results_none rfl _ _ _) rfl ?_
          exact ⟨⟨_, rfl⟩, .inr ⟨_, ⟨k + 1, by omega, HUP.out.symm⟩, hx4⟩⟩
    · obtain rfl : k = xs.length := by omega
      gi_wp2
      go_end0
      exact ⟨⟨_, rfl⟩, .inl ⟨_, rfl, hJs⟩⟩

theorem pairs1_stops (n s n₀ : Nat) (hn : 1 ≤ n) (xs : List Ent) (a : Option Addr) (c : Nat) (w : World) (hs : s < n₀) (hnw : n₀ ≤ w.heap.size) (hB : w.cell? ⟨s, 2, none⟩ = some (.slice a xs.length c)) (hr : Rds w 4 (.slice a xs.length c) xs.length (entsV xs)) (hrb : xs ≠ [] → ∀ b, (Value.slice a xs.length c).ownBlock = some b → b < n₀) :
    SeqStopsK Fence.wide n Try.prog 57 #[.pointer (some ⟨s, 0, none⟩)] encP (Below n₀) (fun ys => ys = pairsL xs (xs.length - 1)) (fun pre => ∃ k, k ≤ xs.length - 1 ∧ pre = pairsL xs k) (xs.length - 1) w := fun l J Jx W hW hJ _ hY h0 =>
  pairs1_in n l s n₀ hn xs a c J Jx (fun pre A B h1 h2 => hJ pre A B none h1 h2 (fun r e => by cases e)) hY W ((hW.cell (p := ⟨s, 2, none⟩) (by show s < w.heap.size; omega)).trans hB) hs (Nat.le_trans hnw hW.size) (hr.below hW (fun hne b hb => by have := hrb (fun e => hne (by rw [e]; rfl)) b hb; omega)) hrb h0

end Go.Proofs.Ytddpjfmogjcimaa
