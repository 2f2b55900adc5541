/- The walks of tally.All, Reset, of the reference, of same. -/
import Derived.Test.YtndccejgljknkaaTally
import Derived.Lib.SliceRun
namespace Go.Proofs.Ytndccejgljknkaa
open Go.RowKit

theorem tall (b a : Nat) (cs : List Int) (hlen : cs.length ≤ 64) (w : World)
    (hT : Blk w b 43 [.slice (some ⟨a, 0, none⟩) cs.length cs.length]) (hC : Blk w a 3 (cs.map (Value.int .i64))) :
    Calls Try.prog 11 #[.pointer (some ⟨b, 0, none⟩)] w fun e w' => ∃ v', e = .returned v' ∧ w'.ownsRow w.heap.size 3 1 v' cs.length (cs.map (Value.int .i64)) ∧ w.grownBy w' none := by
  have hT0 : w.cell? ⟨b, 0, none⟩ = some (.slice (some ⟨a, 0, none⟩) cs.length cs.length) := hT.cell (j := 0) rfl
  have hR : Rds w 1 (.slice (some ⟨a, 0, none⟩) cs.length cs.length) cs.length (cs.map (Value.int .i64)) := Rds.of_blk hC (by simp) (by unfold maxLen; omega)
  go_enter Try.func11, Try.ntmps11
  go_wp2_with (go_at_call 18; refine (clone_any _ cs _ hR (by omega)).mono ?_; rintro e w' ⟨v', rfl, h1, h2⟩)
  go_ret
  exact ⟨_, rfl, h1, h2⟩

theorem treset (b a : Nat) (cs : List Int) (hlen : cs.length ≤ 64) (hpos : 1 ≤ cs.length) (w : World)
    (hT : Blk w b 43 [.slice (some ⟨a, 0, none⟩) cs.length cs.length]) (hC : Blk w a 3 (cs.map (Value.int .i64))) :
    Calls Try.prog 16 #[.pointer (some ⟨b, 0, none⟩)] w fun e w' => e = .returned (.tuple #[]) ∧ w.grownBy w' (some a) ∧ Blk w' a 3 (List.replicate cs.length (Value.int .i64 0)) := by
  have hT0 : w.cell? ⟨b, 0, none⟩ = some (.slice (some ⟨a, 0, none⟩) cs.length cs.length) := hT.cell (j := 0) rfl
  have hz : ∀ W : World, (zeroValue 3).run Try.prog W = .ok (.int .i64 0) W := fun W => by kernel_rfl
  have hcl := fun ty => Lib.run_clear_slice (P := Try.prog) w 22 3 ty (.int .i64 0) Try.underlying22 hz rfl rfl a 0 cs.length cs.length hpos (fun j hj => by rw [Nat.zero_add, hC.cell?]; simp [hj]) (fun j _ => hC.frozen _)
  go_enter Try.func16, Try.ntmps16
  go_wp2
  go_end0
  refine ⟨rfl, grownBy_setCells _ _ _ _, ?_⟩
  have h := blk_setCells a 3 (List.replicate cs.length (Value.int .i64 0)) (cs.map (Value.int .i64)) [] [] w (by simp) (by simpa using hC)
  simpa using h

theorem getD_map_int (xs : List Int) (k : Nat) (h : k < xs.length) : (xs.map (Value.int .i64))[k]? = some (.int .i64 (xs.getD k 0)) := by simp [h, List.getD]

theorem same_any (v u : Value) (xs ys : List Int) (w : World) (hv : Rds w 1 v xs.length (xs.map (Value.int .i64))) (hu : Rds w 1 u ys.length (ys.map (Value.int .i64))) :
    Calls Try.prog 12 #[v, u] w fun e w' => e = .returned (.bool (decide (xs = ys))) ∧ ∃ n, w' = w.drewN n := by
  have hm := hv.2.1
  have hm2 := hu.2.1
  unfold maxLen at hm hm2
  obtain ⟨a1, c1, rfl⟩ := hv.slice
  obtain ⟨a2, c2, rfl⟩ := hu.slice
  have hv0 := Lib.hid hv
  have hu0 := Lib.hid hu
  clear hv hu
  by_cases hl : xs.length = ys.length
  · have hl1 := Lib.hid hl
    rw [← hl]
    rw [← hl] at hu0 hm2
    clear hl
    have hne : ((xs.length : Int) != (xs.length : Int)) = false := by simp
    go_enter Try.func12, Try.ntmps12
    go_wp2
    go_loopw [5] (fun i wr => ∃ k n : Nat, k ≤ xs.length ∧ i = .int .i64 k ∧ (xs.take k = ys.take k) ∧ wr = w.drewN n) (fun i _ => xs.length - (intOf i).toNat)
    case atStart => exact ⟨0, 0, Nat.zero_le _, rfl, rfl, rfl⟩
    case round =>
      obtain ⟨k, n, hk, rfl, ht, rfl⟩ := hrel
      by_cases hlt : k < xs.length
      · obtain ⟨b1, o1, rfl, hc1⟩ := hv0.out.at' (by omega)
        obtain ⟨b2, o2, rfl, hc2⟩ := hu0.out.at' (by omega)
        have hlt2 : k < ys.length := by rw [← hl1.out]; exact hlt
        have hx : w.cell? ⟨b1, o1 + k, none⟩ = some (.int .i64 (xs.getD k 0)) := hc1 k _ (getD_map_int xs k hlt)
        have hy : w.cell? ⟨b2, o2 + k, none⟩ = some (.int .i64 (ys.getD k 0)) := hc2 k _ (getD_map_int ys k hlt2)
        have hs1 : xs.take (k + 1) = xs.take k ++ [xs.getD k 0] := by rw [List.take_succ_eq_append_getElem hlt]; simp [List.getD, hlt]
        have hs2 : ys.take (k + 1) = ys.take k ++ [ys.getD k 0] := by rw [List.take_succ_eq_append_getElem hlt2]; simp [List.getD, hlt2]
        have HS1 := Lib.hid hs1
        have HS2 := Lib.hid hs2
        have HT := Lib.hid ht
        clear hc1 hc2 hs1 hs2 ht
        generalize xs.getD k 0 = p at *
        generalize ys.getD k 0 = q at *
        by_cases hpq : p = q
        · subst hpq
          have hb : (p != p) = false := by simp
          go_wp2
          go_quiet (fail)
          go_wp2
          go_roundw
          case rel => exact ⟨k + 1, _, by omega, by go_num, by rw [HS1.out, HS2.out, HT.out], rfl⟩
          case measure => simp [intOf]; omega
        · have hb : (p != q) = true := by simp [hpq]
          have hd : decide (xs = ys) = false := by
            simp
            intro h
            subst h
            have := HS1.out.symm.trans HS2.out
            simp at this
            exact hpq this
          have HD := Lib.hid hd
          clear hpq hd
          go_wp2
          go_quiet (fail)
          go_wp2
          go_ret
          exact ⟨by rw [HD.out]; rfl, _, drewN_drewN _ _ _⟩
      · obtain rfl : k = xs.length := by omega
        have hd : decide (xs = ys) = true := by
          simp
          rw [List.take_of_length_le (Nat.le_refl _), List.take_of_length_le (by rw [hl1.out]; exact Nat.le_refl _)] at ht
          exact ht
        have HD := Lib.hid hd
        clear ht hd
        go_wp2
        go_ret
        exact ⟨by rw [HD.out]; rfl, _, rfl⟩
  · have hd : decide (xs = ys) = false := by simp; intro h; rw [h] at hl; exact hl rfl
    rw [hd]
    clear hd
    have hne : ((xs.length : Int) != (ys.length : Int)) = true := by simp; omega
    go_enter Try.func12, Try.ntmps12
    go_wp2
    go_ret
    exact ⟨rfl, 0, rfl⟩

end Go.Proofs.Ytndccejgljknkaa
