/- The document's All; law07's same. -/
import Derived.Test.YtjbfnnfbdjjjbaaDoorBitsRef2
namespace Go.Proofs.YtjbfnnfbdjjjbaaDoor
open Go.RowKit

def intsV (l : List Int) : List Value := l.map (Value.int .i64)
theorem intsV_get (l : List Int) (k : Nat) (h : k < l.length) : (intsV l)[k]? = some (.int .i64 (l.getD k 0)) := by simp [intsV, h, List.getD]
theorem takI_zero (f : Nat → Bool) : takI f 0 = [] := rfl
theorem takI_no (f : Nat → Bool) (k : Nat) (h : f k = false) : takI f (k + 1) = takI f k := takI_gap f k (k + 1) (by omega) (fun j h1 h2 => by have e : j = k := (by omega); rw [e]; exact h)

set_option maxRecDepth 100000 in
set_option maxHeartbeats 2000000 in
theorem rall7_any (a : Option Addr) (c n : Nat) (hand : Int) (f : Nat → Bool) (w : World) (hn : n ≤ 65536) (hr : Rds w 1 (.slice a n c) n (boolsV f n)) :
    Calls Tryd.prog 22 #[.agg #[.slice a n c, .int .i64 hand]] w fun e w' => ∃ a' c', e = .returned (.slice a' (takI f n).length c') ∧ Rds w' 1 (.slice a' (takI f n).length c') (takI f n).length (intsV (takI f n)) ∧ w.grownBy w' none := by
  obtain ⟨i0, hi, hz0, hz1, hz2⟩ := info_parts infoInt7
  obtain ⟨w1, hw1⟩ : ∃ w1, w.alloc (.cells #[.slice a n c, .int .i64 hand] 37) = w1 := ⟨_, rfl⟩
  have HBX : Hid (Blk w1 w.heap.size 37 [.slice a n c, .int .i64 hand]) := Lib.hid (by rw [← hw1]; exact Blk.new w _ _)
  have HG1 : Hid (w.grownBy w1 none) := Lib.hid (by rw [← hw1]; exact World.grownBy_alloc _ _ none)
  have HSZ : Hid (w1.heap.size = w.heap.size + 1) := Lib.hid (by rw [← hw1]; simp)
  have HR := Lib.hid (hr.grown HG1.out (by simp))
  clear hr
  go_enter Tryd.func22, Tryd.ntmps22
  go_wp2_with fail
  go_loopw [3, 4] (fun y i wr => ∃ (k : Nat) (ay : Option Addr) (cy : Nat), k ≤ n ∧ i = .int .i64 k ∧ y = .slice ay (takI f k).length cy ∧ wr.ownsRow w1.heap.size 3 1 (.slice ay (takI f k).length cy) (takI f k).length (intsV (takI f k)) ∧ w1.grownBy wr none) (fun _ i _ => n - (intOf i).toNat)
  case atStart => exact ⟨0, none, 0, by omega, rfl, rfl, World.ownsRow_nil _ _ _ _, grownBy_refl _ _⟩
  case round =>
    obtain ⟨k, ay, cy, hk, rfl, rfl, ho, hg⟩ := hrel
    have x0 := (HBX.out.grown hg (by simp)).cell (j := 0) rfl
    have HO := Lib.hid ho
    have HG := Lib.hid hg
    have hle := takI_len f k
    by_cases hlt : k < n
    · obtain ⟨b, o, rfl, hc⟩ := (HR.out.grown hg (by simp)).at' (by omega)
      have hci := hc k _ (boolsV_get f n k hlt)
      have hkl : decide ((k : Int) < (n : Int)) = true := decide_eq_true (by omega)
      have hkl2 : (k : Int) < (n : Int) := by omega
      clear hc ho hg
      cases hf : f k
      · rw [hf] at hci
        have HN := Lib.hid (takI_no f k hf)
        clear hf
        go_wp2_with fail
        go_roundw
        case rel => exact ⟨k + 1, ay, cy, by omega, by go_num, by rw [HN.out], by rw [HN.out]; exact HO.out, HG.out⟩
        case measure => simp [intOf]; omega
      · rw [hf] at hci
        have HN := Lib.hid (takI_one f k hf)
        have HL : Hid ((takI f (k + 1)).length = (takI f k).length + 1) := Lib.hid (by rw [HN.out]; simp)
        have HV : Hid (intsV (takI f k) ++ [.int .i64 (k : Int)] = intsV (takI f (k + 1))) := Lib.hid (by rw [HN.out]; simp [intsV])
        obtain ⟨m, hm⟩ : ∃ m, (takI f k).length = m := ⟨_, rfl⟩
        rw [hm] at HO HL hle ⊢
        clear hf hm
        go_wp2_with (at_builtin; refine wpList_append_rds rfl _ _ 31 rfl w1.heap.size 3 i0 (.int .i64 0) 1 8 Tryd.underlying31 hi hz0 hz1 hz2 rfl (by decide) (v := .slice ay m cy) (n := m) (xs := intsV (takI f k)) (sv := .slice (some ⟨wr.heap.size, 0, none⟩) 1 1) (m := 1) (news := [.int .i64 (k : Int)]) rfl (owns_grown HO.out (World.grownBy_alloc wr (.cells #[.int .i64 (k : Int)] 3) none)) rfl (Rds.of_blk (Blk.new wr _ [.int .i64 (k : Int)]) rfl (by unfold maxLen; omega)) (by simp [Value.oneCell']) (by unfold maxLen; omega) (by omega) (by have := HG.out.size; simp; omega) ?_; intro vp w5 h1 h2 _; rw [HV.out, ← HL.out] at h1; obtain ⟨a5, c5, rfl⟩ := (Rds.of_owns h1).slice; have H1 := Lib.hid h1; have H2 := Lib.hid (grownBy_own HG.out HO.out (Nat.le_refl _) h2); clear h1 h2)
        go_roundw
        case rel => exact ⟨k + 1, a5, c5, by omega, by go_num, rfl, H1.out, H2.out⟩
        case measure => simp [intOf]; omega
    · obtain rfl : k = n := by omega
      have hkl : decide ((k : Int) < (k : Int)) = false := decide_eq_false (by omega)
      clear ho hg
      go_wp2_with fail
      go_ret
      exact ⟨ay, cy, rfl, Rds.of_owns HO.out, grownBy_trans HG1.out HG.out⟩

set_option maxRecDepth 100000 in
set_option maxHeartbeats 2000000 in
theorem same7_yes (l : List Int) (a b : Option Addr) (c d : Nat) (w : World) (ha : Rds w 1 (.slice a l.length c) l.length (intsV l)) (hb : Rds w 1 (.slice b l.length d) l.length (intsV l)) :
    Calls Tryd.prog 23 #[.slice a l.length c, .slice b l.length d] w fun e w' => e = .returned (.bool true) ∧ w.grownBy w' none := by
  have hlm := ha.2.1
  unfold maxLen at hlm
  have hll : ((l.length : Int) != (l.length : Int)) = false := by simp
  have HA := Lib.hid ha
  have HB := Lib.hid hb
  clear ha hb
  go_enter Tryd.func23, Tryd.ntmps23
  go_wp2_with fail
  go_loopw [5] (fun i wr => ∃ k : Nat, k ≤ l.length ∧ i = .int .i64 k ∧ w.grownBy wr none) (fun i _ => l.length - (intOf i).toNat)
  case atStart => exact ⟨0, by omega, rfl, grownBy_refl _ _⟩
  case round =>
    obtain ⟨k, hk, rfl, hg⟩ := hrel
    have HG := Lib.hid hg
    by_cases hlt : k < l.length
    · obtain ⟨b1, o1, rfl, hc1⟩ := (HA.out.grown hg (by simp)).at' (by omega)
      obtain ⟨b2, o2, rfl, hc2⟩ := (HB.out.grown hg (by simp)).at' (by omega)
      have x1 := hc1 k _ (intsV_get l k hlt)
      have x2 := hc2 k _ (intsV_get l k hlt)
      have hkl : decide ((k : Int) < (l.length : Int)) = true := decide_eq_true (by omega)
      have hkl2 : (k : Int) < (l.length : Int) := by omega
      generalize l.getD k 0 = v at *
      have hvv : (v != v) = false := by simp
      clear hc1 hc2 hg
      go_wp2_with fail
      go_quiet (fail)
      have HG2 := Lib.hid (grownBy_trans HG.out (grownBy_drewN wr nq none))
      go_wp2_with fail
      go_roundw
      case rel => exact ⟨k + 1, by omega, by go_num, HG2.out⟩
      case measure => simp [intOf]; omega
    · obtain rfl : k = l.length := by omega
      have hkl : decide ((l.length : Int) < (l.length : Int)) = false := decide_eq_false (by omega)
      clear hg
      go_wp2_with fail
      go_ret
      exact ⟨rfl, HG.out⟩

end Go.Proofs.YtjbfnnfbdjjjbaaDoor
