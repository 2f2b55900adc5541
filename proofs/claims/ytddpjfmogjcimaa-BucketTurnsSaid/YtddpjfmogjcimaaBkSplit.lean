/- bucket's Split. -/
import Derived.Test.YtddpjfmogjcimaaPartS
import Derived.Test.YtddpjfmogjcimaaPreW
import Derived.Laws.EntriesVeiled
namespace Go.Proofs.Ytddpjfmogjcimaa
open Go.RowKit

/-- Has the number a 1 behind the bucket's prefix? -/
def oneS (d : Int) (x : Ent) : Bool := pre x.h (d + 1) % 2 == 1

theorem pre_range (x : BitVec 64) (b : Int) : 0 ≤ pre x b ∧ pre x b < 1073741824 := by
  unfold pre
  split
  · omega
  · have h := pre_bound x b (by omega) (by omega)
    have hp : (2 : Int) ^ b.toNat ≤ 2 ^ 30 := by exact_mod_cast Nat.pow_le_pow_right (by omega) (by omega)
    omega

theorem split1_any (x : Ent) (B : Nat) (d : Int) (h0 : 0 ≤ d) (h8 : d ≤ 8) (W : World) (hb : W.cell? ⟨B, 0, none⟩ = some (.int .i64 d)) :
    Calls Try.prog 35 #[.agg #[.int .u64 (U x.h), .int .i64 x.r, .int .i64 x.a, .int .i64 x.s], .pointer (some ⟨B, 0, none⟩)] W fun e w' => e = .returned (.bool (oneS d x)) ∧ W.grownBy w' none := by
  have hb2 := (World.grownBy_alloc W (.cells #[.int .u64 (U x.h), .int .i64 x.r, .int .i64 x.a, .int .i64 x.s] 41) none).cell hb (by simp)
  have hq := pre_range x.h (d + 1)
  have hdef : oneS d x = (pre x.h (d + 1) % 2 == 1) := rfl
  have HP := Lib.hid (fun W => prefix_any x.h (d + 1) W)
  obtain ⟨hq0, hq1⟩ := hq
  rw [hdef]
  generalize pre x.h (d + 1) = q at *
  clear hdef
  go_enter Try.func35, Try.ntmps35
  go_wp2_with fail
  refine (HP.out _).mono ?_
  rintro e w1 ⟨rfl, rfl⟩
  go_wp2
  go_ret
  exact ⟨by first | rfl | simp, World.grownBy_alloc _ _ none⟩

def splitV (d p : Int) (v0 v1 : Value) : Value := .agg #[.int .i64 (d + 1), .int .i64 (2 * p), v0, .int .i64 (d + 1), .int .i64 (2 * p + 1), v1]

set_option maxRecDepth 100000 in
set_option maxHeartbeats 4000000 in
theorem split_any (d p : Int) (h0 : 0 ≤ d) (h8 : d ≤ 8) (p0 : 0 ≤ p) (p1 : p ≤ 1000) (xs : List Ent) (a : Option Addr) (c : Nat) (w : World) (hx : xs.length ≤ 300) (hr : Rds w 4 (.slice a xs.length c) xs.length (entsV xs)) :
    Calls Try.prog 15 #[.agg #[.int .i64 d, .int .i64 p, .slice a xs.length c]] w fun e w' => ∃ a0 c0 a1 c1, e = .returned (.agg #[.int .i64 (d + 1), .int .i64 (2 * p), .slice a0 (xs.filter fun x => !oneS d x).length c0, .int .i64 (d + 1), .int .i64 (2 * p + 1), .slice a1 (xs.filter (oneS d)).length c1]) ∧ w'.ownsRow w.heap.size 41 4 (.slice a0 (xs.filter fun x => !oneS d x).length c0) (xs.filter fun x => !oneS d x).length (entsV (xs.filter fun x => !oneS d x)) ∧ w'.ownsRow w.heap.size 41 4 (.slice a1 (xs.filter (oneS d)).length c1) (xs.filter (oneS d)).length (entsV (xs.filter (oneS d))) ∧ w.grownBy w' none := by
  have HR := Lib.hid hr
  clear hr
  go_enter Try.func15, Try.ntmps15
  go_wp2_with fail
  obtain ⟨w2, hw2⟩ : ∃ w2, (w.alloc (.cells #[.int .i64 d, .int .i64 p, .slice a xs.length c] 29)).alloc (.cells #[.int .i64 0, .int .i64 0, .slice none 0 0, .int .i64 0, .int .i64 0, .slice none 0 0] 35) = w2 := ⟨_, rfl⟩
  have hB0 : Blk w2 w.heap.size 29 [.int .i64 d, .int .i64 p, .slice a xs.length c] := by rw [← hw2]; exact (Blk.new w _ _).alloc _
  have hB1 : Blk w2 (w.heap.size + 1) 35 [.int .i64 0, .int .i64 0, .slice none 0 0, .int .i64 0, .int .i64 0, .slice none 0 0] := by
    rw [← hw2]
    have := Blk.new (w.alloc (.cells #[.int .i64 d, .int .i64 p, .slice a xs.length c] 29)) 35 [.int .i64 0, .int .i64 0, .slice none 0 0, .int .i64 0, .int .i64 0, .slice none 0 0]
    rw [World.size_alloc] at this
    exact this
  have hG : w.grownBy w2 none := by rw [← hw2]; exact grownBy_trans (World.grownBy_alloc w _ none) (World.grownBy_alloc _ _ none)
  have hS : w2.heap.size = w.heap.size + 2 := by rw [← hw2]; simp
  rw [hw2]
  clear hw2
  have HP := Lib.hid (parted_split w.heap.size (oneS d) xs a c w2 hx (HR.out.grown hG (by simp)) (Lib.hid (fun x W hW => split1_any x _ d h0 h8 W (hW.cell (hB0.cell (j := 0) rfl) (by simp)))))
  refine HP.out.mono ?_
  rintro e w3 ⟨v, v', rfl, o3, o3', g3⟩
  obtain ⟨a1, c1, rfl⟩ := (Rds.of_owns o3).slice
  obtain ⟨a0, c0, rfl⟩ := (Rds.of_owns o3').slice
  have k0 := (hB0.grown g3 (by simp)).cell (j := 0) rfl
  have k1 := (hB0.grown g3 (by simp)).cell (j := 1) rfl
  have hb := hB1.grown g3 (by simp)
  have d0 := hb.cell (j := 0) rfl
  have d1 := hb.cell (j := 1) rfl
  have d2 := hb.cell (j := 2) rfl
  have d3 := hb.cell (j := 3) rfl
  have d4 := hb.cell (j := 4) rfl
  have d5 := hb.cell (j := 5) rfl
  have f0 := hb.frozen 0
  have f1 := hb.frozen 1
  have f2 := hb.frozen 2
  have f3 := hb.frozen 3
  have f4 := hb.frozen 4
  have f5 := hb.frozen 5
  have HB := Lib.hid ((((((hb.setCell 0 (.int .i64 (d + 1))).setCell 1 (.int .i64 (2 * p))).setCell 2 (.slice a0 (xs.filter fun x => !oneS d x).length c0)).setCell 3 (.int .i64 (d + 1))).setCell 4 (.int .i64 (2 * p + 1))).setCell 5 (.slice a1 (xs.filter (oneS d)).length c1))
  have G3 := Lib.hid (grownBy_trans hG g3)
  have O3 := Lib.hid o3
  have O3' := Lib.hid o3'
  have HS := Lib.hid hS
  clear HP hB0 hB1 hG g3 o3 o3' hb hS
  go_wp2
  have z0 := HB.out.cell (j := 0) rfl
  have z1 := HB.out.cell (j := 1) rfl
  have z2 := HB.out.cell (j := 2) rfl
  have z3 := HB.out.cell (j := 3) rfl
  have z4 := HB.out.cell (j := 4) rfl
  have z5 := HB.out.cell (j := 5) rfl
  have hs := HS.out
  refine bodyPost_ret (v := .agg #[.int .i64 (d + 1), .int .i64 (2 * p), .slice a0 (xs.filter fun x => !oneS d x).length c0, .int .i64 (d + 1), .int .i64 (2 * p + 1), .slice a1 (xs.filter (oneS d)).length c1]) (by simp [results, Try.results15, go_sem, z0, z1, z2, z3, z4, z5]) rfl ⟨_, _, _, _, rfl, ?_, ?_, ?_⟩
  · exact ownsRow_mono (owns_set (owns_set (owns_set (owns_set (owns_set (owns_set O3'.out _ _ (by rw [hs]; simp)) _ _ (by rw [hs]; simp)) _ _ (by rw [hs]; simp)) _ _ (by rw [hs]; simp)) _ _ (by rw [hs]; simp)) _ _ (by rw [hs]; simp)) (by omega)
  · exact ownsRow_mono (owns_set (owns_set (owns_set (owns_set (owns_set (owns_set O3.out _ _ (by rw [hs]; simp)) _ _ (by rw [hs]; simp)) _ _ (by rw [hs]; simp)) _ _ (by rw [hs]; simp)) _ _ (by rw [hs]; simp)) _ _ (by rw [hs]; simp)) (by omega)
  · exact grownBy_base2 (grownBy_base2 (grownBy_base2 (grownBy_base2 (grownBy_base2 (grownBy_base2 G3.out (grownBy_setCell _ _ _) (by simp <;> omega)) (grownBy_setCell _ _ _) (by simp <;> omega)) (grownBy_setCell _ _ _) (by simp <;> omega)) (grownBy_setCell _ _ _) (by simp <;> omega)) (grownBy_setCell _ _ _) (by simp <;> omega)) (grownBy_setCell _ _ _) (by simp <;> omega)

end Go.Proofs.Ytddpjfmogjcimaa
