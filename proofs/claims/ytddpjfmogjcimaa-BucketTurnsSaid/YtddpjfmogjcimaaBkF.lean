/- Layer 14: the walk of BucketFresh. -/
import Derived.Test.YtddpjfmogjcimaaBkFresh
import Derived.Test.YtddpjfmogjcimaaBkOf
import Derived.Test.YtddpjfmogjcimaaBkTold
import Derived.Test.YtddpjfmogjcimaaRight
import Derived.Test.YtddpjfmogjcimaaBkAwake
import Derived.Test.YtddpjfmogjcimaaBkArgs
namespace Go.Proofs.Ytddpjfmogjcimaa
open Go.RowKit Go.WideShapes Go.ChangeShapes Go.ChangeAt

theorem freshL_twice (x y : Int) (xs : List Ent) : freshL y (freshL x xs) = freshL (if x ≤ y then y else x) xs := by
  unfold freshL
  rw [List.filter_filter]
  congr 1
  funext e
  rw [Bool.eq_iff_iff]
  simp only [Bool.and_eq_true, decide_eq_true_eq]
  split <;> omega

theorem freshL_twice' (x y : Int) (xs : List Ent) : freshL x (freshL y xs) = freshL (if x ≤ y then y else x) xs := by
  unfold freshL
  rw [List.filter_filter]
  congr 1
  funext e
  rw [Bool.eq_iff_iff]
  simp only [Bool.and_eq_true, decide_eq_true_eq]
  split <;> omega

set_option maxRecDepth 100000 in
theorem rightB_true {d p slots : Int} {xs : List Ent} (h : rightB d p slots xs = true) : 0 ≤ d ∧ d ≤ 8 ∧ 0 ≤ p ∧ p < 256 ∧ (xs.length : Int) ≤ slots ∧ slots ≤ 255 := by
  unfold rightB headB at h
  rw [Bool.and_eq_true] at h
  have h1 := of_decide_eq_true h.1
  obtain ⟨n, hn⟩ := Int.eq_ofNat_of_zero_le (show 0 ≤ d by omega)
  have h2 : 2 ^ n ≤ 256 := pow8 n (by omega)
  have h3 := h1.2.2.2.2.2.2
  rw [hn, Int.toNat_natCast] at h3
  have : p < 256 := by
    have : (2 : Int) ^ n ≤ 256 := by exact_mod_cast h2
    omega
  omega

set_option maxRecDepth 100000 in
set_option maxHeartbeats 8000000 in
theorem bucketFresh_walk0 (d p : Int) (xs : List Ent) (a : Option Addr) (c : Nat) (x y : Int) (w : World) (hr : Rds w 4 (.slice a xs.length c) xs.length (entsV xs)) :
    Calls Try.prog 3 #[.agg #[.int .i64 d, .int .i64 p, .slice a xs.length c], .int .i64 x, .int .i64 y] w fun e w' => e = .returned (.bool true) ∧ Below w.heap.size w w' := by
  by_cases hbig : 255 < xs.length
  · have hbi : (255 : Int) < xs.length := by omega
    have hm := hr.2.1
    unfold maxLen at hm
    go_enter Try.func3, Try.ntmps3
    go_wp2
    go_ret
    exact ⟨rfl, below_grownBy (World.grownBy_alloc _ _ none)⟩
  have hle : xs.length ≤ 255 := by omega
  have HR := Lib.hid hr
  have hri := fun W hW => rright_any d p 255 xs a c W hW
  clear hr hbig
  cases hB : rightB d p 255 xs
  · rw [hB] at hri
    have HRI := Lib.hid hri
    clear hri hB
    go_enter Try.func3, Try.ntmps3
    go_wp2_with fail
    refine (HRI.out _ (HR.out.alloc _)).mono ?_
    rintro e w1 ⟨rfl, g1⟩
    have h0 := ((Blk.new w 24 [.int .i64 d, .int .i64 p, .slice a xs.length c]).grown g1 (by simp)).cell (j := 2) rfl
    go_wp2_with fail
    refine (awake_any _).mono ?_
    rintro e w2 ⟨rfl, g2⟩
    go_wp2
    go_ret
    exact ⟨rfl, below_grownBy (grownBy_trans (grownBy_trans (World.grownBy_alloc _ _ none) g1) g2)⟩
  · rw [hB] at hri
    have HRI := Lib.hid hri
    clear hri hB
    go_enter Try.func3, Try.ntmps3
    go_wp2_with fail
    refine (HRI.out _ (HR.out.alloc _)).mono ?_
    rintro e w1 ⟨rfl, g1⟩
    have hb := (Blk.new w 24 [.int .i64 d, .int .i64 p, .slice a xs.length c]).grown g1 (by simp)
    have h0 := hb.cell (j := 0) rfl
    have h1 := hb.cell (j := 1) rfl
    have h2 := hb.cell (j := 2) rfl
    have HB := Lib.hid hb
    have G1 := Lib.hid (grownBy_trans (World.grownBy_alloc w _ none) g1)
    clear hb g1
    go_wp2_with fail
    refine (of14_any d p xs a c _ (by omega) (HR.out.grown G1.out (by simp))).mono ?_
    rintro e w2 ⟨v, rfl, o2, g2⟩
    obtain ⟨a2, c2, rfl⟩ := (Rds.of_owns o2).slice
    go_wp2_with fail
    refine (fresh_any d p x xs a2 c2 _ (by omega) (Rds.of_owns o2)).mono ?_
    rintro e w3 ⟨v, rfl, o3, g3⟩
    obtain ⟨a3, c3, rfl⟩ := (Rds.of_owns o3).slice
    go_wp2_with fail
    refine (fresh_any d p y (freshL x xs) a3 c3 _ (Nat.le_trans (freshL_len _ _) (by omega)) (Rds.of_owns o3)).mono ?_
    rintro e w4 ⟨v, rfl, o4, g4⟩
    obtain ⟨a4, c4, rfl⟩ := (Rds.of_owns o4).slice
    obtain ⟨z, hz⟩ : ∃ z : Int, (if x ≤ y then y else x) = z := ⟨_, rfl⟩
    obtain ⟨M, hM⟩ : ∃ M, freshL z xs = M := ⟨_, rfl⟩
    have hM1 : freshL y (freshL x xs) = M := by rw [freshL_twice, hz, hM]
    have HM2 : Hid (freshL x (freshL y xs) = M) := Lib.hid (by rw [freshL_twice', hz, hM])
    have HM3 := Lib.hid hM
    have HZ := Lib.hid hz
    rw [hM1] at o4 ⊢
    clear hM hM1 hz
    have g5 := grownBy_trans (grownBy_trans g2 (grownBy_trans g3 g4)) (World.grownBy_alloc w4 (.cells #[.int .i64 d, .int .i64 p, .slice a4 M.length c4] 29) none)
    have k0 := HB.out.grown g5 (by simp)
    have h0 := k0.cell (j := 0) rfl
    have h1 := k0.cell (j := 1) rfl
    have h2 := k0.cell (j := 2) rfl
    have B5 := Lib.hid (Blk.new w4 29 [.int .i64 d, .int .i64 p, .slice a4 M.length c4])
    have G5 := Lib.hid (grownBy_trans G1.out g5)
    have R5 := Lib.hid (Rds.of_owns (o4.alloc (.cells #[.int .i64 d, .int .i64 p, .slice a4 M.length c4] 29)))
    have K5 := Lib.hid k0
    clear o2 o3 o4 g2 g3 g4 g5 k0 HB
    go_wp2_with fail
    refine (of14_any d p xs a c _ (by omega) (HR.out.grown G5.out (by simp))).mono ?_
    rintro e w6 ⟨v, rfl, o6, g6⟩
    obtain ⟨a6, c6, rfl⟩ := (Rds.of_owns o6).slice
    go_wp2_with fail
    refine (fresh_any d p y xs a6 c6 _ (by omega) (Rds.of_owns o6)).mono ?_
    rintro e w7 ⟨v, rfl, o7, g7⟩
    obtain ⟨a7, c7, rfl⟩ := (Rds.of_owns o7).slice
    go_wp2_with fail
    refine (fresh_any d p x (freshL y xs) a7 c7 _ (Nat.le_trans (freshL_len _ _) (by omega)) (Rds.of_owns o7)).mono ?_
    rintro e w8 ⟨v, rfl, o8, g8⟩
    obtain ⟨a8, c8, rfl⟩ := (Rds.of_owns o8).slice
    have hM1 := HM2.out
    rw [hM1] at o8 ⊢
    clear hM1
    have g9 := grownBy_trans (grownBy_trans g6 (grownBy_trans g7 g8)) (World.grownBy_alloc w8 (.cells #[.int .i64 d, .int .i64 p, .slice a8 M.length c8] 29) none)
    have k0 := K5.out.grown g9 (by simp)
    have h0 := k0.cell (j := 0) rfl
    have h1 := k0.cell (j := 1) rfl
    have h2 := k0.cell (j := 2) rfl
    have B9 := Lib.hid (B5.out.grown g9 (by simp))
    have R9 := Lib.hid (R5.out.grown g9 (by simp))
    have D9 := Lib.hid (Blk.new w8 29 [.int .i64 d, .int .i64 p, .slice a8 M.length c8])
    have G9 := Lib.hid (grownBy_trans G5.out g9)
    have S9 := Lib.hid (Rds.of_owns (o8.alloc (.cells #[.int .i64 d, .int .i64 p, .slice a8 M.length c8] 29)))
    have K9 := Lib.hid k0
    clear o6 o7 o8 g6 g7 g8 g9 k0 K5 B5 R5 G5
    have HF : Hid (∀ q, q = z → ∀ W : World, w.grownBy W none → Calls Try.prog 13 #[.agg #[.int .i64 d, .int .i64 p, .slice a xs.length c], .int .i64 q] W fun e w' => ∃ v, e = .returned (.agg #[.int .i64 d, .int .i64 p, v]) ∧ w'.ownsRow W.heap.size 44 4 v M.length (entsV M) ∧ W.grownBy w' none) := Lib.hid (fun q hq W hW => by
      have h := rfresh_any d p q xs a c W (by omega) (HR.out.grown hW (by simp))
      rw [hq, HM3.out] at h
      rw [hq]
      exact h)
    clear HM3 HM2
    rcases (show x < y ∨ x = y ∨ y < x by omega) with hxy | rfl | hxy
    all_goals
      have hz := HZ.out
      first | rw [if_pos (by omega)] at hz | rw [if_neg (by omega)] at hz
      subst hz
      go_wp2_with fail
      refine (HF.out _ rfl _ (grownBy_trans G9.out (grownBy_refl _ _))).mono ?_
      rintro e w10 ⟨v, rfl, o10, g10⟩
      obtain ⟨a10, c10, rfl⟩ := (Rds.of_owns o10).slice
      have g11 := grownBy_trans g10 (World.grownBy_alloc w10 (.cells #[.int .i64 d, .int .i64 p, .slice a10 M.length c10] 24) none)
      have bb := B9.out.grown g11 (by simp)
      have dd := D9.out.grown g11 (by simp)
      have ee := Blk.new w10 24 [.int .i64 d, .int .i64 p, .slice a10 M.length c10]
      have h0 := bb.cell (j := 0) rfl
      have h1 := bb.cell (j := 1) rfl
      have h2 := bb.cell (j := 2) rfl
      have R11 := Lib.hid (R9.out.grown g11 (by simp))
      have S11 := Lib.hid (S9.out.grown g11 (by simp))
      have T11 := Lib.hid (Rds.of_owns (o10.alloc (.cells #[.int .i64 d, .int .i64 p, .slice a10 M.length c10] 24)))
      have DD := Lib.hid dd
      have EE := Lib.hid ee
      have G11 := Lib.hid (grownBy_trans G9.out g11)
      clear bb dd ee g10 g11 o10 R9 S9 B9 D9 K9 G9 HF HZ
      go_wp2_with fail
      refine (told_yes d p M _ _ _ _ _ R11.out T11.out).mono ?_
      rintro e w12 ⟨rfl, g12⟩
      have dd := DD.out.grown g12 (by simp)
      have ee := EE.out.grown g12 (by simp)
      have h0 := dd.cell (j := 0) rfl
      have h1 := dd.cell (j := 1) rfl
      have h2 := dd.cell (j := 2) rfl
      have k0 := ee.cell (j := 0) rfl
      have k1 := ee.cell (j := 1) rfl
      have k2 := ee.cell (j := 2) rfl
      have S12 := Lib.hid (S11.out.grown g12 (by simp))
      have T12 := Lib.hid (T11.out.grown g12 (by simp))
      have G12 := Lib.hid (grownBy_trans G11.out g12)
      clear dd ee g12 DD EE S11 T11 G11
      go_wp2_with fail
      refine (told_yes d p M _ _ _ _ _ S12.out T12.out).mono ?_
      rintro e w13 ⟨rfl, g13⟩
      have G13 := Lib.hid (grownBy_trans G12.out g13)
      clear g13 G12 S12 T12 h0 h1 h2 k0 k1 k2
      go_wp2_with fail
      refine (awake_any _).mono ?_
      rintro e w14 ⟨rfl, g14⟩
      go_wp2
      go_ret
      exact ⟨rfl, below_grownBy (grownBy_trans G13.out g14)⟩

section
variable {H : Type} {enc : TypeId × Value → H} {r : Reach} {b0 : Nat}
set_option maxRecDepth 100000 in
theorem bucketFresh_walk (w : World) {v0 v1 v2 : Value} {d0 d1 d2 : DataW H} {p0 p1 p2 : List MemPlace} (k0 : Value.okWide Try.prog w r b0 24 v0) (k1 : Value.okWide Try.prog w r b0 3 v1) (k2 : Value.okWide Try.prog w r b0 3 v2)
    (h0 : DataW.Trod enc Try.prog w 0 (fun _ => true) true 24 v0 d0 p0) (h1 : DataW.Trod enc Try.prog w 0 (fun _ => true) true 3 v1 d1 p1) (h2 : DataW.Trod enc Try.prog w 0 (fun _ => true) true 3 v2 d2 p2) :
    Calls Try.prog 3 #[v0, v1, v2] w fun e w' => e = .returned (.bool true) ∧ Below w.heap.size w w' := by
  obtain ⟨d, p, xs, a, c, rfl, hr⟩ := arg_bucket w k0 h0
  obtain ⟨x, rfl, _⟩ := arg_int w k1 h1
  obtain ⟨y, rfl, _⟩ := arg_int w k2 h2
  exact bucketFresh_walk0 d p xs a c x y w hr
end

end Go.Proofs.Ytddpjfmogjcimaa
