/- Layer 2: MixHashes. -/
import Derived.Test.YtnlcjelmdfjkcaaRefBits4
import Derived.Test.YtnlcjelmdfjkcaaRefPre
import Derived.Test.YtnlcjelmdfjkcaaUnguard
namespace Go.Proofs.Ytnlcjelmdfjkcaa
open Go.RowKit Go.WideShapes Go.ChangeShapes Go.ChangeAt

theorem infoByte : (Try.prog.info? 5).map (fun i => (i.zero, i.size, i.bytes)) = some (some (.int .u8 0), 1, 1) := by kernel_rfl
set_option maxHeartbeats 1000000 in
theorem mixHashes_walk0 (s : BitVec 64) (xs : List Nat) (a : Option Addr) (c : Nat) (b : Int) (w : World) (hg : ∀ x ∈ xs, x < 256) (hr : Rds w 1 (.slice a xs.length c) xs.length (bytesV xs)) :
    Calls Try.prog 6 #[.int .u64 (U s), .slice a xs.length c, .int .i64 b] w fun e w' => e = .returned (.bool true) ∧ Below w.heap.size w w' := by
  by_cases h300 : 300 < xs.length
  · go_enter Try.func6, Try.ntmps6
    go_wp2
    go_ret
    exact ⟨rfl, Below.refl _ _⟩
  · have HR := Lib.hid hr
    have hl : xs.length ≤ 300 := by omega
    clear hr
    go_enter Try.func6, Try.ntmps6
    go_wp2_with fail
    refine (scramble_any _ _).mono ?_; rintro e w1 ⟨rfl, g1⟩
    go_wp2_with fail
    refine (rscramble_any _ _).mono ?_; rintro e w2 ⟨rfl, g2⟩
    have hq : (U (scr s) == U (scr s)) = true := by simp
    obtain ⟨i0, hi, hz0, hz1, hz2⟩ := info_parts infoByte
    go_wp2_with (at_builtin; refine wpList_unguard rfl ?_; refine wpList_append_rds rfl _ _ 31 rfl w2.heap.size 5 i0 (.int .u8 0) 1 1 Try.underlying31 hi hz0 hz1 hz2 rfl (by decide) (v := .slice (some ⟨w2.heap.size, 0, none⟩) 0 0) (n := 0) (xs := []) (sv := .slice a xs.length c) rfl (World.ownsRow_made w2 #[] 0 (Nat.le_refl _) (by simp) (by simp)) rfl ((HR.out.grown (grownBy_trans g1 g2) (by simp)).grown (World.grownBy_alloc _ _ none) (by simp)) (by simp [Value.oneCell', bytesV]) (by unfold maxLen; omega) (by omega) (by simp) ?_; intro v3 w3 h1 h2 _; simp only [Nat.zero_add, List.nil_append] at h1; have h4 := Rds.of_owns h1; obtain ⟨a3, c3, rfl⟩ := h4.slice; have R3 := Lib.hid h4; have G3 := Lib.hid (grownBy_trans (grownBy_trans g1 g2) (grownBy_new h2)); clear h1 h2 h4 g1 g2)
    refine (phash_any s xs _ _ _ hg R3.out).mono ?_; rintro e w4 ⟨rfl, g4⟩
    go_wp2_with fail
    refine (rhash_any s xs _ _ _ hg (HR.out.grown (grownBy_trans G3.out g4) (by simp))).mono ?_; rintro e w5 ⟨rfl, g5⟩
    have hq2 : (U (hashB s xs) == U (hashB s xs)) = true := by simp
    go_wp2_with fail
    refine (prefix_any s b _).mono ?_; rintro e w6 ⟨rfl, rfl⟩
    go_wp2_with fail
    refine (rprefix_any s b _).mono ?_; rintro e w7 ⟨rfl, g7⟩
    have hq3 : (pre s b == pre s b) = true := by simp
    go_wp2_with fail
    refine (awake_any _).mono ?_; rintro e w8 ⟨rfl, g8⟩
    go_wp2
    go_ret
    exact ⟨rfl, below_grownBy (grownBy_trans (grownBy_trans G3.out (grownBy_trans g4 g5)) (grownBy_trans g7 g8))⟩

section
variable {H : Type} {enc : TypeId × Value → H} {r : Reach} {b0 : Nat}
theorem mixHashes_walk (w : World) {v0 v1 v2 : Value} {d0 d1 d2 : DataW H} {p0 p1 p2 : List MemPlace} (k0 : Value.okWide Try.prog w r b0 26 v0) (k1 : Value.okWide Try.prog w r b0 31 v1) (k2 : Value.okWide Try.prog w r b0 3 v2)
    (h0 : DataW.Trod enc Try.prog w 0 (fun _ => true) true 26 v0 d0 p0) (h1 : DataW.Trod enc Try.prog w 0 (fun _ => true) true 31 v1 d1 p1) (h2 : DataW.Trod enc Try.prog w 0 (fun _ => true) true 3 v2 d2 p2) :
    Calls Try.prog 6 #[v0, v1, v2] w fun e w' => e = .returned (.bool true) ∧ Below w.heap.size w w' := by
  obtain ⟨s, rfl⟩ := arg_u64 w k0 h0
  obtain ⟨xs, a, c, rfl, hr, hg⟩ := arg_bytes w k1 h1
  obtain ⟨b, rfl, _⟩ := arg_int w k2 h2
  exact mixHashes_walk0 s xs a c b w hg hr
end

end Go.Proofs.Ytnlcjelmdfjkcaa
