/- Layer 20: ScriptCuts. -/
import Derived.Test.YtbjpjnkaaiajlaaScLw2
import Derived.Test.YtbjpjnkaaiajlaaScPk
import Derived.Test.YtbjpjnkaaiajlaaArgB
import Derived.Test.YtbjpjnkaaiajlaaArgU16
namespace Go.Proofs.Ytbjpjnkaaiajlaa
open Go.RowKit Go.WideShapes Go.ChangeShapes Go.ChangeAt

theorem bytes_small {x : SAct} (h1 : ∀ y ∈ x.key, y < 256) (h2 : ∀ y ∈ x.val, y < 256) : ∀ y ∈ x.bytes, y < 256 := by
  obtain ⟨k, key, val, n, ns, ka, va, na, kc, vc, nc⟩ := x
  unfold SAct.bytes actB
  dsimp only at h1 h2 ⊢
  have hz : ∀ ns : List Int, ∀ y ∈ numsB ns, y < 256 := fun ns y hy => by
    obtain ⟨n, _, hn⟩ := List.mem_flatMap.1 hy
    exact numB_lt _ _ y hn
  intro y hy
  simp only [List.mem_append] at hy
  rcases hy with ((((hy | hy) | hy) | hy) | hy) | hy
  · exact numB_lt _ _ y hy
  · split at hy
    · rcases List.mem_append.1 hy with h | h
      · exact numB_lt _ _ y h
      · exact h1 y h
    · simp at hy
  · split at hy
    · rcases List.mem_append.1 hy with h | h
      · exact numB_lt _ _ y h
      · exact h2 y h
    · simp at hy
  · split at hy
    · exact numB_lt _ _ y hy
    · simp at hy
  · split at hy
    · exact numB_lt _ _ y hy
    · simp at hy
  · exact hz ns y hy
theorem pack_small {l : List SAct} {w : World} (hg : ∀ x ∈ l, x.rgood w) : ∀ y ∈ (packOf l).1, y < 256 := by
  unfold packOf
  split
  · intro y hy
    rcases List.mem_append.1 hy with h | h
    · exact numB_lt _ _ y h
    · obtain ⟨x, hx, hy⟩ := List.mem_flatMap.1 h
      exact bytes_small (hg x hx).key (hg x hx).val y hy
  · intro y hy
    simp at hy

set_option maxRecDepth 100000 in
set_option maxHeartbeats 8000000 in
theorem scriptCuts_walk0 (l : List SAct) (a : Option Addr) (c : Nat) (cut more : Nat) (w : World) (hcut : cut ≤ 65535) (hmore : more ≤ 255) (hr : Rds w 5 (.slice a l.length c) l.length (ractsV l)) (hg : ∀ x ∈ l, x.rgood w) :
    Calls Try.prog 7 #[.slice a l.length c, .int .u16 (cut : Int), .int .u8 (more : Int)] w fun e w' => e = .returned (.bool true) ∧ Below w.heap.size w w' := by
  have hli := light_any l a c w hr
  cases hL : lightS l
  · rw [hL] at hli
    have HLI := Lib.hid hli
    clear hli hL hr hg
    go_enter Try.func7, Try.ntmps7
    go_wp2_with fail
    refine HLI.out.mono ?_
    rintro e w1 ⟨rfl, rfl⟩
    go_wp2_with fail
    go_ret
    exact ⟨rfl, Below.refl _ _⟩
  rw [hL] at hli
  obtain ⟨h60, hks, hbs⟩ := light_small hL
  have hsm := pack_small hg
  have HLI := Lib.hid hli
  have HOF := Lib.hid (of_any l a c w hr hg (by omega) hks)
  clear hli hL hr hg hks
  go_enter Try.func7, Try.ntmps7
  go_wp2_with fail
  refine HLI.out.mono ?_
  rintro e w1 ⟨rfl, rfl⟩
  go_wp2_with fail
  refine HOF.out.mono ?_
  rintro e w2 ⟨l', a2, c2, rfl, hd2, hm2, ho2, hg2⟩
  have hll := len_same hd2
  have hpk := ppack_any l' a2 c2 w2 (Rds.of_owns ho2) (fun x hx => (hm2 x hx).good) (by omega) (by rw [bytes_same hd2]; exact hbs)
  rw [packOf_same hd2] at hpk
  have HPK := Lib.hid hpk
  have G2 := Lib.hid hg2
  clear hd2 hm2 ho2 hg2 hpk HLI HOF hll
  by_cases hok : (packOf l).2 = 0
  · obtain ⟨hri, hps⟩ := packOf_ok hok
    have hpo : packOf l = (numB l.length 4 ++ flatA l, 0) := Prod.ext hps hok
    rw [hpo] at HPK hsm
    have hsm4 : 4 ≤ (numB l.length 4 ++ flatA l).length := by rw [List.length_append, numB_len]; omega
    have HCN := Lib.hid (fun ys T hs hT hm h => cut_no (l := l) (ys := ys) (T := T) hri (by omega) hs hT hm h)
    have HNC := Lib.hid (fun ys T h => np4_cut l.length (flatA l) ys T (by omega) h)
    have hpl : (numB l.length 4 ++ flatA l).length ≤ 39999999 := by rw [List.length_append, numB_len]; unfold flatA; omega
    obtain ⟨ps, hps2⟩ : ∃ ps, numB l.length 4 ++ flatA l = ps := ⟨_, rfl⟩
    rw [hps2] at hpl
    have HPL := Lib.hid hpl
    rw [hps2] at HPK hsm hsm4 HCN HNC
    have HN1 : Hid (∀ T, (nP 4 (ps ++ T, false)).1 ≤ 65536) := Lib.hid (fun T => by rw [← hps2, List.append_assoc, nP_num l.length 4 _ _ (by omega)]; omega)
    dsimp only at HPK hsm
    have HSM := Lib.hid hsm
    clear hok hri hps hpo hps2 hsm hpl hbs
    go_wp2_with fail
    refine HPK.out.mono ?_
    rintro e w3 ⟨a3, c3, rfl, o3, g3⟩
    have G3 := Lib.hid (grownBy_trans G2.out g3)
    obtain ⟨g, cap, e3⟩ := ownsRow_pos o3 (by omega)
    simp only [Value.slice.injEq, true_and] at e3
    obtain ⟨rfl, rfl⟩ := e3
    have R3 := Lib.hid (Rds.of_owns o3)
    have hcap : ps.length ≤ c3 := by
      rcases o3.2 with ⟨h, _⟩ | ⟨g2, cap2, cur2, h, _, _, h5, _⟩
      · cases h
      · simp only [Value.slice.injEq, true_and] at h
        rw [h.2]; exact h5
    clear o3 g3 HPK G2
    obtain ⟨i0, hi, hz0, hz1, hz2⟩ := info_parts infoByte
    obtain ⟨K, hK0⟩ : ∃ K, cut % ps.length = K := ⟨_, rfl⟩
    have hKl : K < ps.length := by rw [← hK0]; exact Nat.mod_lt _ (by omega)
    have hmod : (cut : Int) % (ps.length : Int) = (K : Int) := by rw [← hK0]; rfl
    have h0 : ((ps.length : Int) == 0) = false := beq_eq_false_iff_ne.2 (by omega)
    have hkc : (K : Int) ≤ (c3 : Int) := by omega
    have hkc0 : (0 : Int) ≤ (K : Int) := by omega
    have hps := HPL.out
    have hU1 : Hid (¬ okU (ps.take K)) := Lib.hid (HCN.out (ps.take K) (ps.drop K) (fun y hy => HSM.out y (List.mem_of_mem_take hy)) (fun e => by have := congrArg List.length e; rw [List.length_drop] at this; simp at this; omega) (HNC.out (ps.take K) (ps.drop K) (List.take_append_drop K ps)) (.inl (List.take_append_drop K ps)))
    have hU2 : Hid (¬ okU (ps ++ [more])) := Lib.hid (HCN.out (ps ++ [more]) [more] (fun y hy => by
      rcases List.mem_append.1 hy with h | h
      · exact HSM.out y h
      · rw [List.mem_singleton.1 h]; omega) (by simp) (HN1.out [more]) (.inr rfl))
    have hN2 := Lib.hid (HN1.out [more])
    have hN3 := Lib.hid (HNC.out (ps.take K) (ps.drop K) (List.take_append_drop K ps))
    have hlk : (ps.take K).length = K := by rw [List.length_take]; omega
    have hrk := R3.out.takeB (Nat.le_of_lt hKl) c3
    have hun := punpack_any (ps.take K) (some ⟨g, 0, none⟩) c3 w3 (by omega) (fun y hy => HSM.out y (List.mem_of_mem_take hy)) (by rw [hlk]; exact hrk)
    rw [hlk] at hun
    have HUN := Lib.hid hun
    clear hK0 hrk hlk hun HCN HNC HN1
    go_wp2_with fail
    refine HUN.out.mono ?_
    rintro e w4 ⟨lx, ax, cx, ex, rfl, hux, _, _, g4⟩
    obtain ⟨rfl, rfl⟩ : lx = [] ∧ ex = 5 := by
      rcases hux with h | h | h
      · have := hN3.out; omega
      · exact h.2.2
      · exact absurd h.2.1 hU1.out
    have G4 := Lib.hid (grownBy_trans G3.out g4)
    have R4 := Lib.hid ((R3.out.grown g4 (by simp)).grown (World.grownBy_alloc w4 (.cells #[] 5) none) (by simp))
    have HM4 : Hid ((w4.alloc (.cells #[] 5)).ownsRow w4.heap.size 5 1 (.slice (some ⟨w4.heap.size, 0, none⟩) 0 0) 0 []) := Lib.hid (World.ownsRow_made w4 #[] 0 (Nat.le_refl _) (by simp) (by simp))
    clear hux g4 HUN hmod hkc hkc0 R3
    dsimp only [List.length_nil]
    go_wp2_with (first
      | (at_builtin; refine wpList_append_rds rfl _ _ 24 rfl w4.heap.size 5 i0 (.int .u8 0) 1 1 Try.underlying24 hi hz0 hz1 hz2 rfl (by decide) (v := .slice (some ⟨w4.heap.size, 0, none⟩) 0 0) (n := 0) (xs := []) (sv := .slice (some ⟨g, 0, none⟩) ps.length c3) rfl HM4.out rfl R4.out (bytesV_one ps) (by unfold maxLen; omega) (by omega) (by simp) ?_; intro v5 w5 h1 h2 _; rw [Nat.zero_add, List.nil_append] at h1; (obtain ⟨a5, c5, rfl⟩ := (Rds.of_owns h1).slice); have G5 := Lib.hid (grownBy_trans G4.out (grownBy_new h2)); have O5 := Lib.hid (h1.alloc (.cells #[.int .u8 (more : Int)] 5)); have S5 := Lib.hid (Rds.of_blk (sz := 1) (n := 1) (c := 1) (Blk.new w5 5 [.int .u8 (more : Int)]) rfl (by unfold maxLen; omega)); have G5' := Lib.hid (grownBy_trans (grownBy_new h2) (World.grownBy_alloc w5 (.cells #[.int .u8 (more : Int)] 5) none)); clear h1 h2)
      | (at_builtin; refine wpList_append_rds rfl _ _ 24 rfl w4.heap.size 5 i0 (.int .u8 0) 1 1 Try.underlying24 hi hz0 hz1 hz2 rfl (by decide) (v := .slice a5 ps.length c5) (n := ps.length) (sv := .slice (some ⟨w5.heap.size, 0, none⟩) 1 1) rfl O5.out rfl S5.out (bytesV_one [more]) (by unfold maxLen; omega) (by omega) G5'.out.size ?_; intro v6 w6 h1 h2 _; (obtain ⟨a6, c6, rfl⟩ := (Rds.of_owns h1).slice); have G6 := Lib.hid (grownBy_trans G4.out (grownBy_own2 G5'.out O5.out (Nat.le_refl _) h2)); have R6 := Lib.hid (Rds.of_owns h1); clear h1 h2))
    have hun2 := punpack_any (ps ++ [more]) a6 c6 w6 (by rw [List.length_append, List.length_singleton]; omega) (fun y hy => by
      rcases List.mem_append.1 hy with h | h
      · exact HSM.out y h
      · rw [List.mem_singleton.1 h]; omega) (by rw [List.length_append, List.length_singleton, bytesV_app]; exact R6.out)
    rw [List.length_append, List.length_singleton] at hun2
    refine hun2.mono ?_
    rintro e w7 ⟨ly, ay, cy, ey, rfl, huy, _, _, g7⟩
    obtain ⟨rfl, rfl⟩ : ly = [] ∧ ey = 5 := by
      rcases huy with h | h | h
      · have := hN2.out; omega
      · exact h.2.2
      · exact absurd h.2.1 hU2.out
    have G7 := Lib.hid (grownBy_trans G6.out g7)
    clear huy g7 hun2
    dsimp only [List.length_nil]
    go_wp2_with fail
    refine (awake_any _).mono ?_
    rintro e w8 ⟨rfl, g8⟩
    have HE := Lib.hid (grownBy_trans G7.out g8)
    clear g8
    go_wp2_with fail
    go_ret
    exact ⟨rfl, below_grownBy HE.out⟩
  · have hpo := packOf_no hok
    rw [hpo] at HPK
    dsimp only at HPK
    clear hok hpo hsm hbs
    go_wp2_with fail
    refine HPK.out.mono ?_
    rintro e w3 ⟨a3, c3, rfl, o3, g3⟩
    have G3 := Lib.hid (grownBy_trans G2.out g3)
    clear o3 g3 HPK G2
    go_wp2_with fail
    refine (awake_any _).mono ?_
    rintro e w8 ⟨rfl, g8⟩
    have HE := Lib.hid (grownBy_trans G3.out g8)
    clear g8
    go_wp2_with fail
    go_ret
    exact ⟨rfl, below_grownBy HE.out⟩

section
variable {H : Type} {enc : TypeId × Value → H} {r : Reach} {b0 : Nat}
theorem scriptCuts_walk (w : World) {v0 v1 v2 : Value} {d0 d1 d2 : DataW H} {p0 p1 p2 : List MemPlace} (k0 : Value.okWide Try.prog w r b0 22 v0) (k1 : Value.okWide Try.prog w r b0 51 v1) (k2 : Value.okWide Try.prog w r b0 5 v2)
    (h0 : DataW.Trod enc Try.prog w 0 (fun _ => true) true 22 v0 d0 p0) (h1 : DataW.Trod enc Try.prog w 0 (fun _ => true) true 51 v1 d1 p1) (h2 : DataW.Trod enc Try.prog w 0 (fun _ => true) true 5 v2 d2 p2) :
    Calls Try.prog 7 #[v0, v1, v2] w fun e w' => e = .returned (.bool true) ∧ Below w.heap.size w w' := by
  obtain ⟨l, a, c, rfl, hr, hc, hg⟩ := arg_racts w k0 h0
  obtain ⟨cut, rfl, hcut⟩ := arg_u16' w k1 h1
  obtain ⟨more, rfl, hmore⟩ := arg_u8 w k2 h2
  exact scriptCuts_walk0 l a c cut more w hcut hmore hr hg
end

end Go.Proofs.Ytbjpjnkaaiajlaa
