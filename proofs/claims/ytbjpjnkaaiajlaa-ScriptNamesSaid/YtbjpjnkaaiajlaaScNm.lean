/- Layer 20: ScriptNames. -/
import Derived.Test.YtbjpjnkaaiajlaaScA
import Derived.Test.YtbjpjnkaaiajlaaArgI
namespace Go.Proofs.Ytbjpjnkaaiajlaa
open Go.RowKit Go.WideShapes Go.ChangeShapes Go.ChangeAt

set_option maxRecDepth 100000 in
set_option maxHeartbeats 2000000 in
theorem scriptNames_walk0 (x : Int) (s : ByteArray) (w : World) :
    Calls Try.prog 4 #[.int .i64 x, .string s] w fun e w' => e = .returned (.bool true) ∧ Below w.heap.size w w' := by
  by_cases hl : 50 < s.size
  · have h1 : decide ((50 : Int) < (s.size : Int)) = true := decide_eq_true (by omega)
    go_enter Try.func4, Try.ntmps4
    go_wp2_with fail
    go_ret
    exact ⟨rfl, Below.refl _ _⟩
  · have h1 : decide ((50 : Int) < (s.size : Int)) = false := decide_eq_false (by omega)
    go_enter Try.func4, Try.ntmps4
    go_wp2_with fail
    go_loopw [5, 6, 7] (fun a b i wr => ∃ j : Nat, j ≤ 10 ∧ i = .int .i64 j ∧ w.grownBy wr none ∧ ((a = .int .i64 0 ∧ b = .bool false ∧ ∀ k, k < j → (formOf k).name ≠ s) ∨ (∃ k : Nat, k < j ∧ (formOf k).name = s ∧ a = .int .i64 k ∧ b = .bool true))) (fun _ _ i _ => 10 - (intOf i).toNat)
    case atStart => exact ⟨0, by omega, rfl, grownBy_refl _ _, .inl ⟨rfl, rfl, fun k hk => by omega⟩⟩
    case round =>
      obtain ⟨j, hj, rfl, hgr, hcase⟩ := hrel
      by_cases hlt : j < 10
      · have HG := Lib.hid hgr
        have hfx : (formX (j : Int)).name = (formOf j).name := by
          unfold formX
          rw [if_pos (isK_iff.2 ⟨by omega, by omega⟩), Int.toNat_natCast]
        have HC := Lib.hid hcase
        clear hgr hcase
        by_cases hnm : (formOf j).name = s
        · have hnb : ((formOf j).name.toList == s.toList) = true := by rw [hnm]; simp
          have HNM := Lib.hid hnm
          clear hnm
          go_wp2_with fail
          refine (rname_any (j : Int) _).mono ?_
          rintro e w1 ⟨rfl, g1⟩
          rw [hfx]
          have HG1 := Lib.hid (grownBy_trans HG.out g1)
          clear g1
          go_wp2_with fail
          exact ⟨⟨j + 1, by omega, by go_num, HG1.out, .inr ⟨j, by omega, HNM.out, rfl, rfl⟩⟩, by simp [intOf]; omega⟩
        · have hnb : ((formOf j).name.toList == s.toList) = false := (Go.Lib.bytes_beq_false_iff _ _).2 hnm
          have HNM := Lib.hid hnm
          clear hnm
          go_wp2_with fail
          refine (rname_any (j : Int) _).mono ?_
          rintro e w1 ⟨rfl, g1⟩
          rw [hfx]
          have HG1 := Lib.hid (grownBy_trans HG.out g1)
          clear g1
          go_wp2_with fail
          refine ⟨⟨j + 1, by omega, by go_num, HG1.out, ?_⟩, by simp [intOf]; omega⟩
          rcases HC.out with ⟨ha, hb, hno⟩ | ⟨k, hk, h2, h3, h4⟩
          · refine .inl ⟨ha, hb, fun k hk => ?_⟩
            by_cases e : k = j
            · rw [e]; exact HNM.out
            · exact hno k (by omega)
          · exact .inr ⟨k, by omega, h2, h3, h4⟩
      · obtain rfl : j = 10 := by omega
        have HG := Lib.hid hgr
        have hko : ∃ a : Nat, ∃ b : Bool, u5 = .int .i64 a ∧ u6 = .bool b ∧ (kindOf s).getD 0 = a ∧ (kindOf s).isSome = b := by
          rcases hcase with ⟨ha, hb, hno⟩ | ⟨k, hk, h2, h3, h4⟩
          · rw [kindOf_none hno]
            exact ⟨0, false, ha, hb, rfl, rfl⟩
          · rw [kindOf_some hk h2]
            exact ⟨k, true, h3, h4, rfl, rfl⟩
        obtain ⟨ka, kb, rfl, rfl, h5, h6⟩ := hko
        have HK := Lib.hid (fun W => kind_any s W)
        rw [h5, h6] at HK
        have hnn : ((formX x).name.toList == (formX x).name.toList) = true := by simp
        have hkk : ((ka : Int) == (ka : Int)) = true := by simp
        have hbb : (kb == kb) = true := by simp
        clear hgr hcase h5 h6
        go_wp2_with fail
        refine (HK.out _).mono ?_
        rintro e w1 ⟨rfl, g1⟩
        have HG1 := Lib.hid (grownBy_trans HG.out g1)
        clear g1
        go_wp2_with fail
        refine (name_any x _).mono ?_
        rintro e w2 ⟨rfl, g2⟩
        have HG2 := Lib.hid (grownBy_trans HG1.out g2)
        clear g2
        go_wp2_with fail
        refine (rname_any x _).mono ?_
        rintro e w3 ⟨rfl, g3⟩
        have HG3 := Lib.hid (grownBy_trans HG2.out g3)
        clear g3
        obtain ⟨nm, hnm⟩ : ∃ nm, (formX x).name = nm := ⟨_, rfl⟩
        rw [hnm] at hnn ⊢
        clear hnm
        go_wp2_with fail
        refine (awake_any _).mono ?_
        rintro e w4 ⟨rfl, g4⟩
        have HG4 := Lib.hid (grownBy_trans HG3.out g4)
        clear g4
        go_wp2_with fail
        go_ret
        exact ⟨rfl, below_grownBy HG4.out⟩

section
variable {H : Type} {enc : TypeId × Value → H} {r : Reach} {b0 : Nat}
theorem scriptNames_walk (w : World) {v0 v1 : Value} {d0 d1 : DataW H} {p0 p1 : List MemPlace} (k0 : Value.okWide Try.prog w r b0 3 v0) (k1 : Value.okWide Try.prog w r b0 9 v1)
    (h0 : DataW.Trod enc Try.prog w 0 (fun _ => true) true 3 v0 d0 p0) (h1 : DataW.Trod enc Try.prog w 0 (fun _ => true) true 9 v1 d1 p1) :
    Calls Try.prog 4 #[v0, v1] w fun e w' => e = .returned (.bool true) ∧ Below w.heap.size w w' := by
  obtain ⟨x, rfl, _⟩ := arg_int w k0 h0
  obtain ⟨s, rfl, _⟩ := Go.ChangeMaps.open_string Try.underlying9 k1 h1
  exact scriptNames_walk0 x s w
end

end Go.Proofs.Ytbjpjnkaaiajlaa
