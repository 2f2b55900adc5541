/- Layer 7: the walk of BitsRounds. -/
import Derived.Test.YtjbfnnfbdjjjbaaDoorSetNew
import Derived.Test.YtjbfnnfbdjjjbaaDoorSetCount
import Derived.Test.YtjbfnnfbdjjjbaaDoorArgU16
import Derived.Test.YtjbfnnfbdjjjbaaDoorArgB
namespace Go.Proofs.YtjbfnnfbdjjjbaaDoor
open Go.RowKit Go.WideShapes Go.ChangeShapes Go.ChangeAt

theorem SF.tab {w : World} {B g n hand : Nat} {f : Nat → Bool} (h : SF w B g n hand f) : Tab w ∧ 0 < w.heap.size := by
  obtain ⟨c, ws, hs, _⟩ := h
  exact ⟨hs.tab, hs.tlt⟩
theorem SF.as {w : World} {B g n hand : Nat} {f f' : Nat → Bool} (h : SF w B g n hand f) (e : ∀ j, f j = f' j) : SF w B g n hand f' := by
  rw [← show f = f' from funext e]
  exact h
theorem SF.hand {w : World} {B g n hand hand' : Nat} {f : Nat → Bool} (h : SF w B g n hand f) (e : hand = hand') : SF w B g n hand' f := e ▸ h
theorem countF_none (n : Nat) : countF n (fun _ => false) = 0 := by
  unfold countF
  simp

set_option maxHeartbeats 1000000 in
theorem bitsRounds_walk0 (n rounds : Nat) (w : World) (hn : n ≤ 65535) (hr : rounds ≤ 255) (hT : Tab w) (hG : 0 < w.heap.size) :
    Calls Tryd.prog 3 #[.int .u16 n, .int .u8 rounds] w fun e w' => e = .returned (.bool true) ∧ Below w.heap.size w w' := by
  have HTT := Lib.hid hT
  clear hT
  obtain ⟨m, hm⟩ : ∃ m : Nat, n % 300 + 1 = m := ⟨_, rfl⟩
  have em : (n : Int) % 300 + 1 = (m : Int) := by omega
  have hm1 : 1 ≤ m := by omega
  have hm2 : m ≤ 300 := by omega
  clear hm
  have hmod : ∀ i : Nat, Hid ((i : Int) % (m : Int) = ((i % m : Nat) : Int)) := fun i => Lib.hid (by push_cast; rfl)
  have HMOD := Lib.hid hmod
  clear hmod
  go_enter Tryd.func3, Tryd.ntmps3
  go_wp2_with fail
  clear em
  refine (snew_any m w hm1 (by omega) HTT.out hG).mono ?_
  rintro e w1 ⟨B, g, rfl, s1, hB, hg, g1⟩
  have HS1 := Lib.hid s1
  have HG1 := Lib.hid g1
  have HBG : Hid (∀ k, SOwn B g k → w.heap.size ≤ k) := Lib.hid (fun k hk => by rcases hk with rfl | rfl <;> assumption)
  clear s1 g1 hB hg
  go_wp2_with fail
  go_loopw [7] (fun i wr => ∃ k : Nat, k ≤ rounds ∧ i = .int .i64 k ∧ SF wr B g m (k % m) (fun _ => false) ∧ Touch (SOwn B g) w1 wr) (fun i _ => rounds - (intOf i).toNat)
  case atStart => exact ⟨0, by omega, rfl, by rw [Nat.zero_mod]; exact HS1.out, Touch.refl _ _⟩
  case round =>
    obtain ⟨k, hk, rfl, hs, ht⟩ := hrel
    have HS := Lib.hid hs
    have HT := Lib.hid ht
    clear hs ht
    by_cases hlt : k < rounds
    · obtain ⟨q, hq⟩ : ∃ q : Nat, k % m = q := ⟨_, rfl⟩
      have hi := (HMOD.out k).out
      have hkm : q < m := by rw [← hq]; exact Nat.mod_lt _ (by omega)
      have HQ : Hid ((q + 1) % m = (k + 1) % m) := Lib.hid (by rw [← hq, Nat.mod_add_mod])
      rw [hq] at HS hi
      clear hq
      have hib : inB m (q : Int) = true := decide_eq_true (by omega)
      have hkr : decide ((k : Int) < (rounds : Int)) = true := decide_eq_true (by omega)
      have hmz : ((m : Int) == 0) = false := by rw [beq_eq_false_iff_ne]; omega
      have hqq : ((q : Int) != (q : Int)) = false := by simp
      go_wp2_with fail
      refine (take_any B g m q _ wr HS.out).mono ?_
      rintro e w2 (⟨rfl, rfl, hall⟩ | ⟨i, rfl, htk, s2, t2⟩)
      · cases hall 0 (by omega)
      obtain rfl := took_is htk q hkm rfl (Nat.le_refl _) (fun j h1 h2 => by omega)
      have HS2 := Lib.hid s2
      have HT2 := Lib.hid (HT.out.trans t2)
      clear htk s2 t2
      go_wp2_with fail
      refine (clear_any B g m _ _ (i : Int) w2 HS2.out).mono ?_
      rintro e w3 ⟨rfl, s3, t3⟩
      have hhas : hasF m (markF m (fun _ => false) (i : Int)) (i : Int) = true := by
        unfold hasF markF
        rw [hib, Int.toNat_natCast]
        simp
      rw [hhas]
      have HS3 : Hid (SF w3 B g m ((k + 1) % m) (fun _ => false)) := Lib.hid ((s3.hand HQ.out).as (fun j => by
        unfold clearF markF
        rw [hib, Int.toNat_natCast]
        simp))
      have HT3 := Lib.hid (HT2.out.trans t3)
      clear s3 t3 hhas
      go_wp2_with fail
      go_roundw
      case rel => exact ⟨k + 1, by omega, by go_num, HS3.out, HT3.out⟩
      case measure => simp [intOf]; omega
    · obtain rfl : k = rounds := by omega
      have hkr : decide ((k : Int) < (k : Int)) = false := decide_eq_false (by omega)
      go_wp2_with fail
      refine (count_any B g m _ _ wr HS.out).mono ?_
      rintro e w2 ⟨rfl, rfl⟩
      rw [countF_none]
      go_wp2_with fail
      obtain ⟨hT2, hG2⟩ := HS.out.tab
      refine (sawake_any wr hT2 hG2).mono ?_
      rintro e w3 ⟨rfl, g3⟩
      have HE := Lib.hid (grownBy_trans (HT.out.grown HG1.out HBG.out) g3)
      clear g3 hT2 hG2
      go_wp2_with fail
      go_ret
      exact ⟨rfl, below_grownBy HE.out⟩

section
variable {H : Type} {enc : TypeId × Value → H} {r : Reach} {b0 : Nat}
theorem bitsRounds_walk (w : World) (hT : Tab w) (hG : 0 < w.heap.size) {v0 v1 : Value} {d0 d1 : DataW H} {p0 p1 : List MemPlace} (k0 : Value.okWide Tryd.prog w r b0 22 v0) (k1 : Value.okWide Tryd.prog w r b0 5 v1)
    (h0 : DataW.Trod enc Tryd.prog w 0 (fun _ => true) true 22 v0 d0 p0) (h1 : DataW.Trod enc Tryd.prog w 0 (fun _ => true) true 5 v1 d1 p1) :
    Calls Tryd.prog 3 #[v0, v1] w fun e w' => e = .returned (.bool true) ∧ Below w.heap.size w w' := by
  obtain ⟨x, rfl, hx⟩ := arg_u16' w k0 h0
  obtain ⟨y, rfl, hy⟩ := arg_u8 w k1 h1
  exact bitsRounds_walk0 x y w hx hy hT hG
end

end Go.Proofs.YtjbfnnfbdjjjbaaDoor
