/- package wire: the Reader's Text. -/
import Derived.Test.YtbjpjnkaaiajlaaReaderN
namespace Go.Proofs.Ytbjpjnkaaiajlaa
open Go.RowKit

theorem ofB2_small (xs : List Nat) (h : ∀ x ∈ xs, x < 256) (hl : xs.length ≤ 2) : ofB xs < 65536 := by
  have h1 := ofB_lt xs h
  have h2 : 256 ^ xs.length ≤ 256 ^ 2 := Nat.pow_le_pow_right (by omega) hl
  omega
theorem take2_len (xs : List Nat) : (takeN xs 2).length ≤ 2 := by
  unfold takeN
  split
  · simp
  · rw [List.length_take]; omega

/-- A text is read: its length first. -/
def textL (xs : List Nat) : Int := ((ofB (takeN xs 2) : Nat) : Int)
def TPost (w : World) (B : Nat) (v : Value) (xs : List Nat) (bad : Bool) (e : Ending) (w' : World) : Prop :=
  ∃ a c v', e = .returned (.slice a (takeN (leftN xs 2) (textL xs)).length c) ∧ w'.ownsRow w.heap.size 5 1 (.slice a (takeN (leftN xs 2) (textL xs)).length c) (takeN (leftN xs 2) (textL xs)).length (bytesV (takeN (leftN xs 2) (textL xs))) ∧ RR w' B v' (leftN (leftN xs 2) (textL xs)) (badN (leftN xs 2) (badN xs bad 2) (textL xs)) ∧ (∀ b, v'.ownBlock = some b → v.ownBlock = some b) ∧ w.grownBy w' (some B)

theorem rtext_any (B : Nat) (v : Value) (xs : List Nat) (bad : Bool) (w : World) (h : RR w B v xs bad) :
    Calls Try.prog 45 #[.pointer (some ⟨B, 0, none⟩)] w (TPost w B v xs bad) := by
  have hsz := ofB2_small (takeN xs 2) (takeN_small xs 2 h.small) (take2_len xs)
  have hnum := rnum_any B v xs bad 2 w h
  have HNUM := Lib.hid hnum
  have HT : Hid (textL xs = ((ofB (takeN xs 2) : Nat) : Int)) := Lib.hid rfl
  clear h hnum
  have HN2 : Hid (∀ e w', NPost w B v xs bad 2 e w' → ∃ v', e = .returned (.int .u64 ((ofB (takeN xs 2) : Nat) : Int)) ∧ RR w' B v' (leftN xs 2) (badN xs bad 2) ∧ (∀ b, v'.ownBlock = some b → v.ownBlock = some b) ∧ w.grownBy w' (some B)) := Lib.hid (fun e w' h => h)
  generalize ofB (takeN xs 2) = t at *
  go_enter Try.func45, Try.ntmps45
  go_wp2_with fail
  refine HNUM.out.mono ?_
  intro e w1 hp
  obtain ⟨v1, rfl, r1, hv1, g1⟩ := HN2.out e w1 hp
  have hraw := rraw_any B v1 (leftN xs 2) (badN xs bad 2) t w1 r1
  have HRAW := Lib.hid hraw
  have HV1 := Lib.hid hv1
  have G1 := Lib.hid g1
  clear hp r1 hraw hv1 g1 HNUM HN2
  go_wp2_with fail
  refine HRAW.out.mono ?_
  rintro e w2 ⟨a, c, v2, rfl, o2, r2, hv2, g2⟩
  have HP : Hid (TPost w B v xs bad (.returned (.slice a (takeN (leftN xs 2) t).length c)) w2) := Lib.hid (by
    unfold TPost
    rw [HT.out]
    exact ⟨a, c, v2, rfl, ownsRow_mono o2 G1.out.size, r2, fun b hb => HV1.out b (hv2 b hb), grownBy_trans G1.out g2⟩)
  clear o2 r2 hv2 g2 HRAW
  go_wp2
  go_ret
  exact HP.out

end Go.Proofs.Ytbjpjnkaaiajlaa
