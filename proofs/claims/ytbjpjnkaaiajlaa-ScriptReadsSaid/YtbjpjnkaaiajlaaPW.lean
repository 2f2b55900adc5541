/- package wire: the Writer's Number. package wire: the Writer's Bytes. A writer that is not full, in memory of its own. -/
import Derived.Test.YtbjpjnkaaiajlaaWriter
namespace Go.Proofs.Ytbjpjnkaaiajlaa
section
open Go.RowKit

/-- What a number makes of a writer; what a text. -/
def putNum (xs : List Nat) (lim : Int) (full : Bool) (n : Nat) (k : Int) : List Nat × Bool := if mayB k = true then putW xs lim full (numB n k.toNat) else (xs, true)
def putText (xs : List Nat) (lim : Int) (full : Bool) (ys : List Nat) : List Nat × Bool := if 65535 < ys.length then (xs, true) else putW xs lim full (numB ys.length 2 ++ ys)

/-- What is asked of a call on a writer. -/
def WPost (w : World) (B : Nat) (v : Value) (lim : Int) (p : List Nat × Bool) (e : Ending) (w' : World) : Prop :=
  ∃ v', e = .returned (.tuple #[]) ∧ WR w' B v' p.1 lim p.2 ∧ Touch (WOwn B v) w w' ∧ ∀ k, WOwn B v' k → WOwn B v k ∨ w.heap.size ≤ k
theorem rawP (B : Nat) (v : Value) (xs ys : List Nat) (lim : Int) (full : Bool) (sa : Option Addr) (sc : Nat) (w : World) (h : WR w B v xs lim full) (hy : xs.length + ys.length ≤ 50000000) (hr : Rds w 1 (.slice sa ys.length sc) ys.length (bytesV ys)) (hsb : ys ≠ [] → ∀ b, (Value.slice sa ys.length sc).ownBlock = some b → b ≠ B) :
    Calls Try.prog 37 #[.pointer (some ⟨B, 0, none⟩), .slice sa ys.length sc] w (WPost w B v lim (putW xs lim full ys)) := raw_any B v xs ys lim full sa sc w h hy hr hsb
/-- New memory ahead of a call on a writer. -/
theorem WPost.after {w w1 w2 : World} {B : Nat} {v : Value} {lim : Int} {p : List Nat × Bool} {e : Ending} (hg : w.grownBy w1 none) (h : WPost w1 B v lim p e w2) : WPost w B v lim p e w2 := by
  obtain ⟨v', h1, h2, h3, h4⟩ := h
  refine ⟨v', h1, h2, (Touch.of_none hg).trans h3, fun k hk => ?_⟩
  rcases h4 k hk with h | h
  · exact .inl h
  · exact .inr (Nat.le_trans hg.size h)

theorem wnumber_any (B : Nat) (v : Value) (xs : List Nat) (lim : Int) (full : Bool) (n : Nat) (k : Int) (w : World) (h : WR w B v xs lim full) (hn : n < 18446744073709551616) (hy : xs.length ≤ 49000000) :
    Calls Try.prog 22 #[.pointer (some ⟨B, 0, none⟩), .int .u64 n, .int .i64 k] w (WPost w B v lim (putNum xs lim full n k)) := by
  have k2 := h.blk.cell (j := 2) rfl
  have f2 := h.blk.frozen 2
  have HM := Lib.hid (fun W => may_any k W)
  cases hm : mayB k
  · have hp : putNum xs lim full n k = (xs, true) := if_neg (by rw [hm]; exact Bool.false_ne_true)
    rw [hp]
    rw [hm] at HM
    have HW := Lib.hid (h.flag true)
    clear hp hm h
    go_enter Try.func22, Try.ntmps22
    go_wp2_with fail
    refine (HM.out _).mono ?_
    rintro e w1 ⟨rfl, rfl⟩
    go_wp2
    go_end0
    exact ⟨_, rfl, HW.out, Touch.of (grownBy_setCell _ _ _) (fun k e => by cases e; exact .inl rfl), fun k hk => .inl hk⟩
  · have hp : putNum xs lim full n k = putW xs lim full (numB n k.toNat) := if_pos hm
    rw [hp]
    have hk := of_decide_eq_true hm
    rw [hm] at HM
    obtain ⟨q, rfl⟩ := Int.eq_ofNat_of_zero_le (show 0 ≤ k by omega)
    have hq8 : q ≤ 8 := by omega
    have HW := Lib.hid h
    clear hp hm h hk
    rw [Int.toNat_natCast]
    go_enter Try.func22, Try.ntmps22
    go_wp2_with fail
    refine (HM.out _).mono ?_
    rintro e w1 ⟨rfl, rfl⟩
    go_wp2_with fail
    refine (number_any n q hn hq8 _).mono ?_
    rintro e w2 ⟨a, c, rfl, o2, g2⟩
    have hr : Rds w2 1 (.slice a (numB n q).length c) (numB n q).length (bytesV (numB n q)) := by rw [numB_len]; exact Rds.of_owns o2
    have hl := HW.out.lt B (.inl rfl)
    have hraw := rawP B v xs (numB n q) lim full a c w2 (HW.out.grown g2) (by rw [numB_len]; omega) hr (fun _ b hb => by rw [numB_len] at hb; have := (o2.lt b hb).1; omega)
    rw [numB_len] at hraw
    have HRAW := Lib.hid hraw
    have G2 := Lib.hid g2
    clear hraw hr o2 g2 hl
    go_wp2_with fail
    refine HRAW.out.mono ?_
    rintro e w3 ⟨v', rfl, h3, t3, s3⟩
    have HP : Hid (WPost w B v lim (putW xs lim full (numB n q)) (.returned (.tuple #[])) w3) := Lib.hid (WPost.after G2.out ⟨v', rfl, h3, t3, s3⟩)
    clear h3 t3 s3
    go_wp2
    go_end0
    exact HP.out
end

section
open Go.RowKit

theorem wbytes_any (B : Nat) (v : Value) (xs : List Nat) (lim : Int) (full : Bool) (w : World) (h : WR w B v xs lim full) :
    Calls Try.prog 24 #[.pointer (some ⟨B, 0, none⟩)] w fun e w' => ∃ a c, e = .returned (.slice a xs.length c) ∧ w'.ownsRow w.heap.size 5 1 (.slice a xs.length c) xs.length (bytesV xs) ∧ w.grownBy w' none := by
  obtain ⟨av, cv, rfl⟩ := h.slice
  have k0 := h.blk.cell (j := 0) rfl
  have hf := h.few
  have HR := Lib.hid (Rds.of_owns h.own)
  clear h
  go_enter Try.func24, Try.ntmps24
  go_wp2_with fail
  refine (clone_any xs av cv w (by omega) HR.out).mono ?_
  rintro e w1 ⟨a, c, rfl, o1, g1⟩
  go_wp2
  go_ret
  exact ⟨a, c, rfl, o1, g1⟩
end

section
open Go.RowKit

/-- A writer that is not full, in memory of its own. -/
structure PW (w0 w : World) (B : Nat) (v : Value) (xs : List Nat) (lim : Int) : Prop where
  wr : WR w B v xs lim false
  newW : ∀ k, WOwn B v k → w0.heap.size ≤ k
  grown : w0.grownBy w none
theorem PW.later {w0 w w' : World} {B : Nat} {v : Value} {xs : List Nat} {lim : Int} (h : PW w0 w B v xs lim) (hg : w.grownBy w' none) : PW w0 w' B v xs lim := ⟨h.wr.grown hg, h.newW, grownBy_trans h.grown hg⟩
theorem PW.num {w0 w : World} {B : Nat} {v : Value} {xs : List Nat} {lim : Int} (h : PW w0 w B v xs lim) (n k : Nat) (hn : n < 18446744073709551616) (hk : mayB k = true) (hroom : (xs.length : Int) + k ≤ lim) (hy : xs.length ≤ 49000000) :
    Calls Try.prog 22 #[.pointer (some ⟨B, 0, none⟩), .int .u64 n, .int .i64 k] w fun e w' => ∃ v', e = .returned (.tuple #[]) ∧ PW w0 w' B v' (xs ++ numB n k) lim ∧ ∀ b t vs, Blk w b t vs → ¬ WOwn B v b → Blk w' b t vs ∧ ¬ WOwn B v' b := by
  refine (wnumber_any B v xs lim false n k w h.wr hn hy).mono ?_
  rintro e w' ⟨v', rfl, hw, ht, hs⟩
  have hp : putNum xs lim false n k = (xs ++ numB n k, false) := by
    unfold putNum putW
    rw [if_pos hk, Int.toNat_natCast, if_neg]
    rw [numB_len]
    intro hc
    rcases hc with hc | hc
    · cases hc
    · omega
  rw [hp] at hw
  refine ⟨v', rfl, ⟨hw, fun j hj => ?_, ht.grown h.grown h.newW⟩, fun b t vs hb hno => ⟨ht.blk hb hno, fun hw' => ?_⟩⟩
  · rcases hs j hj with h1 | h1
    · exact h.newW j h1
    · exact Nat.le_trans h.grown.size h1
  · rcases hs b hw' with h1 | h1
    · exact hno h1
    · have := hb.lt
      omega
end

end Go.Proofs.Ytbjpjnkaaiajlaa
