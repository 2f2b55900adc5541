/- package wire: the Writer's Number, Text, Full, Bytes. -/
import Derived.Test.YtmmkfchijafjeaaWriter
namespace Go.Proofs.Ytmmkfchijafjeaa
open Go.RowKit

/-- What a number makes of a writer; what a text. -/
def putNum (xs : List Nat) (lim : Int) (full : Bool) (n : Nat) (k : Int) : List Nat × Bool := if mayB k = true then putW xs lim full (numB n k.toNat) else (xs, true)
def putText (xs : List Nat) (lim : Int) (full : Bool) (ys : List Nat) : List Nat × Bool := if 65535 < ys.length then (xs, true) else putW xs lim full (numB ys.length 2 ++ ys)

/-- What is asked of a call on a writer. -/
def WPost (w : World) (B : Nat) (v : Value) (lim : Int) (p : List Nat × Bool) (e : Ending) (w' : World) : Prop :=
  ∃ v', e = .returned (.tuple #[]) ∧ WR w' B v' p.1 lim p.2 ∧ Touch (WOwn B v) w w' ∧ ∀ k, WOwn B v' k → WOwn B v k ∨ w.heap.size ≤ k
theorem rawP (B : Nat) (v : Value) (xs ys : List Nat) (lim : Int) (full : Bool) (sa : Option Addr) (sc : Nat) (w : World) (h : WR w B v xs lim full) (hy : xs.length + ys.length ≤ 50000000) (hr : Rds w 1 (.slice sa ys.length sc) ys.length (bytesV ys)) (hsb : ys ≠ [] → ∀ b, (Value.slice sa ys.length sc).ownBlock = some b → b ≠ B) :
    Calls Try.prog 15 #[.pointer (some ⟨B, 0, none⟩), .slice sa ys.length sc] w (WPost w B v lim (putW xs lim full ys)) := raw_any B v xs ys lim full sa sc w h hy hr hsb
/-- New memory ahead of a call on a writer. -/
theorem WPost.after {w w1 w2 : World} {B : Nat} {v : Value} {lim : Int} {p : List Nat × Bool} {e : Ending} (hg : w.grownBy w1 none) (h : WPost w1 B v lim p e w2) : WPost w B v lim p e w2 := by
  obtain ⟨v', h1, h2, h3, h4⟩ := h
  refine ⟨v', h1, h2, (Touch.of_none hg).trans h3, fun k hk => ?_⟩
  rcases h4 k hk with h | h
  · exact .inl h
  · exact .inr (Nat.le_trans hg.size h)

theorem wnumber_any (B : Nat) (v : Value) (xs : List Nat) (lim : Int) (full : Bool) (n : Nat) (k : Int) (w : World) (h : WR w B v xs lim full) (hn : n < 18446744073709551616) (hy : xs.length ≤ 49000000) :
    Calls Try.prog 11 #[.pointer (some ⟨B, 0, none⟩), .int .u64 n, .int .i64 k] w (WPost w B v lim (putNum xs lim full n k)) := by
  have k2 := h.blk.cell (j := 2) rfl
  have f2 := h.blk.frozen 2
  have HM := Lib.hid (fun W => may_any k W)
  cases hm : mayB k
  · have hp : putNum xs lim full n k = (xs, true) := if_neg (by rw [hm]; exact Bool.false_ne_true)
    rw [hp]
    rw [hm] at HM
    have HW := Lib.hid (h.flag true)
    clear hp hm h
    go_enter Try.func11, Try.ntmps11
    go_wp2_with fail
    refine (HM.out _).mono ?_
    rintro e w1 ⟨rfl, rfl⟩
    go_wp2
    go_end0
    exact ⟨_, rfl, HW.out, Touch.of (grownBy_setCell _ _ _) (fun k e => by cases e; exact .inl rfl), fun k hk => .inl hk⟩
  · have hp : putNum xs lim full n k = putW xs lim full (numB n k.toNat) := if_pos hm
    rw [hp]
    have hk := of_decide_eq_true hm
    rw [hm] at HM
    obtain ⟨q, rfl⟩ := Int.eq_ofNat_of_zero_le (show 0 ≤ k by omega)
    have hq8 : q ≤ 8 := by omega
    have HW := Lib.hid h
    clear hp hm h hk
    rw [Int.toNat_natCast]
    go_enter Try.func11, Try.ntmps11
    go_wp2_with fail
    refine (HM.out _).mono ?_
    rintro e w1 ⟨rfl, rfl⟩
    go_wp2_with fail
    refine (number_any n q hn hq8 _).mono ?_
    rintro e w2 ⟨a, c, rfl, o2, g2⟩
    have hr : Rds w2 1 (.slice a (numB n q).length c) (numB n q).length (bytesV (numB n q)) := by rw [numB_len]; exact Rds.of_owns o2
    have hl := HW.out.lt B (.inl rfl)
    have hraw := rawP B v xs (numB n q) lim full a c w2 (HW.out.grown g2) (by rw [numB_len]; omega) hr (fun _ b hb => by rw [numB_len] at hb; have := (o2.lt b hb).1; omega)
    rw [numB_len] at hraw
    have HRAW := Lib.hid hraw
    have G2 := Lib.hid g2
    clear hraw hr o2 g2 hl
    go_wp2_with fail
    refine HRAW.out.mono ?_
    rintro e w3 ⟨v', rfl, h3, t3, s3⟩
    have HP : Hid (WPost w B v lim (putW xs lim full (numB n q)) (.returned (.tuple #[])) w3) := Lib.hid (WPost.after G2.out ⟨v', rfl, h3, t3, s3⟩)
    clear h3 t3 s3
    go_wp2
    go_end0
    exact HP.out

theorem wtext_any (B : Nat) (v : Value) (xs ys : List Nat) (lim : Int) (full : Bool) (sa : Option Addr) (sc : Nat) (w : World) (h : WR w B v xs lim full) (hy : xs.length ≤ 49000000) (hr : Rds w 1 (.slice sa ys.length sc) ys.length (bytesV ys)) :
    Calls Try.prog 14 #[.pointer (some ⟨B, 0, none⟩), .slice sa ys.length sc] w (WPost w B v lim (putText xs lim full ys)) := by
  obtain ⟨i0, hi, hz0, hz1, hz2⟩ := info_parts infoByte
  have k2 := h.blk.cell (j := 2) rfl
  have f2 := h.blk.frozen 2
  have hm := hr.2.1
  unfold maxLen at hm
  by_cases hbig : 65535 < ys.length
  · have hp : putText xs lim full ys = (xs, true) := if_pos hbig
    rw [hp]
    have hb2 : (65535 : Int) < (ys.length : Int) := by omega
    have HW := Lib.hid (h.flag true)
    clear hp h hr hbig
    go_enter Try.func14, Try.ntmps14
    go_wp2
    go_end0
    exact ⟨_, rfl, HW.out, Touch.of (grownBy_setCell _ _ _) (fun k e => by cases e; exact .inl rfl), fun k hk => .inl hk⟩
  · have hp : putText xs lim full ys = putW xs lim full (numB ys.length 2 ++ ys) := if_neg hbig
    rw [hp]
    have hs : ys.length ≤ 65535 := by omega
    have HW := Lib.hid h
    have HR := Lib.hid hr
    clear hp h hr hbig k2 f2 hm
    go_enter Try.func14, Try.ntmps14
    go_wp2_with fail
    refine (number_any ys.length 2 (by omega) (by omega) _).mono ?_
    rintro e w2 ⟨a, c, rfl, o2, g2⟩
    have O2 := Lib.hid o2
    have G2 := Lib.hid g2
    have R2 := Lib.hid (HR.out.grown g2 (by simp))
    have g2s := g2.size
    clear o2 g2
    go_wp2_with (at_builtin; refine wpList_append_rds_at rfl _ _ 26 rfl w.heap.size 5 i0 (.int .u8 0) 1 1 Try.underlying26 hi hz0 hz1 hz2 rfl (by decide) (v := .slice a 2 c) (sv := .slice sa ys.length sc) rfl O2.out rfl R2.out (bytesV_one ys) (by unfold maxLen; omega) (by omega) (by omega) ?_; intro v3 w3 h1 h2 h3; obtain ⟨a3, c3, rfl⟩ := (Rds.of_owns h1).slice; have G3 := Lib.hid (grownBy_own2 G2.out O2.out (Nat.le_refl _) h2); have O3 := Lib.hid h1; clear h1 h2 h3)
    have hlen : (numB ys.length 2 ++ ys).length = 2 + ys.length := by rw [List.length_append, numB_len]
    have ho : w3.ownsRow w.heap.size 5 1 (.slice a3 (numB ys.length 2 ++ ys).length c3) (numB ys.length 2 ++ ys).length (bytesV (numB ys.length 2 ++ ys)) := by rw [hlen, bytesV_app]; exact O3.out
    have hl := HW.out.lt B (.inl rfl)
    have hraw := rawP B v xs (numB ys.length 2 ++ ys) lim full a3 c3 w3 (HW.out.grown G3.out) (by rw [hlen]; omega) (Rds.of_owns ho) (fun _ b hb => by have := (ho.lt b hb).1; omega)
    rw [hlen] at hraw
    refine hraw.mono ?_
    rintro e w4 ⟨v', rfl, h4, t4, s4⟩
    have HP : Hid (WPost w B v lim (putW xs lim full (numB ys.length 2 ++ ys)) (.returned (.tuple #[])) w4) := Lib.hid (WPost.after G3.out ⟨v', rfl, h4, t4, s4⟩)
    clear h4 t4 s4 hraw ho
    go_wp2
    go_end0
    exact HP.out

theorem wfull_any (B : Nat) (v : Value) (xs : List Nat) (lim : Int) (full : Bool) (w : World) (h : WR w B v xs lim full) :
    Calls Try.prog 16 #[.pointer (some ⟨B, 0, none⟩)] w fun e w' => e = .returned (.bool full) ∧ w = w' := by
  have k2 := h.blk.cell (j := 2) rfl
  clear h
  go_enter Try.func16, Try.ntmps16
  go_wp2
  go_ret
  exact ⟨rfl, rfl⟩

theorem wbytes_any (B : Nat) (v : Value) (xs : List Nat) (lim : Int) (full : Bool) (w : World) (h : WR w B v xs lim full) :
    Calls Try.prog 17 #[.pointer (some ⟨B, 0, none⟩)] w fun e w' => ∃ a c, e = .returned (.slice a xs.length c) ∧ w'.ownsRow w.heap.size 5 1 (.slice a xs.length c) xs.length (bytesV xs) ∧ w.grownBy w' none := by
  obtain ⟨av, cv, rfl⟩ := h.slice
  have k0 := h.blk.cell (j := 0) rfl
  have hf := h.few
  have HR := Lib.hid (Rds.of_owns h.own)
  clear h
  go_enter Try.func17, Try.ntmps17
  go_wp2_with fail
  refine (clone_any xs av cv w (by omega) HR.out).mono ?_
  rintro e w1 ⟨a, c, rfl, o1, g1⟩
  go_wp2
  go_ret
  exact ⟨a, c, rfl, o1, g1⟩

end Go.Proofs.Ytmmkfchijafjeaa
