/- package wire: the Writer's Text, Full. -/
import Derived.Test.YtbjpjnkaaiajlaaPW
namespace Go.Proofs.Ytbjpjnkaaiajlaa
open Go.RowKit

theorem wtext_any (B : Nat) (v : Value) (xs ys : List Nat) (lim : Int) (full : Bool) (sa : Option Addr) (sc : Nat) (w : World) (h : WR w B v xs lim full) (hy : xs.length ≤ 49000000) (hr : Rds w 1 (.slice sa ys.length sc) ys.length (bytesV ys)) :
    Calls Try.prog 39 #[.pointer (some ⟨B, 0, none⟩), .slice sa ys.length sc] w (WPost w B v lim (putText xs lim full ys)) := by
  obtain ⟨i0, hi, hz0, hz1, hz2⟩ := info_parts infoByte
  have k2 := h.blk.cell (j := 2) rfl
  have f2 := h.blk.frozen 2
  have hm := hr.2.1
  unfold maxLen at hm
  by_cases hbig : 65535 < ys.length
  · have hp : putText xs lim full ys = (xs, true) := if_pos hbig
    rw [hp]
    have hb2 : (65535 : Int) < (ys.length : Int) := by omega
    have HW := Lib.hid (h.flag true)
    clear hp h hr hbig
    go_enter Try.func39, Try.ntmps39
    go_wp2
    go_end0
    exact ⟨_, rfl, HW.out, Touch.of (grownBy_setCell _ _ _) (fun k e => by cases e; exact .inl rfl), fun k hk => .inl hk⟩
  · have hp : putText xs lim full ys = putW xs lim full (numB ys.length 2 ++ ys) := if_neg hbig
    rw [hp]
    have hs : ys.length ≤ 65535 := by omega
    have HW := Lib.hid h
    have HR := Lib.hid hr
    clear hp h hr hbig k2 f2 hm
    go_enter Try.func39, Try.ntmps39
    go_wp2_with fail
    refine (number_any ys.length 2 (by omega) (by omega) _).mono ?_
    rintro e w2 ⟨a, c, rfl, o2, g2⟩
    have O2 := Lib.hid o2
    have G2 := Lib.hid g2
    have R2 := Lib.hid (HR.out.grown g2 (by simp))
    have g2s := g2.size
    clear o2 g2
    go_wp2_with (at_builtin; refine wpList_append_rds_at rfl _ _ 24 rfl w.heap.size 5 i0 (.int .u8 0) 1 1 Try.underlying24 hi hz0 hz1 hz2 rfl (by decide) (v := .slice a 2 c) (sv := .slice sa ys.length sc) rfl O2.out rfl R2.out (bytesV_one ys) (by unfold maxLen; omega) (by omega) (by omega) ?_; intro v3 w3 h1 h2 h3; obtain ⟨a3, c3, rfl⟩ := (Rds.of_owns h1).slice; have G3 := Lib.hid (grownBy_own2 G2.out O2.out (Nat.le_refl _) h2); have O3 := Lib.hid h1; clear h1 h2 h3)
    have hlen : (numB ys.length 2 ++ ys).length = 2 + ys.length := by rw [List.length_append, numB_len]
    have ho : w3.ownsRow w.heap.size 5 1 (.slice a3 (numB ys.length 2 ++ ys).length c3) (numB ys.length 2 ++ ys).length (bytesV (numB ys.length 2 ++ ys)) := by rw [hlen, bytesV_app]; exact O3.out
    have hl := HW.out.lt B (.inl rfl)
    have hraw := rawP B v xs (numB ys.length 2 ++ ys) lim full a3 c3 w3 (HW.out.grown G3.out) (by rw [hlen]; omega) (Rds.of_owns ho) (fun _ b hb => by have := (ho.lt b hb).1; omega)
    rw [hlen] at hraw
    refine hraw.mono ?_
    rintro e w4 ⟨v', rfl, h4, t4, s4⟩
    have HP : Hid (WPost w B v lim (putW xs lim full (numB ys.length 2 ++ ys)) (.returned (.tuple #[])) w4) := Lib.hid (WPost.after G3.out ⟨v', rfl, h4, t4, s4⟩)
    clear h4 t4 s4 hraw ho
    go_wp2
    go_end0
    exact HP.out

end Go.Proofs.Ytbjpjnkaaiajlaa
