/- package bits: Take, New. -/
import Derived.Test.YtjbfnnfbdjjjbaaDoorSetFree
namespace Go.Proofs.YtjbfnnfbdjjjbaaDoor
open Go.RowKit

theorem ST.setHand {w : World} {B g c n hand : Nat} {ws : List (BitVec 64)} (h : ST w B g c n hand ws) (hand' : Nat) (hh : hand' < n) : ST (w.setCell ⟨B, 1, none⟩ (.int .i64 hand')) B g c n hand' ws := by
  obtain ⟨rest, hr⟩ := h.row
  exact ⟨h.blk.setCell 1 _, ⟨rest, hr.setCell_other h.ne.symm _⟩, h.ne, h.tab.same ((grownBy_setCell w ⟨B, 1, none⟩ (.int .i64 hand')).block _ h.tlt (by simp; exact h.b0.symm)), h.b0, h.g0, h.len, h.n1, h.n2, hh, h.top, Nat.lt_of_lt_of_le h.tlt (grownBy_setCell w ⟨B, 1, none⟩ (.int .i64 hand')).size⟩
theorem SF.setHand {w : World} {B g n hand : Nat} {f : Nat → Bool} (h : SF w B g n hand f) (hand' : Nat) (hh : hand' < n) : SF (w.setCell ⟨B, 1, none⟩ (.int .i64 hand')) B g n hand' f := by
  obtain ⟨c, ws, hs, hf⟩ := h
  exact ⟨c, ws, hs.setHand hand' hh, hf⟩
theorem touch_hand (w : World) (B g : Nat) (v : Value) : Touch (SOwn B g) w (w.setCell ⟨B, 1, none⟩ v) :=
  Touch.of (row := some B) (grownBy_setCell w ⟨B, 1, none⟩ v) (fun k h => .inl (by cases h; rfl))
theorem freeF_any (B g n hand : Nat) (f : Nat → Bool) (p : Nat) (w : World) (h : SF w B g n hand f) (hp : p < n) :
    Calls Tryd.prog 24 #[.pointer (some ⟨B, 0, none⟩), .int .i64 p] w fun e w' => (∃ r, e = .returned (.int .i64 r) ∧ FreeAt n f p r) ∧ w = w' := by
  obtain ⟨c, ws, hs, hf⟩ := h
  have := free_any B g c n hand ws p w hs hp
  rwa [show tk ws = f from funext hf] at this

/-- The number that is taken, if any. -/
def Took (n hand : Nat) (f : Nat → Bool) (i : Nat) : Prop := i < n ∧ f i = false ∧ ((hand ≤ i ∧ ∀ j, hand ≤ j → j < i → f j = true) ∨ (i < hand ∧ (∀ j, hand ≤ j → j < n → f j = true) ∧ ∀ j, j < i → f j = true))
def TPost (B g n hand : Nat) (f : Nat → Bool) (w : World) (e : Ending) (w' : World) : Prop :=
  (e = .returned (.tuple #[.int .i64 0, .bool false]) ∧ w = w' ∧ ∀ j, j < n → f j = true) ∨
  (∃ i : Nat, e = .returned (.tuple #[.int .i64 i, .bool true]) ∧ Took n hand f i ∧ SF w' B g n ((i + 1) % n) (markF n f i) ∧ Touch (SOwn B g) w w')
theorem take_nil (w : World) :
    Calls Tryd.prog 8 #[.pointer none] w fun e w' => e = .returned (.tuple #[.int .i64 0, .bool false]) ∧ w = w' := by
  go_enter Tryd.func8, Tryd.ntmps8
  go_wp2_with fail
  exact bodyPost_ret (v := .tuple #[.int .i64 0, .bool false]) (by simp [results, Tryd.results8, go_sem]) rfl ⟨rfl, rfl⟩

/-- Behind the place is found. -/
theorem took_first {n hand : Nat} {f : Nat → Bool} {i : Nat} (h1 : hand ≤ i) (h2 : i < n) (h3 : f i = false) (h4 : ∀ j, hand ≤ j → j < i → f j = true) : Took n hand f i := ⟨h2, h3, .inl ⟨h1, h4⟩⟩
theorem took_next {n hand : Nat} {f : Nat → Bool} {i : Nat} (h0 : ∀ j, hand ≤ j → j < n → f j = true) (h2 : i < n) (h3 : f i = false) (h4 : ∀ j, 0 ≤ j → j < i → f j = true) : Took n hand f i := by
  refine ⟨h2, h3, .inr ⟨?_, h0, fun j h => h4 j (Nat.zero_le _) h⟩⟩
  rcases Nat.lt_or_ge i hand with h | h
  · exact h
  · rw [h0 i h h2] at h3
    cases h3
set_option maxHeartbeats 400000 in
theorem take_any (B g n hand : Nat) (f : Nat → Bool) (w : World) (h : SF w B g n hand f) :
    Calls Tryd.prog 8 #[.pointer (some ⟨B, 0, none⟩)] w (TPost B g n hand f w) := by
  have H := Lib.hid h
  obtain ⟨c, ws, hs, hf⟩ := h
  have k1 := hs.blk.cell (j := 1) rfl
  have hn1 := hs.n1
  have hn2 := hs.n2
  have hhd := hs.hd
  clear hs hf
  go_enter Tryd.func8, Tryd.ntmps8
  go_wp2_with fail
  refine (freeF_any B g n hand f hand w H.out hhd).mono ?_
  rintro e w1 ⟨⟨r, rfl, hr⟩, rfl⟩
  rcases hr with ⟨rfl, ha⟩ | ⟨i, rfl, h1, h2, h3, h4⟩
  · have HA := Lib.hid ha
    clear ha
    go_wp2_with fail
    refine (freeF_any B g n hand f 0 w H.out hn1).mono ?_
    rintro e w1 ⟨⟨r, rfl, hr⟩, rfl⟩
    rcases hr with ⟨rfl, ha⟩ | ⟨i, rfl, h1, h2, h3, h4⟩
    · have HB := Lib.hid ha
      clear ha
      go_wp2_with fail
      exact bodyPost_ret (v := .tuple #[.int .i64 0, .bool false]) (by simp [results, Tryd.results8, go_sem]) rfl (.inl ⟨rfl, rfl, fun j h => HB.out j (Nat.zero_le _) h⟩)
    · have HT := Lib.hid (took_next HA.out h2 h3 h4)
      have hb : inB n (i : Int) = true := decide_eq_true (by omega)
      clear h1 h4 HA k1
      go_wp2_with fail
      refine (mark_any B g n hand f i w H.out).mono ?_
      rintro e w1 ⟨rfl, hsf, ht⟩
      rw [hb, Int.toNat_natCast, h3]
      obtain ⟨c, ws, hs, _⟩ := id hsf
      have k0 := hs.blk.cell (j := 0) rfl
      have k1 := hs.blk.cell (j := 1) rfl
      have f1 := hs.blk.frozen 1
      have HSF := Lib.hid hsf
      have HTO := Lib.hid ht
      clear hs hsf ht H
      go_wp2_with fail
      have hnew := HSF.out.setHand ((i + 1) % n) (Nat.mod_lt _ (by omega))
      have htt := HTO.out.trans (touch_hand w1 B g (.int .i64 (((i + 1) % n : Nat) : Int)))
      refine bodyPost_ret (v := .tuple #[.int .i64 i, .bool true]) (by simp [results, Tryd.results8, go_sem]) rfl (.inr ⟨i, rfl, HT.out, ?_, ?_⟩)
      · exact hnew
      · exact htt
  · have HT := Lib.hid (took_first h1 h2 h3 h4)
    have hb : inB n (i : Int) = true := decide_eq_true (by omega)
    clear h1 h4 k1
    go_wp2_with fail
    refine (mark_any B g n hand f i w H.out).mono ?_
    rintro e w1 ⟨rfl, hsf, ht⟩
    rw [hb, Int.toNat_natCast, h3]
    obtain ⟨c, ws, hs, _⟩ := id hsf
    have k0 := hs.blk.cell (j := 0) rfl
    have k1 := hs.blk.cell (j := 1) rfl
    have f1 := hs.blk.frozen 1
    have HSF := Lib.hid hsf
    have HTO := Lib.hid ht
    clear hs hsf ht H
    go_wp2_with fail
    have hnew := HSF.out.setHand ((i + 1) % n) (Nat.mod_lt _ (by omega))
    have htt := HTO.out.trans (touch_hand w1 B g (.int .i64 (((i + 1) % n : Nat) : Int)))
    refine bodyPost_ret (v := .tuple #[.int .i64 i, .bool true]) (by simp [results, Tryd.results8, go_sem]) rfl (.inr ⟨i, rfl, HT.out, ?_, ?_⟩)
    · exact hnew
    · exact htt

end Go.Proofs.YtjbfnnfbdjjjbaaDoor
