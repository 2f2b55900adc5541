/- package wire: the Writer. -/
import Derived.Test.YtbjpjnkaaiajlaaWireNum
import Derived.Test.YtbjpjnkaaiajlaaTouch
import Derived.Test.YtbjpjnkaaiajlaaGrown
namespace Go.Proofs.Ytbjpjnkaaiajlaa
open Go.RowKit

/-- A writer in memory: what was written, the limit, whether it is full. -/
structure WR (w : World) (B : Nat) (v : Value) (xs : List Nat) (lim : Int) (full : Bool) : Prop where
  blk : Blk w B 80 [v, .int .i64 lim, .bool full]
  own : w.ownsRow 0 5 1 v xs.length (bytesV xs)
  lim0 : 0 ≤ lim
  lim1 : lim ≤ 9223372036854775807
  few : xs.length ≤ 50000000
/-- The blocks that are a writer's. -/
def WOwn (B : Nat) (v : Value) (k : Nat) : Prop := k = B ∨ v.ownBlock = some k
/-- What bytes make of a writer. -/
def putW (xs : List Nat) (lim : Int) (full : Bool) (ys : List Nat) : List Nat × Bool := if full = true ∨ lim < (xs.length : Int) + ys.length then (xs, true) else (xs ++ ys, full)

theorem WR.slice {w : World} {B : Nat} {v : Value} {xs : List Nat} {lim : Int} {full : Bool} (h : WR w B v xs lim full) : ∃ a c, v = .slice a xs.length c := (Rds.of_owns h.own).slice
theorem WR.apart {w : World} {B : Nat} {v : Value} {xs : List Nat} {lim : Int} {full : Bool} (h : WR w B v xs lim full) : v.ownBlock ≠ some B := not_row h.blk h.own (by decide)
theorem WR.touch {S : Nat → Prop} {w w' : World} {B : Nat} {v : Value} {xs : List Nat} {lim : Int} {full : Bool} (h : WR w B v xs lim full) (ht : Touch S w w') (hs : ∀ k, WOwn B v k → ¬ S k) : WR w' B v xs lim full :=
  ⟨ht.blk h.blk (hs B (.inl rfl)), ht.owns h.own (fun b hb => hs b (.inr hb)), h.lim0, h.lim1, h.few⟩
theorem WR.lt {w : World} {B : Nat} {v : Value} {xs : List Nat} {lim : Int} {full : Bool} (h : WR w B v xs lim full) : ∀ k, WOwn B v k → k < w.heap.size := fun k hk => by
  rcases hk with rfl | hk
  · exact h.blk.lt
  · exact (h.own.lt k hk).2
theorem WR.grown {w w' : World} {B : Nat} {v : Value} {xs : List Nat} {lim : Int} {full : Bool} (h : WR w B v xs lim full) (hg : w.grownBy w' none) : WR w' B v xs lim full :=
  h.touch (S := fun _ => False) (Touch.of_none hg) (fun _ _ h => h)
/-- The full flag set. -/
theorem WR.flag {w : World} {B : Nat} {v : Value} {xs : List Nat} {lim : Int} {full : Bool} (h : WR w B v xs lim full) (b : Bool) : WR (w.setCell ⟨B, 2, none⟩ (.bool b)) B v xs lim b :=
  ⟨h.blk.setCell 2 _, h.own.kept (grownBy_setCell _ _ _) (.inr h.apart), h.lim0, h.lim1, h.few⟩

theorem newWriter_any (l : Int) (hl : l ≤ 9223372036854775807) (w : World) :
    Calls Try.prog 21 #[.int .i64 l] w fun e w' => e = .returned (.pointer (some ⟨w.heap.size, 0, none⟩)) ∧ WR w' w.heap.size (.slice none 0 0) [] (if 0 ≤ l then l else 0) false ∧ w.grownBy w' none := by
  rcases (show 0 < l ∨ l = 0 ∨ l < 0 by omega) with h | rfl | h
  all_goals
    go_enter Try.func21, Try.ntmps21
    go_wp2
    go_ret
    exact ⟨rfl, ⟨Blk.new w 80 _, World.ownsRow_nil _ _ _ _, by omega, by omega, by simp⟩, World.grownBy_alloc _ _ none⟩

set_option maxRecDepth 100000 in
theorem raw_full (B : Nat) (v : Value) (xs : List Nat) (n : Nat) (lim : Int) (sa : Option Addr) (sc : Nat) (w : World) (h : WR w B v xs lim true) :
    Calls Try.prog 37 #[.pointer (some ⟨B, 0, none⟩), .slice sa n sc] w fun e w' => e = .returned (.tuple #[]) ∧ WR w' B v xs lim true ∧ Touch (WOwn B v) w w' := by
  have k2 := h.blk.cell (j := 2) rfl
  have f2 := h.blk.frozen 2
  have HW := Lib.hid h
  clear h
  go_enter Try.func37, Try.ntmps37
  go_wp2_with fail
  refine wp_region_quiet_tail 22 (by kernel_rfl) (by kernel_rfl) ?_
  simp only [List.take_succ_cons, List.take_zero, List.drop_succ_cons, List.drop_zero]
  repeat (go_big_quiet_step (fail))
  refine wpQuiet_nil ?_
  go_wp2_with fail
  go_end0
  exact ⟨rfl, (HW.out.flag true).grown (grownBy_drewN _ 1 none), Touch.of (grownBy_trans (grownBy_setCell w ⟨B, 2, none⟩ (.bool true)) (grownBy_drewN _ 1 _)) (fun k e => by cases e; exact .inl rfl)⟩

set_option maxRecDepth 100000 in
theorem raw_over (B : Nat) (v : Value) (xs : List Nat) (n : Nat) (lim : Int) (sa : Option Addr) (sc : Nat) (w : World) (h : WR w B v xs lim false) (hlt : lim < (xs.length : Int) + n) :
    Calls Try.prog 37 #[.pointer (some ⟨B, 0, none⟩), .slice sa n sc] w fun e w' => e = .returned (.tuple #[]) ∧ WR w' B v xs lim true ∧ Touch (WOwn B v) w w' := by
  obtain ⟨av, cv, rfl⟩ := h.slice
  have k0 := h.blk.cell (j := 0) rfl
  have k1 := h.blk.cell (j := 1) rfl
  have k2 := h.blk.cell (j := 2) rfl
  have f2 := h.blk.frozen 2
  have l0 := h.lim0
  have l1 := h.lim1
  have l2 := h.few
  have hd : decide (lim - (xs.length : Int) < (n : Int)) = true := decide_eq_true (by omega)
  have HW := Lib.hid h
  clear h hlt
  go_enter Try.func37, Try.ntmps37
  go_wp2_with fail
  refine wp_region_quiet_tail 22 (by kernel_rfl) (by kernel_rfl) ?_
  simp only [List.take_succ_cons, List.take_zero, List.drop_succ_cons, List.drop_zero]
  repeat (go_big_quiet_step (fail))
  refine wpQuiet_nil ?_
  go_wp2_with fail
  go_end0
  exact ⟨rfl, (HW.out.flag true).grown (grownBy_drewN _ 1 none), Touch.of (grownBy_trans (grownBy_setCell w ⟨B, 2, none⟩ (.bool true)) (grownBy_drewN _ 1 _)) (fun k e => by cases e; exact .inl rfl)⟩

set_option maxRecDepth 100000 in
set_option maxHeartbeats 1000000 in
theorem raw_fits (B : Nat) (v : Value) (xs ys : List Nat) (lim : Int) (sa : Option Addr) (sc : Nat) (w : World) (h : WR w B v xs lim false) (hge : ¬ lim < (xs.length : Int) + ys.length) (hy : xs.length + ys.length ≤ 50000000) (hr : Rds w 1 (.slice sa ys.length sc) ys.length (bytesV ys)) (hsb : ys ≠ [] → ∀ b, (Value.slice sa ys.length sc).ownBlock = some b → b ≠ B) :
    Calls Try.prog 37 #[.pointer (some ⟨B, 0, none⟩), .slice sa ys.length sc] w fun e w' => ∃ v', e = .returned (.tuple #[]) ∧ WR w' B v' (xs ++ ys) lim false ∧ Touch (WOwn B v) w w' ∧ ∀ k, WOwn B v' k → WOwn B v k ∨ w.heap.size ≤ k := by
  obtain ⟨i0, hi, hz0, hz1, hz2⟩ := info_parts infoByte
  obtain ⟨av, cv, rfl⟩ := h.slice
  have k0 := h.blk.cell (j := 0) rfl
  have k1 := h.blk.cell (j := 1) rfl
  have k2 := h.blk.cell (j := 2) rfl
  have f2 := h.blk.frozen 2
  have l0 := h.lim0
  have l1 := h.lim1
  have l2 := h.few
  have hd : decide (lim - (xs.length : Int) < (ys.length : Int)) = false := decide_eq_false (by omega)
  have h1 := (h.flag false).grown (grownBy_drewN _ 1 none)
  have r1 : Rds ((w.setCell ⟨B, 2, none⟩ (.bool false)).drewN 1) 1 (.slice sa ys.length sc) ys.length (bytesV ys) := (rds_set' hr ⟨B, 2, none⟩ (.bool false) (fun hne e => hsb (fun h => hne (by rw [h]; rfl)) _ e rfl)).drewN 1
  have HW1 := Lib.hid h1
  have HR1 := Lib.hid r1
  have HG1 : Hid (Touch (WOwn B (.slice av xs.length cv)) w ((w.setCell ⟨B, 2, none⟩ (.bool false)).drewN 1)) := Lib.hid (Touch.of (grownBy_trans (grownBy_setCell w ⟨B, 2, none⟩ (.bool false)) (grownBy_drewN _ 1 _)) (fun k e => by cases e; exact .inl rfl))
  have HS1 : Hid (w.heap.size ≤ ((w.setCell ⟨B, 2, none⟩ (.bool false)).drewN 1).heap.size) := Lib.hid HG1.out.size
  clear h hge hr hsb h1 r1
  go_enter Try.func37, Try.ntmps37
  go_wp2_with fail
  refine wp_region_quiet_tail 22 (by kernel_rfl) (by kernel_rfl) ?_
  simp only [List.take_succ_cons, List.take_zero, List.drop_succ_cons, List.drop_zero]
  repeat (go_big_quiet_step (fail))
  refine wpQuiet_nil ?_
  go_wp2_with (at_builtin; refine wpList_append_rds_at rfl _ _ 24 rfl 0 5 i0 (.int .u8 0) 1 1 Try.underlying24 hi hz0 hz1 hz2 rfl (by decide) (v := .slice av xs.length cv) (sv := .slice sa ys.length sc) rfl HW1.out.own rfl HR1.out (bytesV_one ys) (by unfold maxLen; omega) (by omega) (Nat.zero_le _) ?_; intro v3 w3 h1 h2 h3; obtain ⟨a3, c3, rfl⟩ := (Rds.of_owns h1).slice; have hb3 := HW1.out.blk.grown h2 (fun e => HW1.out.apart e.symm); have q0 := hb3.cell (j := 0) rfl; have q1 := hb3.frozen 0; have A3 := Lib.hid h3; have O3 := Lib.hid h1; have G3 := Lib.hid h2; have HB3 := Lib.hid hb3; clear h1 h2 h3 hb3)
  go_end0
  have hW : WR (w3.setCell ⟨B, 0, none⟩ (.slice a3 (xs.length + ys.length) c3)) B (.slice a3 (xs.length + ys.length) c3) (xs ++ ys) lim false :=
    ⟨HB3.out.setCell 0 _, by rw [bytesV_app, List.length_append]; exact O3.out.kept (grownBy_setCell _ _ _) (.inr (not_row HB3.out O3.out (by decide))), l0, l1, by rw [List.length_append]; exact hy⟩
  refine ⟨_, rfl, hW, ?_, ?_⟩
  · refine HG1.out.trans ((Touch.of G3.out (fun k e => .inr e)).trans (Touch.of (grownBy_setCell w3 ⟨B, 0, none⟩ _) (fun k e => by cases e; exact .inl rfl)))
  · intro k hk
    rcases hk with rfl | hk
    · exact .inl (.inl rfl)
    · rcases A3.out with h | h
      · exact .inl (.inr (h ▸ hk))
      · rw [h] at hk
        simp at hk
        have := HS1.out
        simp [World.drewN] at this
        exact .inr (by rw [← hk]; simp)

theorem raw_any (B : Nat) (v : Value) (xs ys : List Nat) (lim : Int) (full : Bool) (sa : Option Addr) (sc : Nat) (w : World) (h : WR w B v xs lim full) (hy : xs.length + ys.length ≤ 50000000) (hr : Rds w 1 (.slice sa ys.length sc) ys.length (bytesV ys)) (hsb : ys ≠ [] → ∀ b, (Value.slice sa ys.length sc).ownBlock = some b → b ≠ B) :
    Calls Try.prog 37 #[.pointer (some ⟨B, 0, none⟩), .slice sa ys.length sc] w fun e w' => ∃ v', e = .returned (.tuple #[]) ∧ WR w' B v' (putW xs lim full ys).1 lim (putW xs lim full ys).2 ∧ Touch (WOwn B v) w w' ∧ ∀ k, WOwn B v' k → WOwn B v k ∨ w.heap.size ≤ k := by
  cases full with
  | true =>
    rw [show putW xs lim true ys = (xs, true) from if_pos (.inl rfl)]
    exact (raw_full B v xs ys.length lim sa sc w h).mono fun e w' ⟨h1, h2, h3⟩ => ⟨v, h1, h2, h3, fun k hk => .inl hk⟩
  | false =>
    by_cases hlt : lim < (xs.length : Int) + ys.length
    · rw [show putW xs lim false ys = (xs, true) from if_pos (.inr hlt)]
      exact (raw_over B v xs ys.length lim sa sc w h hlt).mono fun e w' ⟨h1, h2, h3⟩ => ⟨v, h1, h2, h3, fun k hk => .inl hk⟩
    · rw [show putW xs lim false ys = (xs ++ ys, false) from if_neg (by simp only [Bool.false_eq_true, false_or]; exact hlt)]
      exact raw_fits B v xs ys lim sa sc w h hlt hy hr hsb

end Go.Proofs.Ytbjpjnkaaiajlaa
