/- Layer 3: the walk of WireWrites. -/
import Derived.Test.YtmmkfchijafjeaaWAwake
import Derived.Test.YtmmkfchijafjeaaWActs
import Derived.Test.YtmmkfchijafjeaaWPut
import Derived.Test.YtmmkfchijafjeaaArgI
namespace Go.Proofs.Ytmmkfchijafjeaa
open Go.RowKit Go.WideShapes Go.ChangeShapes Go.ChangeAt

def limN (l : Int) : Int := if 0 ≤ l then l else 0
/-- The writer and the reference's, alike. -/
structure WSt (w0 w : World) (Bw Br : Nat) (v : Value) (xs : List Nat) (lim : Int) (full : Bool) (ax : Option Addr) (cx : Nat) : Prop where
  wr : WR w Bw v xs lim full
  rblk : Blk w Br 28 [.slice ax xs.length cx, .int .i64 lim, .bool full]
  rrd : Rds w 1 (.slice ax xs.length cx) xs.length (bytesV xs)
  newW : ∀ k, WOwn Bw v k → w0.heap.size ≤ k
  apR : ∀ k, WOwn Bw v k → k ≠ Br
  apX : ∀ b, (Value.slice ax xs.length cx).ownBlock = some b → ¬ WOwn Bw v b ∧ b ≠ Br
  xlt : ∀ b, (Value.slice ax xs.length cx).ownBlock = some b → b < w.heap.size
  rnew : w0.heap.size ≤ Br
  grown : w0.grownBy w none

theorem WSt.later {w0 w w' : World} {Bw Br : Nat} {v : Value} {xs : List Nat} {lim : Int} {full : Bool} {ax : Option Addr} {cx : Nat} (h : WSt w0 w Bw Br v xs lim full ax cx) (hg : w.grownBy w' none) : WSt w0 w' Bw Br v xs lim full ax cx :=
  ⟨h.wr.grown hg, h.rblk.grown hg (by simp), h.rrd.grown hg (by simp), h.newW, h.apR, h.apX, fun b hb => Nat.lt_of_lt_of_le (h.xlt b hb) hg.size, h.rnew, grownBy_trans h.grown hg⟩
theorem putW_len (xs ys : List Nat) (lim : Int) (full : Bool) : (putW xs lim full ys).1.length ≤ xs.length + ys.length := by
  unfold putW
  split
  · simp
  · simp

/-- Behind a call on the writer. -/
theorem WSt.step {w0 w w' : World} {Bw Br : Nat} {v v' : Value} {xs xs' : List Nat} {lim : Int} {full full' : Bool} {ax : Option Addr} {cx : Nat} (h : WSt w0 w Bw Br v xs lim full ax cx) (hw : WR w' Bw v' xs' lim full') (ht : Touch (WOwn Bw v) w w') (hs : ∀ k, WOwn Bw v' k → WOwn Bw v k ∨ w.heap.size ≤ k) :
    Blk w' Br 28 [.slice ax xs.length cx, .int .i64 lim, .bool full] ∧ Rds w' 1 (.slice ax xs.length cx) xs.length (bytesV xs) ∧ (∀ k, WOwn Bw v' k → w0.heap.size ≤ k) ∧ (∀ k, WOwn Bw v' k → k ≠ Br) ∧ (∀ b, (Value.slice ax xs.length cx).ownBlock = some b → ¬ WOwn Bw v' b) ∧ w0.grownBy w' none ∧ w.heap.size ≤ w'.heap.size := by
  refine ⟨ht.blk h.rblk (fun e => h.apR _ e rfl), ht.rds h.rrd (fun b hb => (h.apX b hb).1), fun k hk => ?_, fun k hk => ?_, fun b hb hk => ?_, ht.grown h.grown h.newW, ht.size⟩
  · rcases hs k hk with h1 | h1
    · exact h.newW k h1
    · exact Nat.le_trans h.grown.size h1
  · rcases hs k hk with h1 | h1
    · exact h.apR k h1
    · have := h.rblk.lt
      omega
  · rcases hs b hk with h1 | h1
    · exact (h.apX b hb).1 h1
    · have := h.xlt b hb
      omega

/-- Behind the reference's Put and the store of what it hands back. -/
theorem WSt.put {w0 w w' : World} {Bw Br : Nat} {v : Value} {xs xs' : List Nat} {lim : Int} {full' fo : Bool} {ax ax' : Option Addr} {cx cx' : Nat} (hg : w0.grownBy w none) (hw : WR w Bw v xs' lim full') (hb : Blk w Br 28 [.slice ax xs.length cx, .int .i64 lim, .bool fo])
    (hn : ∀ k, WOwn Bw v k → w0.heap.size ≤ k) (ha : ∀ k, WOwn Bw v k → k ≠ Br) (hx : ∀ b, (Value.slice ax xs.length cx).ownBlock = some b → ¬ WOwn Bw v b ∧ b ≠ Br ∧ b < w.heap.size) (hr : w0.heap.size ≤ Br)
    (hr' : Rds w' 1 (.slice ax' xs'.length cx') xs'.length (bytesV xs')) (hx' : ∀ b, (Value.slice ax' xs'.length cx').ownBlock = some b → (Value.slice ax xs.length cx).ownBlock = some b ∨ (w.heap.size ≤ b ∧ b < w'.heap.size)) (hg' : w.grownBy w' none) :
    WSt w0 (((w'.setCell ⟨Br, 0, none⟩ (.slice ax' xs'.length cx')).setCell ⟨Br, 1, none⟩ (.int .i64 lim)).setCell ⟨Br, 2, none⟩ (.bool full')) Bw Br v xs' lim full' ax' cx' := by
  have hbl := hb.lt
  have hall : ∀ b, (Value.slice ax' xs'.length cx').ownBlock = some b → ¬ WOwn Bw v b ∧ b ≠ Br ∧ b < w'.heap.size := by
    intro b hb'
    rcases hx' b hb' with h | ⟨h1, h2⟩
    · have := hx b h
      exact ⟨this.1, this.2.1, Nat.lt_of_lt_of_le this.2.2 hg'.size⟩
    · exact ⟨fun hk => by have := hw.lt b hk; omega, by omega, h2⟩
  have ht : Touch (fun k => k = Br) w' (((w'.setCell ⟨Br, 0, none⟩ (.slice ax' xs'.length cx')).setCell ⟨Br, 1, none⟩ (.int .i64 lim)).setCell ⟨Br, 2, none⟩ (.bool full')) :=
    Touch.of (grownBy_trans (grownBy_trans (grownBy_setCell w' ⟨Br, 0, none⟩ _) (grownBy_setCell _ ⟨Br, 1, none⟩ _)) (grownBy_setCell _ ⟨Br, 2, none⟩ _)) (fun k e => by cases e; rfl)
  refine ⟨(hw.grown hg').touch ht (fun k hk e => ha k hk e), (((hb.grown hg' (by simp)).setCell 0 _).setCell 1 _).setCell 2 _, ht.rds hr' (fun b hb' => (hall b hb').2.1), hn, ha, fun b hb' => ⟨(hall b hb').1, (hall b hb').2.1⟩, fun b hb' => ?_, hr, ht.grown (grownBy_trans hg hg') (fun k e => by omega)⟩
  have := (hall b hb').2.2
  simpa [World.setCell] using this

/-- The reference's writer marked full. -/
theorem WSt.mark {w0 w : World} {Bw Br : Nat} {v : Value} {xs : List Nat} {lim : Int} {fo : Bool} {ax : Option Addr} {cx : Nat} (hg : w0.grownBy w none) (hw : WR w Bw v xs lim true) (hb : Blk w Br 28 [.slice ax xs.length cx, .int .i64 lim, .bool fo])
    (hn : ∀ k, WOwn Bw v k → w0.heap.size ≤ k) (ha : ∀ k, WOwn Bw v k → k ≠ Br) (hx : ∀ b, (Value.slice ax xs.length cx).ownBlock = some b → ¬ WOwn Bw v b ∧ b ≠ Br ∧ b < w.heap.size) (hr : w0.heap.size ≤ Br) (hr' : Rds w 1 (.slice ax xs.length cx) xs.length (bytesV xs)) :
    WSt w0 (w.setCell ⟨Br, 2, none⟩ (.bool true)) Bw Br v xs lim true ax cx := by
  have ht : Touch (fun k => k = Br) w (w.setCell ⟨Br, 2, none⟩ (.bool true)) := Touch.of (grownBy_setCell w ⟨Br, 2, none⟩ _) (fun k e => by cases e; rfl)
  refine ⟨hw.touch ht (fun k hk e => ha k hk e), hb.setCell 2 _, ht.rds hr' (fun b hb' => (hx b hb').2.1), hn, ha, fun b hb' => ⟨(hx b hb').1, (hx b hb').2.1⟩, fun b hb' => ?_, hr, ht.grown hg (fun k e => by omega)⟩
  have := (hx b hb').2.2
  simpa [World.setCell] using this

theorem kind3 (k : Int) (h1 : -9223372036854775808 ≤ k) (h2 : k ≤ 9223372036854775807) : ∃ t : Int, k.tmod 3 = t ∧ -2 ≤ t ∧ t ≤ 2 ∧ IntKind.i64.wrap t = t ∧ wrap64 t = t ∧ ∃ d : Nat, d < 3 ∧ (t + 3) % 3 = (d : Int) := by
  have ht : -2 ≤ k.tmod 3 ∧ k.tmod 3 ≤ 2 := by
    rcases Int.le_total 0 k with h | h
    · rw [Int.tmod_eq_emod_of_nonneg h]; omega
    · have e : k.tmod 3 = -((-k).tmod 3) := by rw [Int.neg_tmod]; omega
      rw [e, Int.tmod_eq_emod_of_nonneg (by omega)]; omega
  refine ⟨_, rfl, ht.1, ht.2, IntWalk.i64_in _ (by omega), IntWalk.wrap64_in _ (by omega), ((k.tmod 3 + 3) % 3).toNat, by omega, by omega⟩

end Go.Proofs.Ytmmkfchijafjeaa
