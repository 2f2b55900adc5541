/- What a call turns: no block but those of a set. -/
import Derived.Test.YtbjpjnkaaiajlaaMem
namespace Go.Proofs.Ytbjpjnkaaiajlaa
open Go Go.RowKit

/-- No block that was there is turned but those of S. -/
structure Touch (S : Nat → Prop) (w w' : World) : Prop where
  os : w'.os = w.os
  tape : w'.tape = w.tape
  output : w'.output = w.output
  size : w.heap.size ≤ w'.heap.size
  block : ∀ k, k < w.heap.size → ¬ S k → w'.heap[k]? = w.heap[k]?

theorem Touch.refl (S : Nat → Prop) (w : World) : Touch S w w := ⟨rfl, rfl, rfl, Nat.le_refl _, fun _ _ _ => rfl⟩
theorem Touch.of {S : Nat → Prop} {w w' : World} {row : Option Nat} (h : w.grownBy w' row) (hr : ∀ k, row = some k → S k) : Touch S w w' :=
  ⟨h.os, h.tape, h.output, h.size, fun k hk hs => h.block k hk (fun e => hs (hr k e.symm))⟩
theorem Touch.of_none {S : Nat → Prop} {w w' : World} (h : w.grownBy w' none) : Touch S w w' := Touch.of h (fun _ e => by cases e)
/-- One step behind another; what the second may turn is of the first's or new. -/
theorem Touch.step {S S' : Nat → Prop} {a b c : World} (h : Touch S a b) (k : Touch S' b c) (hs : ∀ j, S' j → S j ∨ a.heap.size ≤ j) : Touch S a c :=
  ⟨k.os.trans h.os, k.tape.trans h.tape, k.output.trans h.output, Nat.le_trans h.size k.size, fun i hi hS => (k.block i (Nat.lt_of_lt_of_le hi h.size) (fun h' => by
    rcases hs i h' with h1 | h1
    · exact hS h1
    · omega)).trans (h.block i hi hS)⟩
theorem Touch.trans {S : Nat → Prop} {a b c : World} (h : Touch S a b) (k : Touch S b c) : Touch S a c := h.step k (fun _ h => .inl h)
theorem Touch.mono {S S' : Nat → Prop} {a b : World} (h : Touch S a b) (hs : ∀ j, S j → S' j) : Touch S' a b := ⟨h.os, h.tape, h.output, h.size, fun i hi hS => h.block i hi (fun h' => hS (hs i h'))⟩
/-- Where all that is turned is new. -/
theorem Touch.grown {S : Nat → Prop} {w a b : World} (hg : w.grownBy a none) (h : Touch S a b) (hs : ∀ j, S j → w.heap.size ≤ j) : w.grownBy b none :=
  ⟨h.os.trans hg.os, h.tape.trans hg.tape, h.output.trans hg.output, Nat.le_trans hg.size h.size, fun k hk _ => (h.block k (Nat.lt_of_lt_of_le hk hg.size) (fun e => by have := hs k e; omega)).trans (hg.block k hk (by simp))⟩
theorem Touch.blk {S : Nat → Prop} {w w' : World} (h : Touch S w w') {a : Nat} {e : TypeId} {vs : List Value} (hb : Blk w a e vs) (ha : ¬ S a) : Blk w' a e vs := hb.same (h.block a hb.lt ha)
theorem Touch.rds {S : Nat → Prop} {w w' : World} (h : Touch S w w') {sz n : Nat} {v : Value} {xs : List Value} (hr : Rds w sz v n xs) (hv : ∀ b, v.ownBlock = some b → ¬ S b) : Rds w' sz v n xs :=
  hr.same fun _ b hb hlt => h.block b hlt (hv b hb)
theorem Touch.owns {S : Nat → Prop} {w w' : World} (h : Touch S w w') {base : Nat} {e : TypeId} {sz n : Nat} {v : Value} {xs : List Value} (ho : w.ownsRow base e sz v n xs) (hv : ∀ b, v.ownBlock = some b → ¬ S b) : w'.ownsRow base e sz v n xs := by
  have hlt := ho.lt
  obtain ⟨hl, ho⟩ := ho
  refine ⟨hl, ?_⟩
  rcases ho with ho | ⟨g, cap, cur, rfl, hb, hg, hr⟩
  · exact .inl ho
  · exact .inr ⟨g, cap, cur, rfl, hb, by rw [h.block g (hlt g rfl).2 (hv g rfl), hg], hr⟩
theorem Touch.cell {S : Nat → Prop} {w w' : World} (h : Touch S w w') {p : Addr} {u : Value} (hc : w.cell? p = some u) (ha : ¬ S p.block) : w'.cell? p = some u := by
  have hlt : p.block < w.heap.size := World.block_lt_of_cell? w p hc
  rw [World.cell?_of_block (h.block p.block hlt ha), hc]

/-- A block of another type is no row. -/
theorem not_row {w : World} {B base : Nat} {T e : TypeId} {vs xs : List Value} {sz n : Nat} {v : Value} (hb : Blk w B T vs) (ho : w.ownsRow base e sz v n xs) (hte : T ≠ e) : v.ownBlock ≠ some B := by
  intro h
  rcases ho.2 with ⟨rfl, _⟩ | ⟨g, cap, cur, rfl, _, hg, _⟩
  · simp [Value.ownBlock] at h
  · simp [Value.ownBlock] at h
    subst h
    unfold Blk at hb
    rw [hb] at hg
    simp at hg
    exact hte hg.2

end Go.Proofs.Ytbjpjnkaaiajlaa
