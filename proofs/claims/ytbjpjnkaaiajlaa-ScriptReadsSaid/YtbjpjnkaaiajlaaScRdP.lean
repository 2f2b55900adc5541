/- package script: what read reads, as a function of the bytes that are left. -/
import Derived.Test.YtbjpjnkaaiajlaaScOf
import Derived.Test.YtbjpjnkaaiajlaaReader3
namespace Go.Proofs.Ytbjpjnkaaiajlaa
open Go.RowKit

abbrev PS := List Nat × Bool
def nP (k : Nat) (p : PS) : Nat × PS := (ofB (takeN p.1 k), (leftN p.1 k, badN p.1 p.2 k))
def tP (p : PS) : List Nat × PS := (takeN (leftN p.1 2) (textL p.1), (leftN (leftN p.1 2) (textL p.1), badN (leftN p.1 2) (badN p.1 p.2 2) (textL p.1)))
def sI (n : Nat) : Int := wrap64 (n : Int)
def nsP : Nat → PS → List Int × PS
  | 0, p => ([], p)
  | c + 1, p => ((nsP c p).1 ++ [sI (nP 8 (nsP c p).2).1], (nP 8 (nsP c p).2).2)
theorem nsP_len (p : PS) : ∀ c, (nsP c p).1.length = c
  | 0 => rfl
  | c + 1 => by
    rw [nsP, List.length_append, nsP_len p c]
    rfl
structure RP where
  key : List Nat × PS
  val : List Nat × PS
  num : Int × PS
  cnt : Nat × PS
  ns : List Int × PS
def readF (f : Form) (p : PS) : RP :=
  let b := if f.key = true then tP p else ([], p)
  let c := if f.value = true then tP b.2 else ([], b.2)
  let d := if f.num = true then (sI (nP 8 c.2).1, (nP 8 c.2).2) else (0, c.2)
  let m := if 0 < f.nums ∧ f.just = false then nP 1 d.2 else (f.nums, d.2)
  ⟨b, c, d, m, nsP m.1 m.2⟩
def readA (p : PS) : SAct × PS :=
  let a := nP 1 p
  let r := readF (formX (a.1 : Int)) a.2
  (⟨(a.1 : Int), r.key.1, r.val.1, r.num.1, r.ns.1, none, none, none, 0, 0, 0⟩, r.ns.2)
theorem nP1_lt (p : PS) (h : ∀ x ∈ p.1, x < 256) : (nP 1 p).1 < 256 := by
  unfold nP
  have h1 := ofB_lt (takeN p.1 (1 : Nat)) (takeN_small p.1 _ h)
  have h2 : (takeN p.1 ((1 : Nat) : Int)).length ≤ 1 := by
    unfold takeN
    split
    · simp
    · rw [List.length_take]; simp; omega
  refine Nat.lt_of_lt_of_le h1 ?_
  calc 256 ^ (takeN p.1 ((1 : Nat) : Int)).length ≤ 256 ^ 1 := Nat.pow_le_pow_right (by omega) h2
    _ = 256 := rfl
theorem left_small (xs : List Nat) (n : Int) (h : ∀ x ∈ xs, x < 256) : ∀ x ∈ leftN xs n, x < 256 := by
  unfold leftN
  split
  · simp
  · exact fun x hx => h x (List.mem_of_mem_drop hx)

/-- A slice in memory that is new, of a known type. -/
structure SL (w W : World) (T : TypeId) (v : Value) (n : Nat) (xs : List Value) : Prop where
  rds : Rds W 1 v n xs
  kind : KindT W T v
  new : ∀ b, v.ownBlock = some b → w.heap.size ≤ b
theorem SL.none (w W : World) (T : TypeId) : SL w W T (.slice none 0 0) 0 [] := ⟨Rds.nil _ _, KindT.none _ _ _ _, fun b hb => by simp [Value.ownBlock] at hb⟩
theorem SL.of_owns {w W : World} {T : TypeId} {v : Value} {n B : Nat} {xs : List Value} (h : W.ownsRow B T 1 v n xs) (hB : w.heap.size ≤ B) : SL w W T v n xs := ⟨Rds.of_owns h, KindT.of_owns h, fun b hb => Nat.le_trans hB (h.lt b hb).1⟩
theorem SL.step {w W W' : World} {T : TypeId} {v : Value} {n q : Nat} {xs : List Value} (h : SL w W T v n xs) (hg : W.grownBy W' (some q)) (hq : ∀ b, v.ownBlock = some b → b ≠ q) : SL w W' T v n xs :=
  ⟨h.rds.grown hg (fun b e => by cases e; exact fun e' => hq _ e' rfl), fun b hb => by
    obtain ⟨cs, fz, h1⟩ := h.kind b hb
    exact ⟨cs, fz, (hg.block b (Array.getElem?_eq_some_iff.1 h1).1 (fun e => by cases e; exact hq _ hb rfl)).trans h1⟩, h.new⟩
theorem SL.grown {w W W' : World} {T : TypeId} {v : Value} {n : Nat} {xs : List Value} (h : SL w W T v n xs) (hg : W.grownBy W' Option.none) : SL w W' T v n xs :=
  ⟨h.rds.grown hg (by simp), h.kind.grown hg, h.new⟩
theorem SL.stepR {w W W' : World} {T : TypeId} {v : Value} {n R : Nat} {xs : List Value} (h : SL w W T v n xs) (hg : W.grownBy W' (some R)) (hR : R < w.heap.size) : SL w W' T v n xs :=
  h.step hg (fun b hb e => by have := h.new b hb; omega)
theorem SL.stepX {w W W' : World} {T e : TypeId} {v : Value} {n X : Nat} {xs vs : List Value} (h : SL w W T v n xs) (hg : W.grownBy W' (some X)) (hX : Blk W X e vs) (hte : T ≠ e) : SL w W' T v n xs :=
  h.step hg (fun b hb e' => by
    obtain ⟨cs, fz, h1⟩ := h.kind b hb
    subst e'
    unfold Blk at hX
    rw [hX] at h1
    simp at h1
    exact hte h1.2.1.symm)
theorem SL.stepO {w W W' : World} {T e : TypeId} {v u : Value} {n : Nat} {xs : List Value} (h : SL w W T v n xs) (hg : W.grownBy W' u.ownBlock) (hu : KindT W e u) (hte : T ≠ e) : SL w W' T v n xs :=
  ⟨h.rds.grown hg (h.kind.ne hu hte), h.kind.step hg hu hte, h.new⟩
theorem grown_new {w W W' : World} {R X : Nat} (h : w.grownBy W (some R)) (h2 : W.grownBy W' (some X)) (hX : w.heap.size ≤ X) : w.grownBy W' (some R) :=
  ⟨h2.os.trans h.os, h2.tape.trans h.tape, h2.output.trans h.output, Nat.le_trans h.size h2.size, fun k hk hr => (h2.block k (Nat.lt_of_lt_of_le hk h.size) (by simp; omega)).trans (h.block k hk hr)⟩

end Go.Proofs.Ytbjpjnkaaiajlaa
