/- Layer 20: a document's acts as the program's. -/
import Derived.Test.YtbjpjnkaaiajlaaScL
import Derived.Test.YtbjpjnkaaiajlaaStepApp
import Derived.Lib.OwnKind
namespace Go.Proofs.Ytbjpjnkaaiajlaa
open Go.RowKit

/-- What type the block of a slice has. -/
def KindT (w : World) (T : TypeId) (v : Value) : Prop := ∀ b, v.ownBlock = some b → ∃ cs fz, w.heap[b]? = some (.cells cs T fz)
theorem KindT.lt {w : World} {T : TypeId} {v : Value} (h : KindT w T v) : ∀ b, v.ownBlock = some b → b < w.heap.size := fun b hb => by
  obtain ⟨cs, fz, h1⟩ := h b hb
  exact (Array.getElem?_eq_some_iff.1 h1).1
theorem KindT.ne {w : World} {T e : TypeId} {v u : Value} (h : KindT w T v) (hu : KindT w e u) (hte : T ≠ e) : ∀ b, u.ownBlock = some b → v.ownBlock ≠ some b := fun b hb hv => by
  obtain ⟨c1, f1, h1⟩ := h b hv
  obtain ⟨c2, f2, h2⟩ := hu b hb
  rw [h1] at h2
  simp at h2
  exact hte h2.2.1
theorem KindT.step {w w' : World} {T e : TypeId} {v u : Value} (h : KindT w T v) (hg : w.grownBy w' u.ownBlock) (hu : KindT w e u) (hte : T ≠ e) : KindT w' T v := fun b hb => by
  obtain ⟨cs, fz, h1⟩ := h b hb
  refine ⟨cs, fz, (hg.block b (h.lt b hb) (fun e' => ?_)).trans h1⟩
  exact h.ne hu hte b e'.symm hb
theorem KindT.grown {w w' : World} {T : TypeId} {v : Value} (h : KindT w T v) (hg : w.grownBy w' none) : KindT w' T v := fun b hb => by
  obtain ⟨cs, fz, h1⟩ := h b hb
  exact ⟨cs, fz, (hg.block b (h.lt b hb) (by simp)).trans h1⟩
theorem KindT.of_owns {w : World} {B : Nat} {e : TypeId} {sz n : Nat} {v : Value} {xs : List Value} (h : w.ownsRow B e sz v n xs) : KindT w e v := Lib.ownsRow_kind h
theorem KindT.none (w : World) (T : TypeId) (n c : Nat) : KindT w T (.slice none n c) := fun b hb => by simp [Value.ownBlock] at hb

/-- An act in memory of known types. -/
structure SAct.mine (w : World) (x : SAct) : Prop where
  good : x.good w
  kk : KindT w 5 (.slice x.ka x.key.length x.kc)
  kv : KindT w 5 (.slice x.va x.val.length x.vc)
  kn : KindT w 3 (.slice x.na x.ns.length x.nc)
theorem SAct.mine.grown {w w' : World} {x : SAct} (h : x.mine w) (hg : w.grownBy w' none) : x.mine w' := ⟨h.good.grown hg, h.kk.grown hg, h.kv.grown hg, h.kn.grown hg⟩
theorem SAct.mine.step {w w' : World} {x : SAct} {u : Value} (h : x.mine w) (hg : w.grownBy w' u.ownBlock) (hu : KindT w 35 u) : x.mine w' :=
  ⟨⟨h.good.key.grown hg (h.kk.ne hu (by decide)), h.good.val.grown hg (h.kv.ne hu (by decide)), h.good.ns.grown hg (h.kn.ne hu (by decide))⟩, h.kk.step hg hu (by decide), h.kv.step hg hu (by decide), h.kn.step hg hu (by decide)⟩
def SAct.data (x : SAct) : SAct := { x with ka := none, va := none, na := none, kc := 0, vc := 0, nc := 0 }
theorem packOf_data (l : List SAct) : packOf (l.map SAct.data) = packOf l := by
  unfold packOf
  have h1 : (l.map SAct.data).all SAct.right = l.all SAct.right := by rw [List.all_map]; rfl
  have h2 : (l.map SAct.data).flatMap SAct.bytes = l.flatMap SAct.bytes := by rw [List.flatMap_map]; rfl
  rw [h1, h2, List.length_map]
theorem packOf_same {l m : List SAct} (h : l.map SAct.data = m.map SAct.data) : packOf l = packOf m := by rw [← packOf_data l, h, packOf_data]
theorem len_same {l m : List SAct} (h : l.map SAct.data = m.map SAct.data) : l.length = m.length := by
  have := congrArg List.length h
  simpa using this
theorem bytes_same {l m : List SAct} (h : l.map SAct.data = m.map SAct.data) : l.flatMap SAct.bytes = m.flatMap SAct.bytes := by
  have h2 : ∀ l : List SAct, (l.map SAct.data).flatMap SAct.bytes = l.flatMap SAct.bytes := fun l => by rw [List.flatMap_map]; rfl
  rw [← h2 l, h, h2]

/-- What the region knows. -/
structure GO (w w0 : World) (l' : List SAct) (x : SAct) (outv : Value) (D : Nat → Bool) (vals : Nat → Value) (W : World) : Prop where
  g : w.grownBy W none
  gn : D 17 = false → w0.grownBy W none
  k5 : D 5 = true → D 17 = false → ∃ b c, vals 5 = .slice (some ⟨b, 0, none⟩) x.key.length c ∧ Rds W 1 (.slice (some ⟨b, 0, none⟩) x.key.length c) x.key.length (bytesV x.key) ∧ KindT W 5 (.slice (some ⟨b, 0, none⟩) x.key.length c)
  k8 : D 8 = true → D 17 = false → ∃ b c, vals 8 = .slice (some ⟨b, 0, none⟩) x.val.length c ∧ Rds W 1 (.slice (some ⟨b, 0, none⟩) x.val.length c) x.val.length (bytesV x.val) ∧ KindT W 5 (.slice (some ⟨b, 0, none⟩) x.val.length c)
  k11 : D 11 = true → D 14 = false → W.ownsRow w0.heap.size 3 1 (vals 11) 0 []
  k14 : D 14 = true → D 17 = false → ∃ a c, vals 14 = .slice a x.ns.length c ∧ W.ownsRow w0.heap.size 3 1 (.slice a x.ns.length c) x.ns.length (intsV x.ns)
  k15 : D 15 = true → vals 15 = .agg #[.int .i64 x.k, vals 5, vals 8, .int .i64 x.n, vals 14]
  k16 : D 16 = true → D 17 = false → ∃ b, vals 16 = .slice (some ⟨b, 0, none⟩) 1 1 ∧ Blk W b 35 [.int .i64 x.k, vals 5, vals 8, .int .i64 x.n, vals 14]
  k17 : D 17 = true → ∃ a c x', vals 17 = .slice a (l'.length + 1) c ∧ x'.data = x.data ∧ W.ownsRow w.heap.size 35 5 (.slice a (l'.length + 1) c) (l'.length + 1) (sactsV (l' ++ [x'])) ∧ ∀ y ∈ l' ++ [x'], y.mine W
  k18 : D 18 = true → vals 18 = vals 17
  o14 : D 14 = true → D 11 = true
  o15 : D 15 = true → D 5 = true ∧ D 8 = true ∧ D 14 = true
  o16 : D 16 = true → D 15 = true
  o17 : D 17 = true → ∀ j, j < 17 → D j = true
  o18 : D 18 = true → D 17 = true
section
variable {w w0 W : World} {l' : List SAct} {x : SAct} {outv : Value} {D : Nat → Bool} {vals : Nat → Value}
theorem setD_j {k j : Nat} (h : j ≠ k) : setD D k j = D j := setD_ne h
theorem GO.keep (h : GO w w0 l' x outv D vals W) (k : Nat) (v : Value) (hk : k ≠ 5 ∧ k ≠ 8 ∧ k ≠ 11 ∧ k ≠ 14 ∧ k ≠ 15 ∧ k ≠ 16 ∧ k ≠ 17 ∧ k ≠ 18) : GO w w0 l' x outv (setD D k) (setV vals k v) W := by
  obtain ⟨h5, h8, h11, h14, h15, h16, h17, h18⟩ := hk
  have d := fun j (hj : j ≠ k) => setD_ne (D := D) hj
  have e := fun j (hj : j ≠ k) => setV_no (vals := vals) (v := v) hj
  refine ⟨h.g, ?_, ?_, ?_, ?_, ?_, ?_, ?_, ?_, ?_, ?_, ?_, ?_, ?_, ?_⟩ <;>
    simp only [d 5 h5.symm, d 8 h8.symm, d 11 h11.symm, d 14 h14.symm, d 15 h15.symm, d 16 h16.symm, d 17 h17.symm, d 18 h18.symm, e 5 h5.symm, e 8 h8.symm, e 11 h11.symm, e 14 h14.symm, e 15 h15.symm, e 16 h16.symm, e 17 h17.symm, e 18 h18.symm]
  · exact h.gn
  · exact h.k5
  · exact h.k8
  · exact h.k11
  · exact h.k14
  · exact h.k15
  · exact h.k16
  · exact h.k17
  · exact h.k18
  · exact h.o14
  · exact h.o15
  · exact h.o16
  · exact fun hh j hj => setD_le (h.o17 hh j hj)
  · exact h.o18
theorem GO.no (h : GO w w0 l' x outv D vals W) (h14 : D 14 = false) : D 15 = false ∧ D 16 = false ∧ D 17 = false ∧ D 18 = false := by
  have a15 : D 15 = false := by cases e : D 15; · rfl
                                · rw [(h.o15 e).2.2] at h14; cases h14
  have a16 : D 16 = false := by cases e : D 16; · rfl
                                · rw [h.o16 e] at a15; cases a15
  have a17 : D 17 = false := by cases e : D 17; · rfl
                                · rw [h.o17 e 16 (by omega)] at a16; cases a16
  have a18 : D 18 = false := by cases e : D 18; · rfl
                                · rw [h.o18 e] at a17; cases a17
  exact ⟨a15, a16, a17, a18⟩
theorem GO.no15 (h : GO w w0 l' x outv D vals W) (a15 : D 15 = false) : D 16 = false ∧ D 17 = false ∧ D 18 = false := by
  have a16 : D 16 = false := by cases e : D 16; · rfl
                                · rw [h.o16 e] at a15; cases a15
  have a17 : D 17 = false := by cases e : D 17; · rfl
                                · rw [h.o17 e 16 (by omega)] at a16; cases a16
  have a18 : D 18 = false := by cases e : D 18; · rfl
                                · rw [h.o18 e] at a17; cases a17
  exact ⟨a16, a17, a18⟩
theorem GO.s5 (h : GO w w0 l' x outv D vals W) {W' : World} (v : Value) (b c : Nat) (hv : v = .slice (some ⟨b, 0, none⟩) x.key.length c) (hD : D 5 = false) (hg : W.grownBy W' none) (hr : Rds W' 1 (.slice (some ⟨b, 0, none⟩) x.key.length c) x.key.length (bytesV x.key)) (hk : KindT W' 5 (.slice (some ⟨b, 0, none⟩) x.key.length c)) : GO w w0 l' x outv (setD D 5) (setV vals 5 v) W' := by
  have d := fun j (hj : j ≠ 5) => setD_ne (D := D) hj
  have e := fun j (hj : j ≠ 5) => setV_no (vals := vals) (v := v) hj
  have a15 : D 15 = false := by cases e : D 15; · rfl
                                · rw [(h.o15 e).1] at hD; cases hD
  obtain ⟨a16, a17, a18⟩ := h.no15 a15
  refine ⟨?_, ?_, ?_, ?_, ?_, ?_, ?_, ?_, ?_, ?_, ?_, ?_, ?_, ?_, ?_⟩ <;> (try simp only [d 8 (by decide), e 8 (by decide), d 11 (by decide), e 11 (by decide), d 14 (by decide), e 14 (by decide), d 15 (by decide), e 15 (by decide), d 16 (by decide), e 16 (by decide), d 17 (by decide), e 17 (by decide), d 18 (by decide), e 18 (by decide), setD_eq, setV_at])
  · exact grownBy_trans h.g hg
  · exact fun hc => grownBy_trans (h.gn hc) hg
  · exact fun _ _ => ⟨b, c, hv, hr, hk⟩
  · intro h1 h2
    obtain ⟨b2, c2, q1, q2, q3⟩ := h.k8 h1 h2
    exact ⟨b2, c2, q1, q2.grown hg (by simp), q3.grown hg⟩
  · exact fun h1 h2 => owns_grown (h.k11 h1 h2) hg
  · intro h1 h2
    obtain ⟨a2, c2, q1, q2⟩ := h.k14 h1 h2
    exact ⟨a2, c2, q1, owns_grown q2 hg⟩
  · rw [a15]; intro hc; cases hc
  · rw [a16]; intro hc; cases hc
  · rw [a17]; intro hc; cases hc
  · rw [a18]; intro hc; cases hc
  · exact h.o14
  · rw [a15]; intro hc; cases hc
  · exact h.o16
  · exact fun hh j hj => setD_le (h.o17 hh j hj)
  · exact h.o18
theorem GO.s8 (h : GO w w0 l' x outv D vals W) {W' : World} (v : Value) (b c : Nat) (hv : v = .slice (some ⟨b, 0, none⟩) x.val.length c) (hD : D 8 = false) (hg : W.grownBy W' none) (hr : Rds W' 1 (.slice (some ⟨b, 0, none⟩) x.val.length c) x.val.length (bytesV x.val)) (hk : KindT W' 5 (.slice (some ⟨b, 0, none⟩) x.val.length c)) : GO w w0 l' x outv (setD D 8) (setV vals 8 v) W' := by
  have d := fun j (hj : j ≠ 8) => setD_ne (D := D) hj
  have e := fun j (hj : j ≠ 8) => setV_no (vals := vals) (v := v) hj
  have a15 : D 15 = false := by cases e : D 15; · rfl
                                · rw [(h.o15 e).2.1] at hD; cases hD
  obtain ⟨a16, a17, a18⟩ := h.no15 a15
  refine ⟨?_, ?_, ?_, ?_, ?_, ?_, ?_, ?_, ?_, ?_, ?_, ?_, ?_, ?_, ?_⟩ <;> (try simp only [d 5 (by decide), e 5 (by decide), d 11 (by decide), e 11 (by decide), d 14 (by decide), e 14 (by decide), d 15 (by decide), e 15 (by decide), d 16 (by decide), e 16 (by decide), d 17 (by decide), e 17 (by decide), d 18 (by decide), e 18 (by decide), setD_eq, setV_at])
  · exact grownBy_trans h.g hg
  · exact fun hc => grownBy_trans (h.gn hc) hg
  · intro h1 h2
    obtain ⟨b2, c2, q1, q2, q3⟩ := h.k5 h1 h2
    exact ⟨b2, c2, q1, q2.grown hg (by simp), q3.grown hg⟩
  · exact fun _ _ => ⟨b, c, hv, hr, hk⟩
  · exact fun h1 h2 => owns_grown (h.k11 h1 h2) hg
  · intro h1 h2
    obtain ⟨a2, c2, q1, q2⟩ := h.k14 h1 h2
    exact ⟨a2, c2, q1, owns_grown q2 hg⟩
  · rw [a15]; intro hc; cases hc
  · rw [a16]; intro hc; cases hc
  · rw [a17]; intro hc; cases hc
  · rw [a18]; intro hc; cases hc
  · exact h.o14
  · rw [a15]; intro hc; cases hc
  · exact h.o16
  · exact fun hh j hj => setD_le (h.o17 hh j hj)
  · exact h.o18
theorem GO.s11 (h : GO w w0 l' x outv D vals W) (v : Value) (hv : v = .slice (some ⟨W.heap.size, 0, none⟩) 0 0) (hD : D 11 = false) : GO w w0 l' x outv (setD D 11) (setV vals 11 v) (W.alloc (.cells #[] 3)) := by
  have d := fun j (hj : j ≠ 11) => setD_ne (D := D) hj
  have e := fun j (hj : j ≠ 11) => setV_no (vals := vals) (v := v) hj
  have hg := World.grownBy_alloc W (.cells #[] 3) none
  have a14 : D 14 = false := by cases e : D 14; · rfl
                                · rw [h.o14 e] at hD; cases hD
  obtain ⟨a15, a16, a17, a18⟩ := h.no a14
  refine ⟨?_, ?_, ?_, ?_, ?_, ?_, ?_, ?_, ?_, ?_, ?_, ?_, ?_, ?_, ?_⟩ <;> (try simp only [d 5 (by decide), e 5 (by decide), d 8 (by decide), e 8 (by decide), d 14 (by decide), e 14 (by decide), d 15 (by decide), e 15 (by decide), d 16 (by decide), e 16 (by decide), d 17 (by decide), e 17 (by decide), d 18 (by decide), e 18 (by decide), setD_eq, setV_at])
  · exact grownBy_trans h.g hg
  · exact fun hc => grownBy_trans (h.gn hc) hg
  · intro h1 h2
    obtain ⟨b2, c2, q1, q2, q3⟩ := h.k5 h1 h2
    exact ⟨b2, c2, q1, q2.grown hg (by simp), q3.grown hg⟩
  · intro h1 h2
    obtain ⟨b2, c2, q1, q2, q3⟩ := h.k8 h1 h2
    exact ⟨b2, c2, q1, q2.grown hg (by simp), q3.grown hg⟩
  · intro _ _
    rw [hv]
    exact World.ownsRow_lit W #[] 0 (h.gn a17).size (by simp) (by simp)
  · rw [a14]; intro hc; cases hc
  · rw [a15]; intro hc; cases hc
  · rw [a16]; intro hc; cases hc
  · rw [a17]; intro hc; cases hc
  · rw [a18]; intro hc; cases hc
  · exact fun _ => trivial
  · exact h.o15
  · exact h.o16
  · exact fun hh j hj => setD_le (h.o17 hh j hj)
  · exact h.o18
theorem GO.s14 (h : GO w w0 l' x outv D vals W) {W' : World} (v : Value) (a : Option Addr) (c : Nat) (hv : v = .slice a x.ns.length c) (h0 : w.heap.size ≤ w0.heap.size) (hD : D 14 = false) (h11 : D 11 = true) (hg : W.grownBy W' (vals 11).ownBlock) (ho : W'.ownsRow w0.heap.size 3 1 (.slice a x.ns.length c) x.ns.length (intsV x.ns)) : GO w w0 l' x outv (setD D 14) (setV vals 14 v) W' := by
  have d := fun j (hj : j ≠ 14) => setD_ne (D := D) hj
  have e := fun j (hj : j ≠ 14) => setV_no (vals := vals) (v := v) hj
  obtain ⟨a15, a16, a17, a18⟩ := h.no hD
  have hrow := h.k11 h11 hD
  have hki : KindT W 3 (vals 11) := KindT.of_owns hrow
  have hgn := grownBy_own2 (h.gn a17) hrow (Nat.le_refl _) hg
  refine ⟨?_, ?_, ?_, ?_, ?_, ?_, ?_, ?_, ?_, ?_, ?_, ?_, ?_, ?_, ?_⟩ <;> (try simp only [d 5 (by decide), e 5 (by decide), d 8 (by decide), e 8 (by decide), d 11 (by decide), e 11 (by decide), d 15 (by decide), e 15 (by decide), d 16 (by decide), e 16 (by decide), d 17 (by decide), e 17 (by decide), d 18 (by decide), e 18 (by decide), setD_eq, setV_at])
  · exact grownBy_own2 h.g (ownsRow_mono hrow h0) (Nat.le_refl _) hg
  · exact fun _ => hgn
  · intro h1 h2
    obtain ⟨b2, c2, q1, q2, q3⟩ := h.k5 h1 h2
    exact ⟨b2, c2, q1, q2.grown hg (q3.ne hki (by decide)), q3.step hg hki (by decide)⟩
  · intro h1 h2
    obtain ⟨b2, c2, q1, q2, q3⟩ := h.k8 h1 h2
    exact ⟨b2, c2, q1, q2.grown hg (q3.ne hki (by decide)), q3.step hg hki (by decide)⟩
  · intro _ hc; cases hc
  · exact fun _ _ => ⟨a, c, hv, ho⟩
  · rw [a15]; intro hc; cases hc
  · rw [a16]; intro hc; cases hc
  · rw [a17]; intro hc; cases hc
  · rw [a18]; intro hc; cases hc
  · exact fun _ => h11
  · rw [a15]; intro hc; cases hc
  · exact h.o16
  · exact fun hh j hj => setD_le (h.o17 hh j hj)
  · exact h.o18
theorem GO.s15 (h : GO w w0 l' x outv D vals W) (v : Value) (hv : v = .agg #[.int .i64 x.k, vals 5, vals 8, .int .i64 x.n, vals 14]) (hD : D 15 = false) (h5 : D 5 = true) (h8 : D 8 = true) (h14 : D 14 = true) : GO w w0 l' x outv (setD D 15) (setV vals 15 v) W := by
  have d := fun j (hj : j ≠ 15) => setD_ne (D := D) hj
  have e := fun j (hj : j ≠ 15) => setV_no (vals := vals) (v := v) hj
  obtain ⟨a16, a17, a18⟩ := h.no15 hD
  refine ⟨?_, ?_, ?_, ?_, ?_, ?_, ?_, ?_, ?_, ?_, ?_, ?_, ?_, ?_, ?_⟩ <;> (try simp only [d 5 (by decide), e 5 (by decide), d 8 (by decide), e 8 (by decide), d 11 (by decide), e 11 (by decide), d 14 (by decide), e 14 (by decide), d 16 (by decide), e 16 (by decide), d 17 (by decide), e 17 (by decide), d 18 (by decide), e 18 (by decide), setD_eq, setV_at])
  · exact h.g
  · exact h.gn
  · exact h.k5
  · exact h.k8
  · exact h.k11
  · exact h.k14
  · exact fun _ => hv
  · exact h.k16
  · exact h.k17
  · exact h.k18
  · exact h.o14
  · exact fun _ => ⟨h5, h8, h14⟩
  · exact fun _ => trivial
  · exact fun hh j hj => setD_le (h.o17 hh j hj)
  · exact h.o18
theorem GO.s16 (h : GO w w0 l' x outv D vals W) (v : Value) (hv : v = .slice (some ⟨W.heap.size, 0, none⟩) 1 1) (hD : D 16 = false) (h15 : D 15 = true) : GO w w0 l' x outv (setD D 16) (setV vals 16 v) (W.alloc (.cells #[.int .i64 x.k, vals 5, vals 8, .int .i64 x.n, vals 14] 35)) := by
  have d := fun j (hj : j ≠ 16) => setD_ne (D := D) hj
  have e := fun j (hj : j ≠ 16) => setV_no (vals := vals) (v := v) hj
  have hg := World.grownBy_alloc W (.cells #[.int .i64 x.k, vals 5, vals 8, .int .i64 x.n, vals 14] 35) none
  have a17 : D 17 = false := by cases e : D 17; · rfl
                                · rw [h.o17 e 16 (by omega)] at hD; cases hD
  have a18 : D 18 = false := by cases e : D 18; · rfl
                                · rw [h.o18 e] at a17; cases a17
  refine ⟨?_, ?_, ?_, ?_, ?_, ?_, ?_, ?_, ?_, ?_, ?_, ?_, ?_, ?_, ?_⟩ <;> (try simp only [d 5 (by decide), e 5 (by decide), d 8 (by decide), e 8 (by decide), d 11 (by decide), e 11 (by decide), d 14 (by decide), e 14 (by decide), d 15 (by decide), e 15 (by decide), d 17 (by decide), e 17 (by decide), d 18 (by decide), e 18 (by decide), setD_eq, setV_at])
  · exact grownBy_trans h.g hg
  · exact fun hc => grownBy_trans (h.gn hc) hg
  · intro h1 h2
    obtain ⟨b2, c2, q1, q2, q3⟩ := h.k5 h1 h2
    exact ⟨b2, c2, q1, q2.grown hg (by simp), q3.grown hg⟩
  · intro h1 h2
    obtain ⟨b2, c2, q1, q2, q3⟩ := h.k8 h1 h2
    exact ⟨b2, c2, q1, q2.grown hg (by simp), q3.grown hg⟩
  · exact fun h1 h2 => owns_grown (h.k11 h1 h2) hg
  · intro h1 h2
    obtain ⟨a2, c2, q1, q2⟩ := h.k14 h1 h2
    exact ⟨a2, c2, q1, owns_grown q2 hg⟩
  · exact h.k15
  · exact fun _ _ => ⟨_, hv, Blk.new W _ _⟩
  · rw [a17]; intro hc; cases hc
  · rw [a18]; intro hc; cases hc
  · exact h.o14
  · exact h.o15
  · exact fun _ => h15
  · rw [a17]; intro hc; cases hc
  · exact h.o18
theorem GO.s17 (h : GO w w0 l' x outv D vals W) {W' : World} (v : Value) (a : Option Addr) (c : Nat) (x' : SAct) (hv : v = .slice a (l'.length + 1) c) (hx : x'.data = x.data) (hD : D 17 = false) (hall : ∀ j, j < 17 → D j = true) (hg : w.grownBy W' none) (ho : W'.ownsRow w.heap.size 35 5 (.slice a (l'.length + 1) c) (l'.length + 1) (sactsV (l' ++ [x']))) (hm : ∀ y ∈ l' ++ [x'], y.mine W') : GO w w0 l' x outv (setD D 17) (setV vals 17 v) W' := by
  have d := fun j (hj : j ≠ 17) => setD_ne (D := D) hj
  have e := fun j (hj : j ≠ 17) => setV_no (vals := vals) (v := v) hj
  have a18 : D 18 = false := by cases e : D 18; · rfl
                                · rw [h.o18 e] at hD; cases hD
  have h16 := hall 16 (by omega)
  have a15 := h.o16 h16
  have a14 := (h.o15 a15).2.2
  refine ⟨?_, ?_, ?_, ?_, ?_, ?_, ?_, ?_, ?_, ?_, ?_, ?_, ?_, ?_, ?_⟩ <;> (try simp only [d 5 (by decide), e 5 (by decide), d 8 (by decide), e 8 (by decide), d 11 (by decide), e 11 (by decide), d 14 (by decide), e 14 (by decide), d 15 (by decide), e 15 (by decide), d 16 (by decide), e 16 (by decide), d 18 (by decide), e 18 (by decide), setD_eq, setV_at])
  · exact hg
  · intro hc; cases hc
  · intro _ hc; cases hc
  · intro _ hc; cases hc
  · intro _ hc; rw [a14] at hc; cases hc
  · intro _ hc; cases hc
  · exact h.k15
  · intro _ hc; cases hc
  · exact fun _ => ⟨a, c, x', hv, hx, ho, hm⟩
  · rw [a18]; intro hc; cases hc
  · exact h.o14
  · exact h.o15
  · exact h.o16
  · exact fun _ j hj => setD_le (hall j hj)
  · exact fun _ => trivial
theorem GO.s18 (h : GO w w0 l' x outv D vals W) (v : Value) (hv : v = vals 17) (hD : D 18 = false) (h17 : D 17 = true) : GO w w0 l' x outv (setD D 18) (setV vals 18 v) W := by
  have d := fun j (hj : j ≠ 18) => setD_ne (D := D) hj
  have e := fun j (hj : j ≠ 18) => setV_no (vals := vals) (v := v) hj
  refine ⟨?_, ?_, ?_, ?_, ?_, ?_, ?_, ?_, ?_, ?_, ?_, ?_, ?_, ?_, ?_⟩ <;> (try simp only [d 5 (by decide), e 5 (by decide), d 8 (by decide), e 8 (by decide), d 11 (by decide), e 11 (by decide), d 14 (by decide), e 14 (by decide), d 15 (by decide), e 15 (by decide), d 16 (by decide), e 16 (by decide), d 17 (by decide), e 17 (by decide), setD_eq, setV_at])
  · exact h.g
  · exact h.gn
  · exact h.k5
  · exact h.k8
  · exact h.k11
  · exact h.k14
  · exact h.k15
  · exact h.k16
  · exact h.k17
  · exact fun _ => hv
  · exact h.o14
  · exact h.o15
  · exact h.o16
  · exact fun hh j hj => setD_le (h.o17 hh j hj)
  · exact fun _ => h17
end

theorem infoInt : (Try.prog.info? 3).map (fun i => (i.zero, i.size, i.bytes)) = some (some (.int .i64 0), 1, 8) := by kernel_rfl
theorem infoAct : (Try.prog.info? 35).map (fun i => (i.zero, i.size, i.bytes)) = some (some (.agg #[.int .i64 0, .slice none 0 0, .slice none 0 0, .int .i64 0, .slice none 0 0]), 5, 88) := by kernel_rfl
theorem conv_strK (xs : List Nat) (hs : ∀ x ∈ xs, x < 256) (hl : xs.length ≤ 1000000) (W : World) : ∃ (c : Nat) (W' : World), (convert 9 24 (.string (strN xs))).run Try.prog W = .ok (.slice (some ⟨W.heap.size, 0, none⟩) xs.length c) W' ∧ W.grownBy W' none ∧ Rds W' 1 (.slice (some ⟨W.heap.size, 0, none⟩) xs.length c) xs.length (bytesV xs) ∧ KindT W' 5 (.slice (some ⟨W.heap.size, 0, none⟩) xs.length c) := by
  have h := Lib.run_convert_string_bytes (P := Try.prog) W 9 24 5 (strN xs) Try.underlying9 Try.underlying24 Try.underlying5
  obtain ⟨c, W', h1, h2, h3⟩ := conv_str xs hs hl W
  rw [h1] at h
  simp only [Result.ok.injEq] at h
  refine ⟨c, W', h1, h2, h3, fun b hb => ?_⟩
  simp [Value.ownBlock] at hb
  subst hb
  rw [h.2]
  exact ⟨_, _, Lib.bytesWorld_at_new W _ _⟩
/-- A list's acts are small. -/
theorem of_len {l l' : List SAct} {j : Nat} (h : l'.map SAct.data = (l.take j).map SAct.data) (hj : j ≤ l.length) : l'.length = j := by
  have := len_same h
  rw [this, List.length_take]
  omega
/-- Till the append nothing of the last steps is done. -/
theorem GO.early {w w0 W : World} {l' : List SAct} {x : SAct} {outv : Value} {D : Nat → Bool} {vals : Nat → Value} (_h : GO w w0 l' x outv D vals W) (h16 : D 16 = false) : D 17 = false := by
  cases e : D 17
  · rfl
  · rw [_h.o17 e 16 (by omega)] at h16; cases h16

set_option maxRecDepth 100000 in
set_option maxHeartbeats 8000000 in
theorem of_any (l : List SAct) (a : Option Addr) (c : Nat) (w : World) (hr : Rds w 5 (.slice a l.length c) l.length (ractsV l)) (hg : ∀ x ∈ l, x.rgood w) (hl : l.length ≤ 60000) (hkl : ∀ x ∈ l, x.key.length ≤ 1000000 ∧ x.val.length ≤ 1000000 ∧ x.ns.length ≤ 1000000) :
    Calls Try.prog 10 #[.slice a l.length c] w fun e w' => ∃ (l' : List SAct) (a' : Option Addr) (c' : Nat), e = .returned (.slice a' l'.length c') ∧ l'.map SAct.data = l.map SAct.data ∧ (∀ x ∈ l', x.mine w') ∧ w'.ownsRow w.heap.size 35 5 (.slice a' l'.length c') l'.length (sactsV l') ∧ w.grownBy w' none := by
  obtain ⟨i1, hi', hz0', hz1', hz2'⟩ := info_parts infoInt
  obtain ⟨i2, hi2, hy0, hy1, hy2⟩ := info_parts infoAct
  have HR := Lib.hid hr
  have HG := Lib.hid hg
  have HKL := Lib.hid hkl
  clear hr hg hkl
  go_enter Try.func10, Try.ntmps10
  go_wp2_with fail
  go_loopw [3, 4] (fun o i wr => ∃ (j : Nat) (l' : List SAct) (a1 : Option Addr) (c1 : Nat), j ≤ l.length ∧ i = .int .i64 j ∧ o = .slice a1 l'.length c1 ∧ l'.map SAct.data = (l.take j).map SAct.data ∧ (∀ x ∈ l', x.mine wr) ∧ wr.ownsRow w.heap.size 35 5 (.slice a1 l'.length c1) l'.length (sactsV l') ∧ w.grownBy wr none) (fun _ i _ => l.length - (intOf i).toNat)
  case atStart => exact ⟨0, [], none, 0, by omega, rfl, rfl, rfl, fun x hx => by simp at hx, World.ownsRow_nil _ _ _ _, grownBy_refl _ _⟩
  case round =>
    obtain ⟨j, l', a1, c1, hj, rfl, rfl, hda, hmi, ho, hgr⟩ := hrel
    have hlj := of_len hda hj
    by_cases hlt : j < l.length
    · obtain ⟨b, o, rfl, hc⟩ := HR.out.at' (by omega)
      have x0 := hgr.cell (hc _ _ (ractsV_get l j 0 hlt (by omega))) (by simp)
      have x1 := hgr.cell (hc _ _ (ractsV_get l j 1 hlt (by omega))) (by simp)
      have x2 := hgr.cell (hc _ _ (ractsV_get l j 2 hlt (by omega))) (by simp)
      have x3 := hgr.cell (hc _ _ (ractsV_get l j 3 hlt (by omega))) (by simp)
      have x4 := hgr.cell (hc _ _ (ractsV_get l j 4 hlt (by omega))) (by simp)
      simp only [← Nat.add_assoc, Nat.add_zero] at x0 x1 x2 x3 x4
      have hgd := HG.out _ (sact_mem l j hlt)
      have hkd := HKL.out _ (sact_mem l j hlt)
      have htk := sact_take l j hlt
      obtain ⟨x, hx⟩ : ∃ x, l.getD j default = x := ⟨_, rfl⟩
      rw [hx] at x0 x1 x2 x3 x4 hgd hkd htk
      obtain ⟨k, key, val, n, ns, ka, va, na, kc, vc, nc⟩ := x
      dsimp only at x0 x1 x2 x3 x4 hkd
      have HCK := Lib.hid (conv_strK key hgd.key hkd.1)
      have HCV := Lib.hid (conv_strK val hgd.val hkd.2.1)
      have hnsl := hkd.2.2
      have HNW := Lib.hid hgd.ns
      dsimp only at HNW HCK HCV
      have HTK := Lib.hid htk
      have HDA := Lib.hid hda
      have HMI := Lib.hid hmi
      have HO := Lib.hid ho
      have HG1 := Lib.hid hgr
      have HLJ := Lib.hid hlj
      have hl' : l'.length ≤ 60000 := by omega
      clear hc hx hgd hkd htk hda hmi ho hgr hlj
      have hji : (j : Int) < (l.length : Int) := by omega
      go_wp2_with fail
      obtain ⟨X, hX⟩ : ∃ X, wr.heap.size = X := ⟨_, rfl⟩
      obtain ⟨w0, hw0⟩ : ∃ w0, wr.alloc (.cells #[.int .i64 k, .string (strN key), .string (strN val), .int .i64 n, .slice na ns.length nc] 38) = w0 := ⟨_, rfl⟩
      have hxb : Blk w0 X 38 [.int .i64 k, .string (strN key), .string (strN val), .int .i64 n, .slice na ns.length nc] := by rw [← hw0, ← hX]; exact Blk.new wr _ _
      have hga : wr.grownBy w0 none := by rw [← hw0]; exact World.grownBy_alloc _ _ none
      rw [hX, hw0]
      clear hX hw0 x0 x1 x2 x3 x4
      have HX := Lib.hid hxb
      have HGX := Lib.hid (grownBy_trans HG1.out hga)
      have HS0 := Lib.hid HGX.out.size
      have HS1 := Lib.hid hga.size
      have HO := Lib.hid (owns_grown HO.out hga)
      have HM : Hid (∀ y ∈ l', y.mine w0) := Lib.hid (fun y hy => (HMI.out y hy).grown hga)
      have HNS := Lib.hid (HNW.out.grown HGX.out (by simp))
      clear hxb hga HMI HNW
      refine wp_region_FG (fun j v => match j with
          | 0 => v = .slice a1 l'.length c1
          | 1 => v = .pointer (some ⟨X, 0, none⟩)
          | 2 => v = .int .i64 k
          | 3 => v = .pointer (some ⟨X, 1, none⟩)
          | 4 => v = .string (strN key)
          | 6 => v = .pointer (some ⟨X, 2, none⟩)
          | 7 => v = .string (strN val)
          | 9 => v = .pointer (some ⟨X, 3, none⟩)
          | 10 => v = .int .i64 n
          | 12 => v = .pointer (some ⟨X, 4, none⟩)
          | 13 => v = .slice na ns.length nc
          | _ => True) (GO w w0 l' ⟨k, key, val, n, ns, none, none, na, 0, 0, nc⟩ (.slice a1 l'.length c1)) [[], [], [1], [], [3], [3, 4], [], [6], [6, 7], [], [9], [], [], [12], [11, 12, 13], [1, 2, 3, 4, 5, 6, 7, 8, 9, 10, 11, 12, 13, 14], [1, 2, 3, 4, 5, 6, 7, 8, 9, 10, 11, 12, 13, 14, 15], [0, 1, 2, 3, 4, 5, 6, 7, 8, 9, 10, 11, 12, 13, 14, 15, 16], [0, 1, 2, 3, 4, 5, 6, 7, 8, 9, 10, 11, 12, 13, 14, 15, 16, 17]] (by kernel_rfl) (by kernel_rfl) (fun vals => ⟨grownBy_trans HGX.out (grownBy_drewN w0 1 none), fun _ => grownBy_drewN w0 1 none, fun h => (by cases h), fun h => (by cases h), fun h => (by cases h), fun h => (by cases h), fun h => (by cases h), fun h => (by cases h), fun h => (by cases h), fun h => (by cases h), fun h => (by cases h), fun h => (by cases h), fun h => (by cases h), fun h => (by cases h), fun h => (by cases h)⟩) ?xobs ?xend
      case xobs =>
        refine fgObs_cons (fun D vals W hG hD hC => ?_) (fgObs_cons (fun D vals W hG hD hC => ?_) (fgObs_cons (fun D vals W hG hD hC => ?_) (fgObs_cons (fun D vals W hG hD hC => ?_) (fgObs_cons (fun D vals W hG hD hC => ?_) (fgObs_cons (fun D vals W hG hD hC => ?_) (fgObs_cons (fun D vals W hG hD hC => ?_) (fgObs_cons (fun D vals W hG hD hC => ?_) (fgObs_cons (fun D vals W hG hD hC => ?_) (fgObs_cons (fun D vals W hG hD hC => ?_) (fgObs_cons (fun D vals W hG hD hC => ?_) (fgObs_cons (fun D vals W hG hD hC => ?_) (fgObs_cons (fun D vals W hG hD hC => ?_) (fgObs_cons (fun D vals W hG hD hC => ?_) (fgObs_cons (fun D vals W hG hD hC => ?_) (fgObs_cons (fun D vals W hG hD hC => ?_) (fgObs_cons (fun D vals W hG hD hC => ?_) (fgObs_cons (fun D vals W hG hD hC => ?_) (fgObs_cons (fun D vals W hG hD hC => ?_) (fgObs_nil)))))))))))))))))))
        case _ =>
          have a17 : D 17 = false := by
            cases e : D 17
            · rfl
            · rw [hG.o17 e 0 (by omega)] at hD; cases hD
          have hxW := HX.out.grown (hG.gn a17) (by simp)
          have q0 := hxW.cell (j := 0) rfl
          have q1 := hxW.cell (j := 1) rfl
          have q2 := hxW.cell (j := 2) rfl
          have q3 := hxW.cell (j := 3) rfl
          have q4 := hxW.cell (j := 4) rfl
          (repeat (refine givenV_step rfl (fun v h hv => ?_); (try dsimp only at h); first | subst h | (clear h; subst hv)))
          refine givenV_nil ?_
          (try simp only [Act.put, List.setIfInBounds_toArray, List.set_cons_zero, List.set_cons_succ])
          refine free_read rfl (by rfl) (v := _) ?_ ⟨rfl, hG.keep 0 _ (by decide)⟩
          go_simp
          (try with_reducible rfl)
        case _ =>
          have a17 : D 17 = false := by
            cases e : D 17
            · rfl
            · rw [hG.o17 e 1 (by omega)] at hD; cases hD
          have hxW := HX.out.grown (hG.gn a17) (by simp)
          have q0 := hxW.cell (j := 0) rfl
          have q1 := hxW.cell (j := 1) rfl
          have q2 := hxW.cell (j := 2) rfl
          have q3 := hxW.cell (j := 3) rfl
          have q4 := hxW.cell (j := 4) rfl
          (repeat (refine givenV_step rfl (fun v h hv => ?_); (try dsimp only at h); first | subst h | (clear h; subst hv)))
          refine givenV_nil ?_
          (try simp only [Act.put, List.setIfInBounds_toArray, List.set_cons_zero, List.set_cons_succ])
          refine free_read rfl (by rfl) (v := _) ?_ ⟨rfl, hG.keep 1 _ (by decide)⟩
          go_simp
          (try with_reducible rfl)
        case _ =>
          have a17 : D 17 = false := by
            cases e : D 17
            · rfl
            · rw [hG.o17 e 2 (by omega)] at hD; cases hD
          have hxW := HX.out.grown (hG.gn a17) (by simp)
          have q0 := hxW.cell (j := 0) rfl
          have q1 := hxW.cell (j := 1) rfl
          have q2 := hxW.cell (j := 2) rfl
          have q3 := hxW.cell (j := 3) rfl
          have q4 := hxW.cell (j := 4) rfl
          (repeat (refine givenV_step rfl (fun v h hv => ?_); (try dsimp only at h); first | subst h | (clear h; subst hv)))
          refine givenV_nil ?_
          (try simp only [Act.put, List.setIfInBounds_toArray, List.set_cons_zero, List.set_cons_succ])
          refine free_read rfl (by rfl) (v := _) ?_ ⟨rfl, hG.keep 2 _ (by decide)⟩
          go_simp
          (try with_reducible rfl)
        case _ =>
          have a17 : D 17 = false := by
            cases e : D 17
            · rfl
            · rw [hG.o17 e 3 (by omega)] at hD; cases hD
          have hxW := HX.out.grown (hG.gn a17) (by simp)
          have q0 := hxW.cell (j := 0) rfl
          have q1 := hxW.cell (j := 1) rfl
          have q2 := hxW.cell (j := 2) rfl
          have q3 := hxW.cell (j := 3) rfl
          have q4 := hxW.cell (j := 4) rfl
          (repeat (refine givenV_step rfl (fun v h hv => ?_); (try dsimp only at h); first | subst h | (clear h; subst hv)))
          refine givenV_nil ?_
          (try simp only [Act.put, List.setIfInBounds_toArray, List.set_cons_zero, List.set_cons_succ])
          refine free_read rfl (by rfl) (v := _) ?_ ⟨rfl, hG.keep 3 _ (by decide)⟩
          go_simp
          (try with_reducible rfl)
        case _ =>
          have a17 : D 17 = false := by
            cases e : D 17
            · rfl
            · rw [hG.o17 e 4 (by omega)] at hD; cases hD
          have hxW := HX.out.grown (hG.gn a17) (by simp)
          have q0 := hxW.cell (j := 0) rfl
          have q1 := hxW.cell (j := 1) rfl
          have q2 := hxW.cell (j := 2) rfl
          have q3 := hxW.cell (j := 3) rfl
          have q4 := hxW.cell (j := 4) rfl
          (repeat (refine givenV_step rfl (fun v h hv => ?_); (try dsimp only at h); first | subst h | (clear h; subst hv)))
          refine givenV_nil ?_
          (try simp only [Act.put, List.setIfInBounds_toArray, List.set_cons_zero, List.set_cons_succ])
          refine free_read rfl (by rfl) (v := _) ?_ ⟨rfl, hG.keep 4 _ (by decide)⟩
          go_simp
          (try with_reducible rfl)
        case _ =>
          obtain ⟨cc, W', hc1, hg1, hr1, hk1⟩ := HCK.out W
          (repeat (refine givenV_step rfl (fun v h hv => ?_); (try dsimp only at h); first | subst h | (clear h; subst hv)))
          refine givenV_nil ?_
          (try simp only [Act.put, List.setIfInBounds_toArray, List.set_cons_zero, List.set_cons_succ])
          refine wpOp_list rfl (fun K hK => ?_)
          go_simp
          exact hK _ _ ⟨_, rfl, True.intro, hG.s5 _ W.heap.size cc rfl hD hg1 hr1 hk1⟩
        case _ =>
          have a17 : D 17 = false := by
            cases e : D 17
            · rfl
            · rw [hG.o17 e 6 (by omega)] at hD; cases hD
          have hxW := HX.out.grown (hG.gn a17) (by simp)
          have q0 := hxW.cell (j := 0) rfl
          have q1 := hxW.cell (j := 1) rfl
          have q2 := hxW.cell (j := 2) rfl
          have q3 := hxW.cell (j := 3) rfl
          have q4 := hxW.cell (j := 4) rfl
          (repeat (refine givenV_step rfl (fun v h hv => ?_); (try dsimp only at h); first | subst h | (clear h; subst hv)))
          refine givenV_nil ?_
          (try simp only [Act.put, List.setIfInBounds_toArray, List.set_cons_zero, List.set_cons_succ])
          refine free_read rfl (by rfl) (v := _) ?_ ⟨rfl, hG.keep 6 _ (by decide)⟩
          go_simp
          (try with_reducible rfl)
        case _ =>
          have a17 : D 17 = false := by
            cases e : D 17
            · rfl
            · rw [hG.o17 e 7 (by omega)] at hD; cases hD
          have hxW := HX.out.grown (hG.gn a17) (by simp)
          have q0 := hxW.cell (j := 0) rfl
          have q1 := hxW.cell (j := 1) rfl
          have q2 := hxW.cell (j := 2) rfl
          have q3 := hxW.cell (j := 3) rfl
          have q4 := hxW.cell (j := 4) rfl
          (repeat (refine givenV_step rfl (fun v h hv => ?_); (try dsimp only at h); first | subst h | (clear h; subst hv)))
          refine givenV_nil ?_
          (try simp only [Act.put, List.setIfInBounds_toArray, List.set_cons_zero, List.set_cons_succ])
          refine free_read rfl (by rfl) (v := _) ?_ ⟨rfl, hG.keep 7 _ (by decide)⟩
          go_simp
          (try with_reducible rfl)
        case _ =>
          obtain ⟨cc, W', hc1, hg1, hr1, hk1⟩ := HCV.out W
          (repeat (refine givenV_step rfl (fun v h hv => ?_); (try dsimp only at h); first | subst h | (clear h; subst hv)))
          refine givenV_nil ?_
          (try simp only [Act.put, List.setIfInBounds_toArray, List.set_cons_zero, List.set_cons_succ])
          refine wpOp_list rfl (fun K hK => ?_)
          go_simp
          exact hK _ _ ⟨_, rfl, True.intro, hG.s8 _ W.heap.size cc rfl hD hg1 hr1 hk1⟩
        case _ =>
          have a17 : D 17 = false := by
            cases e : D 17
            · rfl
            · rw [hG.o17 e 9 (by omega)] at hD; cases hD
          have hxW := HX.out.grown (hG.gn a17) (by simp)
          have q0 := hxW.cell (j := 0) rfl
          have q1 := hxW.cell (j := 1) rfl
          have q2 := hxW.cell (j := 2) rfl
          have q3 := hxW.cell (j := 3) rfl
          have q4 := hxW.cell (j := 4) rfl
          (repeat (refine givenV_step rfl (fun v h hv => ?_); (try dsimp only at h); first | subst h | (clear h; subst hv)))
          refine givenV_nil ?_
          (try simp only [Act.put, List.setIfInBounds_toArray, List.set_cons_zero, List.set_cons_succ])
          refine free_read rfl (by rfl) (v := _) ?_ ⟨rfl, hG.keep 9 _ (by decide)⟩
          go_simp
          (try with_reducible rfl)
        case _ =>
          have a17 : D 17 = false := by
            cases e : D 17
            · rfl
            · rw [hG.o17 e 10 (by omega)] at hD; cases hD
          have hxW := HX.out.grown (hG.gn a17) (by simp)
          have q0 := hxW.cell (j := 0) rfl
          have q1 := hxW.cell (j := 1) rfl
          have q2 := hxW.cell (j := 2) rfl
          have q3 := hxW.cell (j := 3) rfl
          have q4 := hxW.cell (j := 4) rfl
          (repeat (refine givenV_step rfl (fun v h hv => ?_); (try dsimp only at h); first | subst h | (clear h; subst hv)))
          refine givenV_nil ?_
          (try simp only [Act.put, List.setIfInBounds_toArray, List.set_cons_zero, List.set_cons_succ])
          refine free_read rfl (by rfl) (v := _) ?_ ⟨rfl, hG.keep 10 _ (by decide)⟩
          go_simp
          (try with_reducible rfl)
        case _ =>
          (repeat (refine givenV_step rfl (fun v h hv => ?_); (try dsimp only at h); first | subst h | (clear h; subst hv)))
          refine givenV_nil ?_
          (try simp only [Act.put, List.setIfInBounds_toArray, List.set_cons_zero, List.set_cons_succ])
          refine wpOp_list rfl (fun K hK => ?_)
          go_simp
          exact hK _ _ ⟨_, rfl, True.intro, hG.s11 _ rfl hD⟩
        case _ =>
          have a17 : D 17 = false := by
            cases e : D 17
            · rfl
            · rw [hG.o17 e 12 (by omega)] at hD; cases hD
          have hxW := HX.out.grown (hG.gn a17) (by simp)
          have q0 := hxW.cell (j := 0) rfl
          have q1 := hxW.cell (j := 1) rfl
          have q2 := hxW.cell (j := 2) rfl
          have q3 := hxW.cell (j := 3) rfl
          have q4 := hxW.cell (j := 4) rfl
          (repeat (refine givenV_step rfl (fun v h hv => ?_); (try dsimp only at h); first | subst h | (clear h; subst hv)))
          refine givenV_nil ?_
          (try simp only [Act.put, List.setIfInBounds_toArray, List.set_cons_zero, List.set_cons_succ])
          refine free_read rfl (by rfl) (v := _) ?_ ⟨rfl, hG.keep 12 _ (by decide)⟩
          go_simp
          (try with_reducible rfl)
        case _ =>
          have a17 : D 17 = false := by
            cases e : D 17
            · rfl
            · rw [hG.o17 e 13 (by omega)] at hD; cases hD
          have hxW := HX.out.grown (hG.gn a17) (by simp)
          have q0 := hxW.cell (j := 0) rfl
          have q1 := hxW.cell (j := 1) rfl
          have q2 := hxW.cell (j := 2) rfl
          have q3 := hxW.cell (j := 3) rfl
          have q4 := hxW.cell (j := 4) rfl
          (repeat (refine givenV_step rfl (fun v h hv => ?_); (try dsimp only at h); first | subst h | (clear h; subst hv)))
          refine givenV_nil ?_
          (try simp only [Act.put, List.setIfInBounds_toArray, List.set_cons_zero, List.set_cons_succ])
          refine free_read rfl (by rfl) (v := _) ?_ ⟨rfl, hG.keep 13 _ (by decide)⟩
          go_simp
          (try with_reducible rfl)
        case _ =>
          have h11 := hC 11 (by simp)
          have hown := hG.k11 h11 hD
          have a17 := (hG.no hD).2.2.1
          have hrd := HNS.out.grown (hG.gn a17) (by simp)
          have hbs := (hG.gn a17).size
          (repeat (refine givenV_step rfl (fun v h hv => ?_); (try dsimp only at h); first | subst h | (clear h; subst hv)))
          refine givenV_nil ?_
          (try simp only [Act.put, List.setIfInBounds_toArray, List.set_cons_zero, List.set_cons_succ])
          refine wpOp_list rfl (fun K hK => ?_)
          refine step_append_rds (by rfl) _ _ 33 (by rfl) w0.heap.size 3 i1 _ 1 8 Try.underlying33 hi' hz0' hz1' hz2' rfl (by decide) (v := vals 11) (n := 0) (by rfl) hown (by rfl) hrd (by simp [Value.oneCell', intsV]) (by unfold maxLen; omega) (by omega) hbs ?_
          intro v' w' g1 g2 g3
          rw [Nat.zero_add, List.nil_append] at g1
          obtain ⟨a14, c14, rfl⟩ := (Rds.of_owns g1).slice
          exact hK _ _ ⟨_, rfl, True.intro, hG.s14 _ a14 c14 rfl HS0.out hD h11 g2 g1⟩
        case _ =>
          have h5 := hC 5 (by simp)
          have h8 := hC 8 (by simp)
          have h14 := hC 14 (by simp)
          have a17 := (hG.no15 hD).2.1
          obtain ⟨b5, c5, e5, _⟩ := hG.k5 h5 a17
          obtain ⟨b8, c8, e8, _⟩ := hG.k8 h8 a17
          obtain ⟨a14, c14, e14, _⟩ := hG.k14 h14 a17
          have hG' := hG.s15 _ rfl hD h5 h8 h14
          dsimp only at hG' e5 e8 e14
          rw [e5, e8, e14] at hG'
          (repeat (refine givenV_step rfl (fun v h hv => ?_); (try dsimp only at h); first | subst h | (clear h; subst hv)))
          refine givenV_nil ?_
          (try simp only [Act.put, List.setIfInBounds_toArray, List.set_cons_zero, List.set_cons_succ])
          rw [e5, e8, e14]
          refine free_read rfl (by rfl) (v := _) ?_ ⟨True.intro, hG'⟩
          go_simp
          (try with_reducible rfl)
        case _ =>
          have h15 := hC 15 (by simp)
          have h5 := hC 5 (by simp)
          have h8 := hC 8 (by simp)
          have h14 := hC 14 (by simp)
          have a17 : D 17 = false := by
            cases e : D 17
            · rfl
            · rw [hG.o17 e 16 (by omega)] at hD; cases hD
          obtain ⟨b5, c5, e5, _⟩ := hG.k5 h5 a17
          obtain ⟨b8, c8, e8, _⟩ := hG.k8 h8 a17
          obtain ⟨a14, c14, e14, _⟩ := hG.k14 h14 a17
          have e15 := hG.k15 h15
          have hG' := hG.s16 _ rfl hD h15
          dsimp only at hG' e5 e8 e14 e15
          rw [e5, e8, e14] at e15 hG'
          clear e5 e8 e14
          (repeat (refine givenV_step rfl (fun v h hv => ?_); (try dsimp only at h); first | subst h | (clear h; subst hv)))
          refine givenV_nil ?_
          (try simp only [Act.put, List.setIfInBounds_toArray, List.set_cons_zero, List.set_cons_succ])
          rw [e15]
          refine wpOp_list rfl (fun K hK => ?_)
          go_simp
          exact hK _ _ ⟨_, rfl, True.intro, hG'⟩
        case _ =>
          have h16 := hC 16 (by simp)
          have h5 := hC 5 (by simp)
          have h8 := hC 8 (by simp)
          have h14 := hC 14 (by simp)
          obtain ⟨b5, c5, e5, r5, kk5⟩ := hG.k5 h5 hD
          obtain ⟨b8, c8, e8, r8, kk8⟩ := hG.k8 h8 hD
          obtain ⟨a14, c14, e14, o14⟩ := hG.k14 h14 hD
          obtain ⟨b16, e16, hb16⟩ := hG.k16 h16 hD
          dsimp only at e5 e8 e14 r5 kk5 r8 kk8 o14 hb16
          rw [e5, e8, e14] at hb16
          have hgn := hG.gn hD
          have hown := owns_grown HO.out hgn
          have hkA : KindT W 35 (.slice a1 l'.length c1) := KindT.of_owns hown
          have hrd := Rds.of_blk (sz := 5) (n := 1) (c := 1) hb16 rfl (by unfold maxLen; omega)
          have hnew : SAct.mine W ⟨k, key, val, n, ns, some ⟨b5, 0, none⟩, some ⟨b8, 0, none⟩, a14, c5, c8, c14⟩ := ⟨⟨r5, r8, Rds.of_owns o14⟩, kk5, kk8, KindT.of_owns o14⟩
          have hbs := Nat.le_trans HG1.out.size (Nat.le_trans HS1.out hgn.size)
          (repeat (refine givenV_step rfl (fun v h hv => ?_); (try dsimp only at h); first | subst h | (clear h; subst hv)))
          refine givenV_nil ?_
          (try simp only [Act.put, List.setIfInBounds_toArray, List.set_cons_zero, List.set_cons_succ])
          rw [e16]
          refine wpOp_list rfl (fun K hK => ?_)
          refine step_append_rds (by rfl) _ _ 28 (by rfl) w.heap.size 35 i2 _ 5 88 Try.underlying28 hi2 hy0 hy1 hy2 rfl (by decide) (v := .slice a1 l'.length c1) (n := l'.length) (by rfl) hown (by rfl) hrd (by simp [Value.oneCell']) (by unfold maxLen; omega) (by omega) hbs ?_
          intro v' w' g1 g2 g3
          obtain ⟨a17, c17, rfl⟩ := (Rds.of_owns g1).slice
          refine hK _ _ ⟨_, rfl, True.intro, hG.s17 _ a17 c17 ⟨k, key, val, n, ns, some ⟨b5, 0, none⟩, some ⟨b8, 0, none⟩, a14, c5, c8, c14⟩ rfl rfl hD (fun j hj => hC j (by simp; omega)) (grownBy_own2 hG.g hown (Nat.le_refl _) g2) ?_ ?_⟩
          · simpa [sactsV, SAct.cells] using g1
          · intro y hy
            rcases List.mem_append.1 hy with h | h
            · exact ((HM.out y h).grown hgn).step g2 hkA
            · rw [List.mem_singleton.1 h]
              exact hnew.step g2 hkA
        case _ =>
          have h17 := hC 17 (by simp)
          (repeat (refine givenV_step rfl (fun v h hv => ?_); (try dsimp only at h); first | subst h | (clear h; subst hv)))
          refine givenV_nil ?_
          (try simp only [Act.put, List.setIfInBounds_toArray, List.set_cons_zero, List.set_cons_succ])
          refine free_read rfl (by rfl) (v := vals 17) ?_ ⟨True.intro, hG.s18 _ rfl hD h17⟩
          go_simp
          (try with_reducible rfl)
      case xend =>
        intro D vals W hG hD
        obtain ⟨a2, c2, x', e17, hx', ho2, hm2⟩ := hG.k17 (hD 17 (by decide))
        have e18 := hG.k18 (hD 18 (by decide))
        rw [e17] at e18
        have hgW := hG.g
        (repeat (refine givenV_step rfl (fun v h hv => ?_); (try dsimp only at h); first | subst h | (clear h; subst hv)))
        refine givenV_nil ?_
        (try simp only [Act.put, List.setIfInBounds_toArray, List.set_cons_zero, List.set_cons_succ])
        rw [e18]
        have HD2 : Hid ((l' ++ [x']).map SAct.data = (l.take (j + 1)).map SAct.data) := Lib.hid (by rw [HTK.out, List.map_append, List.map_append, HDA.out, List.map_singleton, List.map_singleton, hx']; rfl)
        have HO2 := Lib.hid ho2
        have HM2 := Lib.hid hm2
        have HG2 := Lib.hid hgW
        clear e17 e18 hx' ho2 hm2 hgW hG hD HM HNS HO HGX HX
        go_wp2_with fail
        exact ⟨⟨j + 1, l' ++ [x'], a2, c2, by omega, by go_num, by rw [List.length_append, List.length_singleton], HD2.out, HM2.out, by rw [List.length_append, List.length_singleton]; exact HO2.out, HG2.out⟩, by simp [intOf]; omega⟩
    · obtain rfl : j = l.length := by omega
      rw [List.take_length] at hda
      have HDA := Lib.hid hda
      have HMI := Lib.hid hmi
      have HO := Lib.hid ho
      have HG1 := Lib.hid hgr
      clear hda hmi ho hgr hlj
      go_wp2_with fail
      go_ret
      exact ⟨l', a1, c1, rfl, HDA.out, HMI.out, HO.out, HG1.out⟩

end Go.Proofs.Ytbjpjnkaaiajlaa
