/- The laws of layer 16: the walk of TallyOrders. -/
import Derived.Test.YtndccejgljknkaaTally10
import Derived.Test.YtndccejgljknkaaTallyLaw
import Derived.Laws.Rows
namespace Go.Proofs.Ytndccejgljknkaa
open Go.RowKit Go.WideShapes Go.ChangeShapes Go.ChangeAt

/-- Three tallies and what was told of the first one. -/
structure Three (w0 w : World) (B C : Nat) (D : List (Nat × Int)) (k i : Nat) (v : Value) : Prop where
  a : TL w (w0.heap.size + 1) w0.heap.size (cnt (D.take i))
  b : TL w (B + 1) B (cnt (D.reverse.take i))
  s : TL w (C + 1) C (cnt ((D.take i).drop k))
  was : (i ≤ k ∧ v = .slice none 0 0) ∨ (k < i ∧ w.ownsRow (C + 2) 3 1 v 8 ((cnt (D.take k)).map (Value.int .i64)))
  below : Below w0.heap.size w0 w
  big : C + 2 ≤ w.heap.size
  ab : w0.heap.size + 2 ≤ B
  bc : B + 2 ≤ C

theorem Three.grown {w0 w w' : World} {B C : Nat} {D : List (Nat × Int)} {k i : Nat} {v : Value} (h : Three w0 w B C D k i v) (hg : w.grownBy w' none) : Three w0 w' B C D k i v := by
  refine ⟨h.a.grown hg (by simp) (by simp), h.b.grown hg (by simp) (by simp), h.s.grown hg (by simp) (by simp), ?_, h.below.grown hg h.below.size (by simp), Nat.le_trans h.big hg.size, h.ab, h.bc⟩
  rcases h.was with hw | ⟨h1, h2⟩
  · exact .inl hw
  · exact .inr ⟨h1, owns_grown h2 hg⟩

/-- .. in the middle of a round. -/
structure Mid (w0 w : World) (B C : Nat) (D : List (Nat × Int)) (k i : Nat) (v : Value) : Prop where
  a : TL w (w0.heap.size + 1) w0.heap.size (cnt (D.take i))
  b : TL w (B + 1) B (cnt (D.reverse.take i))
  s : TL w (C + 1) C (cnt ((D.take i).drop k))
  was : (i < k ∧ v = .slice none 0 0) ∨ (k ≤ i ∧ w.ownsRow (C + 2) 3 1 v 8 ((cnt (D.take k)).map (Value.int .i64)))
  below : Below w0.heap.size w0 w
  big : C + 2 ≤ w.heap.size
  ab : w0.heap.size + 2 ≤ B
  bc : B + 2 ≤ C

theorem Mid.of {w0 w : World} {B C : Nat} {D : List (Nat × Int)} {k i : Nat} {v : Value} (h : Three w0 w B C D k i v) (hne : ¬ i = k) : Mid w0 w B C D k i v := by
  refine ⟨h.a, h.b, h.s, ?_, h.below, h.big, h.ab, h.bc⟩
  rcases h.was with ⟨h1, h2⟩ | ⟨h1, h2⟩
  · exact .inl ⟨by omega, h2⟩
  · exact .inr ⟨by omega, h2⟩
theorem Mid.at {w0 w w' : World} {B C : Nat} {D : List (Nat × Int)} {k : Nat} {v v' : Value} (h : Three w0 w B C D k k v) (ho : w'.ownsRow w.heap.size 3 1 v' 8 ((cnt (D.take k)).map (Value.int .i64))) (hg : w.grownBy w' none) : Mid w0 w' B C D k k v' :=
  ⟨h.a.grown hg (by simp) (by simp), h.b.grown hg (by simp) (by simp), h.s.grown hg (by simp) (by simp), .inr ⟨Nat.le_refl _, ownsRow_mono ho h.big⟩, h.below.grown hg h.below.size (by simp), Nat.le_trans h.big hg.size, h.ab, h.bc⟩
theorem Mid.grown {w0 w w' : World} {B C : Nat} {D : List (Nat × Int)} {k i : Nat} {v : Value} (h : Mid w0 w B C D k i v) (hg : w.grownBy w' none) : Mid w0 w' B C D k i v := by
  refine ⟨h.a.grown hg (by simp) (by simp), h.b.grown hg (by simp) (by simp), h.s.grown hg (by simp) (by simp), ?_, h.below.grown hg h.below.size (by simp), Nat.le_trans h.big hg.size, h.ab, h.bc⟩
  rcases h.was with hw | ⟨h1, h2⟩
  · exact .inl hw
  · exact .inr ⟨h1, owns_grown h2 hg⟩

/-- A count more at a tally that adds up. -/
theorem add_cnt {w : World} {b a : Nat} {l : List (Nat × Int)} (h : TL w b a (cnt l)) (p : Nat × Int) (hp : p.1 < 8) (h0 : 0 ≤ p.2) (h1 : p.2 ≤ 1125899906842623) (hl : l.length ≤ 100) (hb : ∀ q ∈ l, 0 ≤ q.2 ∧ q.2 ≤ 1125899906842623) :
    Calls Try.prog 9 #[.pointer (some ⟨b, 0, none⟩), .int .i64 p.1, .int .i64 p.2] w fun e w' => e = .returned (.int .i64 0) ∧ TL w' b a (cnt (l ++ [p])) ∧ w.grownBy w' (some a) := by
  refine (add_tl h p.1 p.2 (by rw [cnt_length]; exact hp) h0 (by omega)).mono ?_
  rintro e w' ⟨he, ht, hg⟩
  have hb2 := total_bound p.1 1125899906842623 (by omega) l hb
  rw [cnt_add l p hp (by omega)] at ht
  exact ⟨he, ht, hg⟩

theorem dec_all (ps : List (Int × Int)) : ∀ q ∈ ps.map dec, 0 ≤ q.2 ∧ q.2 ≤ 1125899906842623 := by
  intro q hq
  simp only [List.mem_map] at hq
  obtain ⟨p, _, rfl⟩ := hq
  exact dec_amount p

/-- The end of a round that counts at the first two alone. -/
theorem Mid.two {w0 w w4 w5 : World} {B C : Nat} {D : List (Nat × Int)} {k i : Nat} {v : Value} {p1 p2 : Nat × Int} (h : Mid w0 w B C D k i v) (hi : i < D.length) (hik : i < k) (e1 : D.getD i (0, 0) = p1) (e2 : D.reverse.getD i (0, 0) = p2)
    (ta : TL w4 (w0.heap.size + 1) w0.heap.size (cnt (D.take i ++ [p1]))) (g4 : w.grownBy w4 (some w0.heap.size)) {o : Obj} (tb : TL w5 (B + 1) B (cnt (D.reverse.take i ++ [p2]))) (g5 : (w4.alloc o).grownBy w5 (some B)) : Three w0 w5 B C D k (i + 1) v := by
  have hab := h.ab
  have hbc := h.bc
  have hbig := h.big
  have s4 := g4.size
  have ga : w4.grownBy (w4.alloc o) none := World.grownBy_alloc _ _ _
  have hi2 : i < D.reverse.length := by simpa using hi
  refine ⟨?_, ?_, ?_, .inl ⟨by omega, ?_⟩, ?_, ?_, hab, hbc⟩
  · rw [take_step D i (0, 0) hi, e1]
    exact (ta.grown ga (by simp) (by simp)).grown g5 (by simp; omega) (by simp; omega)
  · rw [take_step D.reverse i (0, 0) hi2, e2]
    exact tb
  · rw [drop_none D k (i + 1) (by omega)]
    have := h.s
    rw [drop_none D k i (by omega)] at this
    exact ((this.grown g4 (by simp; omega) (by simp; omega)).grown ga (by simp) (by simp)).grown g5 (by simp; omega) (by simp; omega)
  · rcases h.was with ⟨_, h2⟩ | ⟨h1, _⟩
    · exact h2
    · omega
  · exact (((h.below.grown g4 h.below.size (by simp)).grown ga (by have := h.below.size; omega) (by simp))).grown g5 (by have := h.below.size; simp; omega) (by simp; omega)
  · exact Nat.le_trans hbig (Nat.le_trans s4 (Nat.le_trans (by simp) g5.size))

/-- .. at all three. -/
theorem Mid.three {w0 w w4 w5 w6 : World} {B C : Nat} {D : List (Nat × Int)} {k i : Nat} {v : Value} {p1 p2 : Nat × Int} (h : Mid w0 w B C D k i v) (hi : i < D.length) (hik : k ≤ i) (e1 : D.getD i (0, 0) = p1) (e2 : D.reverse.getD i (0, 0) = p2)
    (ta : TL w4 (w0.heap.size + 1) w0.heap.size (cnt (D.take i ++ [p1]))) (g4 : w.grownBy w4 (some w0.heap.size)) (ts : TL w6 (C + 1) C (cnt ((D.take i).drop k ++ [p1]))) (g6 : w4.grownBy w6 (some C)) {o : Obj} (tb : TL w5 (B + 1) B (cnt (D.reverse.take i ++ [p2]))) (g5 : (w6.alloc o).grownBy w5 (some B)) : Three w0 w5 B C D k (i + 1) v := by
  have hab := h.ab
  have hbc := h.bc
  have hbig := h.big
  have s4 := g4.size
  have s6 := g6.size
  have ga : w6.grownBy (w6.alloc o) none := World.grownBy_alloc _ _ _
  have hi2 : i < D.reverse.length := by simpa using hi
  refine ⟨?_, ?_, ?_, .inr ⟨by omega, ?_⟩, ?_, ?_, hab, hbc⟩
  · rw [take_step D i (0, 0) hi, e1]
    exact ((ta.grown g6 (by simp; omega) (by simp; omega)).grown ga (by simp) (by simp)).grown g5 (by simp; omega) (by simp; omega)
  · rw [take_step D.reverse i (0, 0) hi2, e2]
    exact tb
  · rw [drop_step D k i (0, 0) hi hik, e1]
    exact (ts.grown ga (by simp) (by simp)).grown g5 (by simp; omega) (by simp; omega)
  · rcases h.was with ⟨h1, _⟩ | ⟨_, h2⟩
    · omega
    · exact owns_keep (owns_grown (owns_keep (owns_keep h2 g4 (by omega)) g6 (by omega)) ga) g5 (by omega)
  · exact ((((h.below.grown g4 h.below.size (by simp)).grown g6 (by have := h.below.size; omega) (by simp; omega)).grown ga (by have := h.below.size; omega) (by simp))).grown g5 (by have := h.below.size; simp; omega) (by simp; omega)
  · exact Nat.le_trans hbig (Nat.le_trans s4 (Nat.le_trans s6 (Nat.le_trans (by simp) g5.size)))

theorem pairs_ne (ps : List (Int × Int)) (i : Nat) (h : i < ps.length) : (ps.flatMap fun x => [Value.int .i64 x.1, Value.int .i64 x.2]) ≠ [] := by
  cases ps with
  | nil => simp at h
  | cons p l => simp
theorem getD_mem {α : Type} (ps : List α) (i : Nat) (d : α) (h : i < ps.length) : ps.getD i d ∈ ps := by simp [List.getD, h]

theorem u64_of (x : Int) : IntKind.u64.wrap x = x % 18446744073709551616 := IntKind.wrap_u64 x

theorem dec_kind_walk (p : Int × Int) : wrap64 ((IntKind.u64.wrap p.1).tmod 8) = ((dec p).1 : Int) := by
  rw [u64_of, IntWalk.rem_in _ _ (by omega), IntWalk.wrap64_in _ (by omega)]
  unfold dec
  simp only []
  omega
theorem dec_amt_walk (p : Int × Int) : wrap64 ((IntKind.u64.wrap p.2).tmod 1125899906842624) = (dec p).2 := by
  rw [u64_of, IntWalk.rem_in _ _ (by omega), IntWalk.wrap64_in _ (by omega)]
  rfl

end Go.Proofs.Ytndccejgljknkaa
