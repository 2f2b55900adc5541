/- The contracts of tally on a tally in memory; awake. -/
import Derived.Test.YtndccejgljknkaaTally3
import Derived.Test.YtndccejgljknkaaTally5
namespace Go.Proofs.Ytndccejgljknkaa
open Go.RowKit

/-- A tally at block b, its counts cs at block a. -/
structure TL (w : World) (b a : Nat) (cs : List Int) : Prop where
  head : Blk w b 43 [.slice (some ⟨a, 0, none⟩) cs.length cs.length]
  row : Blk w a 3 (cs.map (Value.int .i64))
  ne : b ≠ a
  good : ∀ c ∈ cs, 0 ≤ c ∧ c ≤ 1152921504606846976
  pos : 1 ≤ cs.length
  few : cs.length ≤ 64

theorem TL.grown {w w' : World} {b a : Nat} {cs : List Int} (h : TL w b a cs) {row : Option Nat} (hg : w.grownBy w' row) (h1 : some b ≠ row) (h2 : some a ≠ row) : TL w' b a cs :=
  ⟨h.head.grown hg h1, h.row.grown hg h2, h.ne, h.good, h.pos, h.few⟩

theorem capN_good (v x : Int) (hv : 0 ≤ v) (hx : 0 ≤ x) : 0 ≤ capN v x ∧ capN v x ≤ 1152921504606846976 := by unfold capN; split <;> omega

theorem good_set {cs : List Int} {k : Nat} {v : Int} (h : ∀ c ∈ cs, 0 ≤ c ∧ c ≤ 1152921504606846976) (hv : 0 ≤ v ∧ v ≤ 1152921504606846976) : ∀ c ∈ cs.set k v, 0 ≤ c ∧ c ≤ 1152921504606846976 := by
  intro c hc
  rcases List.mem_or_eq_of_mem_set hc with h1 | rfl
  · exact h c h1
  · exact hv
theorem good_at {cs : List Int} (h : ∀ c ∈ cs, 0 ≤ c ∧ c ≤ 1152921504606846976) (k : Nat) : 0 ≤ cs.getD k 0 ∧ cs.getD k 0 ≤ 1152921504606846976 := by
  by_cases hk : k < cs.length
  · exact h _ (by simp [List.getD, hk])
  · simp [List.getD, List.getElem?_eq_none (Nat.le_of_not_lt hk)]

theorem new_tl (n : Nat) (w : World) (h : 1 ≤ n ∧ n ≤ 64) :
    Calls Try.prog 7 #[.int .i64 n] w fun e w' => e = .returned (.pointer (some ⟨w.heap.size + 1, 0, none⟩)) ∧ TL w' (w.heap.size + 1) w.heap.size (List.replicate n 0) ∧ w.grownBy w' none := by
  refine (tnew_yes n w h).mono ?_
  rintro e w' ⟨rfl, rfl⟩
  refine ⟨rfl, ⟨?_, ?_, by omega, ?_, by simp; omega, by simp; omega⟩, grownBy_below (((Below.refl _ _).alloc (Nat.le_refl _) _).alloc (by simp) _)⟩
  · have h1 := Blk.new (w.alloc (.cells (List.replicate n (Value.int .i64 0)).toArray 3)) 43 [.slice (some ⟨w.heap.size, 0, none⟩) n n]
    simpa using h1
  · have h1 := (Blk.new w 3 (List.replicate n (Value.int .i64 0))).alloc (.cells #[.slice (some ⟨w.heap.size, 0, none⟩) n n] 43)
    simpa using h1
  · intro c hc
    simp at hc
    omega

theorem add_tl {w : World} {b a : Nat} {cs : List Int} (h : TL w b a cs) (k : Nat) (x : Int) (hk : k < cs.length) (hx0 : 0 ≤ x) (hx1 : x ≤ 9223372036854775807) :
    Calls Try.prog 9 #[.pointer (some ⟨b, 0, none⟩), .int .i64 k, .int .i64 x] w fun e w' => e = .returned (.int .i64 0) ∧ TL w' b a (cs.set k (capN (cs.getD k 0) x)) ∧ w.grownBy w' (some a) := by
  have hg := good_at h.good k
  refine (tadd_yes b a cs.length cs.length k x (cs.getD k 0) w (by have := h.few; unfold maxLen; omega) (h.head.cell (j := 0) rfl) hk (h.row.cell (getD_map_int cs k hk)) (h.row.frozen k) hg.1 hg.2 hx0 hx1).mono ?_
  rintro e w' ⟨rfl, rfl⟩
  have hb := h.ne
  refine ⟨rfl, ⟨?_, ?_, h.ne, good_set h.good (capN_good _ _ hg.1 hx0), by simp; exact h.pos, by simp; exact h.few⟩, grownBy_trans (grownBy_setCell _ ⟨a, k, none⟩ _) (grownBy_drewN _ 1 _)⟩
  · simp only [List.length_set]
    exact (h.head.setCell_other (p := ⟨a, k, none⟩) hb _).drew
  · rw [List.map_set]
    exact (h.row.setCell k _).drew

theorem add_no {w : World} {b a : Nat} {cs : List Int} (h : TL w b a cs) (k x : Int) (hi : inB k cs.length = false ∨ x < 0) :
    Calls Try.prog 9 #[.pointer (some ⟨b, 0, none⟩), .int .i64 k, .int .i64 x] w fun e w' => e = .returned (.int .i64 1) ∧ w = w' :=
  tadd_no b _ cs.length cs.length k x w (by have := h.few; unfold maxLen; omega) (h.head.cell (j := 0) rfl) hi

theorem get_tl {w : World} {b a : Nat} {cs : List Int} (h : TL w b a cs) (k : Nat) (hk : k < cs.length) :
    Calls Try.prog 8 #[.pointer (some ⟨b, 0, none⟩), .int .i64 k] w fun e w' => e = .returned (.int .i64 (cs.getD k 0)) ∧ w = w' :=
  tget b a cs.length cs.length k _ w (by have := h.few; unfold maxLen; omega) (h.head.cell (j := 0) rfl) hk (h.row.cell (getD_map_int cs k hk))

theorem get_no {w : World} {b a : Nat} {cs : List Int} (h : TL w b a cs) (k : Int) (hi : inB k cs.length = false) :
    Calls Try.prog 8 #[.pointer (some ⟨b, 0, none⟩), .int .i64 k] w fun e w' => e = .returned (.int .i64 0) ∧ w = w' :=
  tget_no b _ cs.length cs.length k w (by have := h.few; unfold maxLen; omega) (h.head.cell (j := 0) rfl) hi

set_option maxHeartbeats 400000 in
theorem awake_any (w : World) : Calls Try.prog 10 #[] w fun e w' => e = .returned (.bool true) ∧ w.grownBy w' none := by
  go_enter Try.func10, Try.ntmps10
  go_wp2_with fail
  refine (new_tl 1 w (by omega)).mono ?_
  rintro e w1 ⟨rfl, h1, g1⟩
  go_wp2_with fail
  refine (add_tl h1 0 2 (by simp) (by omega) (by omega)).mono ?_
  rintro e w2 ⟨rfl, h2, g2⟩
  go_wp2_with fail
  refine (add_tl h2 0 3 (by simp) (by omega) (by omega)).mono ?_
  rintro e w3 ⟨rfl, h3, g3⟩
  go_wp2_with fail
  have e3 : (((List.replicate 1 (0 : Int)).set 0 (capN ((List.replicate 1 (0 : Int)).getD 0 0) 2)).set 0 (capN (((List.replicate 1 (0 : Int)).set 0 (capN ((List.replicate 1 (0 : Int)).getD 0 0) 2)).getD 0 0) 3)) = [5] := by decide
  rw [e3] at h3
  clear e3 h1 h2
  have bn := Blk.new w3 3 [Value.int .i64 4]
  have h4 := h3.grown (World.grownBy_alloc w3 (.cells #[.int .i64 4] 3) none) (by simp) (by simp)
  refine (tsince _ _ _ _ _ [5] [4] (by simp) (by simp) _ h4.head h4.row (Rds.of_blk (sz := 1) (n := 1) bn (by simp) (by unfold maxLen; omega))).mono ?_
  rintro e w5 ⟨v, rfl, o5, b5⟩
  have h5 := h4.grown (grownBy_below b5) (by simp) (by simp)
  have hb5 := b5.size
  obtain ⟨g, cap, rfl⟩ := ownsRow_pos o5 (by simp)
  have hc5 : w5.cell? ⟨g, 0, none⟩ = some (.int .i64 1) := (o5.cellAt 0 (by simp)).trans rfl
  have hg5 : w.grownBy w5 none := by
    have g3' : w.grownBy w3 none := grownBy_base2 (grownBy_base2 g1 g2 (Nat.le_refl _)) g3 (Nat.le_refl _)
    exact grownBy_trans (grownBy_trans g3' (World.grownBy_alloc w3 _ none)) (grownBy_below b5)
  have HG := Lib.hid hg5
  clear o5 b5 hg5 g1 g2 g3 bn h3 h4
  go_wp2_with (go_at_call 8; refine (get_tl h5 0 (by simp)).mono ?_; rintro e w6 ⟨rfl, rfl⟩)
  go_ret
  exact ⟨rfl, HG.out⟩

end Go.Proofs.Ytndccejgljknkaa
