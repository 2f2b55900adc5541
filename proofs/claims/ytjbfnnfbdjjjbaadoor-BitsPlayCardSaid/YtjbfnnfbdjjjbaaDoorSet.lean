/- package bits: a set in memory; in, Has. -/
import Derived.Test.YtjbfnnfbdjjjbaaDoorTz
import Derived.Test.YtjbfnnfbdjjjbaaDoorTouch
import Derived.Test.YtjbfnnfbdjjjbaaDoorPlan2
namespace Go.Proofs.YtjbfnnfbdjjjbaaDoor
open Go.RowKit

def wordsV (ws : List (BitVec 64)) : List Value := ws.map fun x => .int .u64 (U x)
theorem wordsV_len (ws : List (BitVec 64)) : (wordsV ws).length = ws.length := by simp [wordsV]
def wd (ws : List (BitVec 64)) (q : Nat) : BitVec 64 := ws.getD q 0
/-- Is a number taken? -/
def tk (ws : List (BitVec 64)) (i : Nat) : Bool := (wd ws (i / 64)).getLsbD (i % 64)
theorem wordsV_get (ws : List (BitVec 64)) (q : Nat) (h : q < ws.length) : (wordsV ws)[q]? = some (.int .u64 (U (wd ws q))) := by simp [wordsV, wd, h, List.getD]

/-- A set in memory. -/
structure ST (w : World) (B g c : Nat) (n hand : Nat) (ws : List (BitVec 64)) : Prop where
  blk : Blk w B 52 [.int .i64 n, .int .i64 hand, .slice (some ⟨g, 0, none⟩) ws.length c]
  row : ∃ rest, Blk w g 54 (wordsV ws ++ rest)
  ne : B ≠ g
  tab : Tab w
  b0 : B ≠ 0
  g0 : g ≠ 0
  len : ws.length = (n + 63) / 64
  n1 : 1 ≤ n
  n2 : n ≤ 65536
  hd : hand < n
  top : ∀ i, n ≤ i → tk ws i = false
  tlt : 0 < w.heap.size
def SOwn (B g : Nat) (k : Nat) : Prop := k = B ∨ k = g
theorem ST.touch {S : Nat → Prop} {w w' : World} {B g c n hand : Nat} {ws : List (BitVec 64)} (h : ST w B g c n hand ws) (ht : Touch S w w') (hB : ¬ S B) (hg : ¬ S g) (h0 : ¬ S 0) : ST w' B g c n hand ws := by
  obtain ⟨rest, hr⟩ := h.row
  exact ⟨ht.blk h.blk hB, ⟨rest, ht.blk hr hg⟩, h.ne, h.tab.same (ht.block _ h.tlt h0), h.b0, h.g0, h.len, h.n1, h.n2, h.hd, h.top, Nat.lt_of_lt_of_le h.tlt ht.size⟩
theorem ST.grown {w w' : World} {B g c n hand : Nat} {ws : List (BitVec 64)} (h : ST w B g c n hand ws) (hg : w.grownBy w' none) : ST w' B g c n hand ws :=
  h.touch (S := fun _ => False) (Touch.of_none hg) (fun h => h) (fun h => h) (fun h => h)
theorem ST.word {w : World} {B g c n hand : Nat} {ws : List (BitVec 64)} (h : ST w B g c n hand ws) (q : Nat) (hq : q < ws.length) : w.cell? ⟨g, q, none⟩ = some (.int .u64 (U (wd ws q))) := by
  obtain ⟨rest, hr⟩ := h.row
  refine hr.cell ?_
  rw [List.getElem?_append_left (by rw [wordsV_len]; exact hq)]
  exact wordsV_get ws q hq

def inB (n : Nat) (i : Int) : Bool := decide (0 ≤ i ∧ i < (n : Int))
theorem in_nil (i : Int) (w : World) :
    Calls Tryd.prog 26 #[.pointer none, .int .i64 i] w fun e w' => e = .returned (.bool false) ∧ w = w' := by
  go_enter Tryd.func26, Tryd.ntmps26
  go_wp2
  go_ret
  exact ⟨rfl, rfl⟩
theorem in_any (B g c n hand : Nat) (ws : List (BitVec 64)) (i : Int) (w : World) (h : ST w B g c n hand ws) :
    Calls Tryd.prog 26 #[.pointer (some ⟨B, 0, none⟩), .int .i64 i] w fun e w' => e = .returned (.bool (inB n i)) ∧ w = w' := by
  have k0 := h.blk.cell (j := 0) rfl
  clear h
  rcases (show i < 0 ∨ (0 ≤ i ∧ i < n) ∨ (0 ≤ i ∧ (n : Int) ≤ i) by omega) with h1 | ⟨h1, h2⟩ | ⟨h1, h2⟩
  · have hd : decide (0 ≤ i) = false := decide_eq_false (by omega)
    have e : inB n i = false := decide_eq_false (by omega)
    rw [e]
    clear e
    go_enter Tryd.func26, Tryd.ntmps26
    go_wp2
    go_ret
    exact ⟨rfl, rfl⟩
  · have hd : decide (0 ≤ i) = true := decide_eq_true (by omega)
    have hd2 : decide (i < (n : Int)) = true := decide_eq_true (by omega)
    have e : inB n i = true := decide_eq_true (by omega)
    rw [e]
    clear e
    go_enter Tryd.func26, Tryd.ntmps26
    go_wp2
    go_ret
    exact ⟨rfl, rfl⟩
  · have hd : decide (0 ≤ i) = true := decide_eq_true (by omega)
    have hd2 : decide (i < (n : Int)) = false := decide_eq_false (by omega)
    have e : inB n i = false := decide_eq_false (by omega)
    rw [e]
    clear e
    go_enter Tryd.func26, Tryd.ntmps26
    go_wp2
    go_ret
    exact ⟨rfl, rfl⟩

theorem has_nil (i : Int) (w : World) :
    Calls Tryd.prog 14 #[.pointer none, .int .i64 i] w fun e w' => e = .returned (.bool false) ∧ w = w' := by
  go_enter Tryd.func14, Tryd.ntmps14
  go_wp2_with fail
  refine (in_nil i w).mono ?_
  rintro e w' ⟨rfl, rfl⟩
  go_wp2
  go_ret
  exact ⟨rfl, rfl⟩

theorem tk_test (x : BitVec 64) (s : Nat) (hs : s < 64) : (bits BinOp.and IntKind.u64 (U x / 2 ^ s) 1 == 1) = x.getLsbD s := by
  rw [U_shr]
  exact U_lsb x s
def hasB (n : Nat) (ws : List (BitVec 64)) (i : Int) : Bool := inB n i && tk ws i.toNat
theorem has_any (B g c n hand : Nat) (ws : List (BitVec 64)) (i : Int) (w : World) (h : ST w B g c n hand ws) :
    Calls Tryd.prog 14 #[.pointer (some ⟨B, 0, none⟩), .int .i64 i] w fun e w' => e = .returned (.bool (hasB n ws i)) ∧ w = w' := by
  have HIN := Lib.hid (in_any B g c n hand ws i w h)
  cases hb : inB n i
  · have e : hasB n ws i = false := by unfold hasB; rw [hb]; rfl
    rw [e]
    rw [hb] at HIN
    clear e hb h
    go_enter Tryd.func14, Tryd.ntmps14
    go_wp2_with fail
    refine HIN.out.mono ?_
    rintro e w' ⟨rfl, rfl⟩
    go_wp2
    go_ret
    exact ⟨rfl, rfl⟩
  · obtain ⟨h0, h1⟩ := of_decide_eq_true hb
    obtain ⟨k, rfl⟩ := Int.eq_ofNat_of_zero_le h0
    have e : hasB n ws k = tk ws k := by unfold hasB; rw [hb]; rfl
    rw [e]
    rw [hb] at HIN
    have hl := h.len
    have k2 := h.blk.cell (j := 2) rfl
    have kw := h.word (k / 64) (by omega)
    have hq1 : k / 64 < ws.length := by omega
    have ht := tk_test (wd ws (k / 64)) (k % 64) (by omega)
    have htk : tk ws k = (wd ws (k / 64)).getLsbD (k % 64) := rfl
    rw [← htk] at ht
    have eq : (k : Int).tdiv 64 = ((k / 64 : Nat) : Int) := by rw [Int.tdiv_eq_ediv_of_nonneg (by omega)]; omega
    have ew : wrap64 ((k / 64 : Nat) : Int) = ((k / 64 : Nat) : Int) := by have := h.n2; unfold wrap64; omega
    have er : (k : Int).tmod 64 = ((k % 64 : Nat) : Int) := by rw [Int.tmod_eq_emod_of_nonneg (by omega)]; omega
    clear e hb h h0 h1 hl htk
    generalize tk ws k = t at *
    have hs : k % 64 < 64 := by omega
    generalize wd ws (k / 64) = x at *
    generalize k / 64 = q at *
    generalize k % 64 = s at *
    go_enter Tryd.func14, Tryd.ntmps14
    go_wp2_with fail
    refine HIN.out.mono ?_
    rintro e w' ⟨rfl, rfl⟩
    go_wp2
    go_ret
    exact ⟨rfl, rfl⟩

theorem mark_no (B g c n hand : Nat) (ws : List (BitVec 64)) (i : Int) (w : World) (h : ST w B g c n hand ws) (hm : (inB n i && !tk ws i.toNat) = false) :
    Calls Tryd.prog 12 #[.pointer (some ⟨B, 0, none⟩), .int .i64 i] w fun e w' => e = .returned (.bool false) ∧ w = w' := by
  have HIN := Lib.hid (in_any B g c n hand ws i w h)
  have HAS := Lib.hid (has_any B g c n hand ws i w h)
  unfold hasB at HAS
  clear h
  cases hb : inB n i
  · rw [hb] at HIN HAS
    clear hb hm
    go_enter Tryd.func12, Tryd.ntmps12
    go_wp2_with fail
    refine HIN.out.mono ?_
    rintro e w' ⟨rfl, rfl⟩
    go_wp2
    go_ret
    exact ⟨rfl, rfl⟩
  · rw [hb] at HIN HAS hm
    have ht : tk ws i.toNat = true := by simpa using hm
    rw [ht] at HAS
    clear hb hm ht
    go_enter Tryd.func12, Tryd.ntmps12
    go_wp2_with fail
    refine HIN.out.mono ?_
    rintro e w' ⟨rfl, rfl⟩
    go_wp2_with fail
    refine HAS.out.mono ?_
    rintro e w' ⟨rfl, rfl⟩
    go_wp2
    go_ret
    exact ⟨rfl, rfl⟩
theorem or_bit (x : BitVec 64) (s : Nat) (hs : s < 64) : bits BinOp.or IntKind.u64 (U x) (IntKind.u64.wrap (2 ^ s)) = U (x ||| (1#64 <<< s)) := by
  rw [← Int.one_mul ((2 : Int) ^ s), U_one_shl s hs, U_or]
theorem andNot_bit (x : BitVec 64) (s : Nat) (hs : s < 64) : bits BinOp.andNot IntKind.u64 (U x) (IntKind.u64.wrap (2 ^ s)) = U (x &&& ~~~(1#64 <<< s)) := by
  rw [← Int.one_mul ((2 : Int) ^ s), U_one_shl s hs, U_andNot]
theorem mark_yes (B g c n hand : Nat) (ws : List (BitVec 64)) (k : Nat) (w : World) (h : ST w B g c n hand ws) (hk : k < n) (ht : tk ws k = false) :
    Calls Tryd.prog 12 #[.pointer (some ⟨B, 0, none⟩), .int .i64 k] w fun e w' => e = .returned (.bool true) ∧ (w.setCell ⟨g, k / 64, none⟩ (.int .u64 (U (wd ws (k / 64) ||| (1#64 <<< (k % 64)))))).drew = w' := by
  have HIN := Lib.hid (in_any B g c n hand ws k w h)
  have HAS := Lib.hid (has_any B g c n hand ws k w h)
  have hb : inB n k = true := decide_eq_true (by omega)
  unfold hasB at HAS
  rw [hb, Int.toNat_natCast, ht] at HAS
  rw [hb] at HIN
  have hl := h.len
  have k2 := h.blk.cell (j := 2) rfl
  have kw := h.word (k / 64) (by omega)
  have hq1 : k / 64 < ws.length := by omega
  have hor := or_bit (wd ws (k / 64)) (k % 64) (by omega)
  have eq : (k : Int).tdiv 64 = ((k / 64 : Nat) : Int) := by rw [Int.tdiv_eq_ediv_of_nonneg (by omega)]; omega
  have ew : wrap64 ((k / 64 : Nat) : Int) = ((k / 64 : Nat) : Int) := by have := h.n2; unfold wrap64; omega
  have ew2 : IntKind.i64.wrap ((k / 64 : Nat) : Int) = ((k / 64 : Nat) : Int) := by have := h.n2; rw [IntKind.wrap_i64]; omega
  have hqi : 0 ≤ ((k / 64 : Nat) : Int) ∧ ((k / 64 : Nat) : Int) < (ws.length : Int) := by omega
  have er : (k : Int).tmod 64 = ((k % 64 : Nat) : Int) := by rw [Int.tmod_eq_emod_of_nonneg (by omega)]; omega
  obtain ⟨rest, hr⟩ := h.row
  have fw := hr.frozen (k / 64)
  clear hb h hl ht hk hr
  have hs : k % 64 < 64 := by omega
  generalize (wd ws (k / 64) ||| (1#64 <<< (k % 64))) = y at *
  generalize wd ws (k / 64) = x at *
  generalize k / 64 = q at *
  generalize k % 64 = s at *
  go_enter Tryd.func12, Tryd.ntmps12
  go_wp2_with fail
  refine HIN.out.mono ?_
  rintro e w' ⟨rfl, rfl⟩
  go_wp2_with fail
  refine HAS.out.mono ?_
  rintro e w' ⟨rfl, rfl⟩
  go_wp2_with fail
  refine wp_region_planD (fun w' => w.grownBy w' none) [([0, 1, 2, 3, 4, 5, 6, 7, 8, 9, 10, 11, 12], 13, false)] (by kernel_rfl) (by kernel_rfl) ?_
  refine wpPlanD_seg (grownBy_drewN w 1 none) ?_
  repeat (apply wpReadD_step rfl (by rfl); (· intro wS hSw; (try have hSw := hSw rfl); (try dsimp only at hSw); (try have k2 := hSw.cell k2 (by simp)); (try have kw := hSw.cell kw (by simp)); go_simp; (try with_reducible rfl)); try simp only [Act.put, List.setIfInBounds_toArray, List.set_cons_zero, List.set_cons_succ])
  refine wpReadD_nil ?_
  refine wpOp_list rfl (fun K hK => ?_)
  go_simp
  refine hK _ _ ?_
  first | refine ⟨fun hf => (by cases hf), ?_⟩ | skip
  clear hK K
  try simp only [Act.put, List.setIfInBounds_toArray, List.set_cons_zero, List.set_cons_succ]
  refine wpPlanD_nil (NoPanic.normal ?_)
  go_wp2
  go_ret
  exact ⟨rfl, rfl⟩

theorem clear_yes (B g c n hand : Nat) (ws : List (BitVec 64)) (k : Nat) (w : World) (h : ST w B g c n hand ws) (hk : k < n) (ht : tk ws k = true) :
    Calls Tryd.prog 9 #[.pointer (some ⟨B, 0, none⟩), .int .i64 k] w fun e w' => e = .returned (.bool true) ∧ (w.setCell ⟨g, k / 64, none⟩ (.int .u64 (U (wd ws (k / 64) &&& ~~~(1#64 <<< (k % 64)))))).drew = w' := by
  have HAS := Lib.hid (has_any B g c n hand ws k w h)
  have hb : inB n k = true := decide_eq_true (by omega)
  unfold hasB at HAS
  rw [hb, Int.toNat_natCast, ht] at HAS
  have hl := h.len
  have k2 := h.blk.cell (j := 2) rfl
  have kw := h.word (k / 64) (by omega)
  have hq1 : k / 64 < ws.length := by omega
  have hor := andNot_bit (wd ws (k / 64)) (k % 64) (by omega)
  have eq : (k : Int).tdiv 64 = ((k / 64 : Nat) : Int) := by rw [Int.tdiv_eq_ediv_of_nonneg (by omega)]; omega
  have ew : wrap64 ((k / 64 : Nat) : Int) = ((k / 64 : Nat) : Int) := by have := h.n2; unfold wrap64; omega
  have ew2 : IntKind.i64.wrap ((k / 64 : Nat) : Int) = ((k / 64 : Nat) : Int) := by have := h.n2; rw [IntKind.wrap_i64]; omega
  have hqi : 0 ≤ ((k / 64 : Nat) : Int) ∧ ((k / 64 : Nat) : Int) < (ws.length : Int) := by omega
  have er : (k : Int).tmod 64 = ((k % 64 : Nat) : Int) := by rw [Int.tmod_eq_emod_of_nonneg (by omega)]; omega
  obtain ⟨rest, hr⟩ := h.row
  have fw := hr.frozen (k / 64)
  clear hb h hl ht hk hr
  have hs : k % 64 < 64 := by omega
  generalize (wd ws (k / 64) &&& ~~~(1#64 <<< (k % 64))) = y at *
  generalize wd ws (k / 64) = x at *
  generalize k / 64 = q at *
  generalize k % 64 = s at *
  go_enter Tryd.func9, Tryd.ntmps9
  go_wp2_with fail
  refine HAS.out.mono ?_
  rintro e w' ⟨rfl, rfl⟩
  go_wp2_with fail
  refine wp_region_planD (fun w' => w.grownBy w' none) [([0, 1, 2, 3, 4, 5, 6, 7, 8, 9, 10, 11, 12], 13, false)] (by kernel_rfl) (by kernel_rfl) ?_
  refine wpPlanD_seg (grownBy_drewN w 1 none) ?_
  repeat (apply wpReadD_step rfl (by rfl); (· intro wS hSw; (try have hSw := hSw rfl); (try dsimp only at hSw); (try have k2 := hSw.cell k2 (by simp)); (try have kw := hSw.cell kw (by simp)); go_simp; (try with_reducible rfl)); try simp only [Act.put, List.setIfInBounds_toArray, List.set_cons_zero, List.set_cons_succ])
  refine wpReadD_nil ?_
  refine wpOp_list rfl (fun K hK => ?_)
  go_simp
  refine hK _ _ ?_
  first | refine ⟨fun hf => (by cases hf), ?_⟩ | skip
  clear hK K
  try simp only [Act.put, List.setIfInBounds_toArray, List.set_cons_zero, List.set_cons_succ]
  refine wpPlanD_nil (NoPanic.normal ?_)
  go_wp2
  go_ret
  exact ⟨rfl, rfl⟩
theorem clear_no (B g c n hand : Nat) (ws : List (BitVec 64)) (i : Int) (w : World) (h : ST w B g c n hand ws) (hm : hasB n ws i = false) :
    Calls Tryd.prog 9 #[.pointer (some ⟨B, 0, none⟩), .int .i64 i] w fun e w' => e = .returned (.bool false) ∧ w = w' := by
  have HAS := Lib.hid (has_any B g c n hand ws i w h)
  rw [hm] at HAS
  clear h hm
  go_enter Tryd.func9, Tryd.ntmps9
  go_wp2_with fail
  refine HAS.out.mono ?_
  rintro e w' ⟨rfl, rfl⟩
  go_wp2
  go_ret
  exact ⟨rfl, rfl⟩
theorem clear_nil (i : Int) (w : World) :
    Calls Tryd.prog 9 #[.pointer none, .int .i64 i] w fun e w' => e = .returned (.bool false) ∧ w = w' := by
  go_enter Tryd.func9, Tryd.ntmps9
  go_wp2_with fail
  refine (has_nil i w).mono ?_
  rintro e w' ⟨rfl, rfl⟩
  go_wp2
  go_ret
  exact ⟨rfl, rfl⟩
theorem mark_nil (i : Int) (w : World) :
    Calls Tryd.prog 12 #[.pointer none, .int .i64 i] w fun e w' => e = .returned (.bool false) ∧ w = w' := by
  go_enter Tryd.func12, Tryd.ntmps12
  go_wp2_with fail
  refine (in_nil i w).mono ?_
  rintro e w' ⟨rfl, rfl⟩
  go_wp2
  go_ret
  exact ⟨rfl, rfl⟩

/- The words behind a write. -/
theorem wd_set (ws : List (BitVec 64)) (q : Nat) (y : BitVec 64) (hq : q < ws.length) (r : Nat) : wd (ws.set q y) r = if r = q then y else wd ws r := by
  unfold wd
  simp only [List.getD_eq_getElem?_getD, List.getElem?_set]
  by_cases h : q = r
  · subst h
    simp [hq]
  · rw [if_neg h, if_neg (fun h' => h h'.symm)]
theorem one_bit (b s : Nat) (hb : b < 64) : (1#64 <<< s).getLsbD b = (b == s) := by
  rw [BitVec.getLsbD_shiftLeft, BitVec.getLsbD_one, Bool.eq_iff_iff]
  simp
  omega
theorem tk_set_or (ws : List (BitVec 64)) (k : Nat) (hq : k / 64 < ws.length) (j : Nat) : tk (ws.set (k / 64) (wd ws (k / 64) ||| (1#64 <<< (k % 64)))) j = (tk ws j || j == k) := by
  unfold tk
  rw [wd_set ws _ _ hq]
  by_cases h : j / 64 = k / 64
  · have e : (j % 64 == k % 64) = (j == k) := by
      rw [Bool.eq_iff_iff, beq_iff_eq, beq_iff_eq]
      omega
    rw [if_pos h, BitVec.getLsbD_or, h, one_bit _ _ (Nat.mod_lt _ (by omega)), e]
  · rw [if_neg h]
    have : (j == k) = false := by
      rw [beq_eq_false_iff_ne]
      intro e
      exact h (by rw [e])
    rw [this, Bool.or_false]
theorem tk_set_not (ws : List (BitVec 64)) (k : Nat) (hq : k / 64 < ws.length) (j : Nat) : tk (ws.set (k / 64) (wd ws (k / 64) &&& ~~~(1#64 <<< (k % 64)))) j = (tk ws j && !(j == k)) := by
  unfold tk
  rw [wd_set ws _ _ hq]
  by_cases h : j / 64 = k / 64
  · have e : (j % 64 == k % 64) = (j == k) := by
      rw [Bool.eq_iff_iff, beq_iff_eq, beq_iff_eq]
      omega
    have hj : j % 64 < 64 := Nat.mod_lt _ (by omega)
    rw [if_pos h, BitVec.getLsbD_and, h, BitVec.getLsbD_not, one_bit _ _ hj, e, decide_eq_true hj, Bool.true_and]
  · rw [if_neg h]
    have : (j == k) = false := by
      rw [beq_eq_false_iff_ne]
      intro e
      exact h (by rw [e])
    rw [this, Bool.not_false, Bool.and_true]
theorem wordsV_set (ws : List (BitVec 64)) (q : Nat) (y : BitVec 64) : wordsV (ws.set q y) = (wordsV ws).set q (.int .u64 (U y)) := by simp [wordsV, List.map_set]
theorem ST.setWord {w : World} {B g c n hand : Nat} {ws : List (BitVec 64)} (h : ST w B g c n hand ws) (q : Nat) (y : BitVec 64) (hq : q < ws.length) (ht : ∀ i, n ≤ i → tk (ws.set q y) i = false) :
    ST (w.setCell ⟨g, q, none⟩ (.int .u64 (U y))).drew B g c n hand (ws.set q y) := by
  obtain ⟨rest, hr⟩ := h.row
  have hb : Blk (w.setCell ⟨g, q, none⟩ (.int .u64 (U y))) B 52 [.int .i64 n, .int .i64 hand, .slice (some ⟨g, 0, none⟩) (ws.set q y).length c] := by
    rw [List.length_set]
    exact h.blk.setCell_other h.ne _
  refine ⟨hb.drew, ⟨rest, ?_⟩, h.ne, h.tab.same ((grownBy_setCell w ⟨g, q, none⟩ (.int .u64 (U y))).block _ h.tlt (by simp; exact h.g0.symm)), h.b0, h.g0, by rw [List.length_set]; exact h.len, h.n1, h.n2, h.hd, ht, Nat.lt_of_lt_of_le h.tlt (grownBy_setCell w ⟨g, q, none⟩ (.int .u64 (U y))).size⟩
  rw [wordsV_set, ← List.set_append_left _ _ (by rw [wordsV_len]; exact hq)]
  exact (hr.setCell q _).drew
theorem touch_setCell (w : World) (B g q : Nat) (v : Value) : Touch (SOwn B g) w (w.setCell ⟨g, q, none⟩ v).drew :=
  Touch.of (row := some g) (grownBy_trans (grownBy_setCell w ⟨g, q, none⟩ v) (grownBy_drewN _ 1 _)) (fun k h => .inr (by cases h; rfl))

/-- A set in memory, by which numbers are taken. -/
def SF (w : World) (B g : Nat) (n hand : Nat) (f : Nat → Bool) : Prop := ∃ c ws, ST w B g c n hand ws ∧ ∀ j, tk ws j = f j
theorem SF.touch {S : Nat → Prop} {w w' : World} {B g n hand : Nat} {f : Nat → Bool} (h : SF w B g n hand f) (ht : Touch S w w') (hB : ¬ S B) (hg : ¬ S g) (h0 : ¬ S 0) : SF w' B g n hand f := by
  obtain ⟨c, ws, hs, hf⟩ := h
  exact ⟨c, ws, hs.touch ht hB hg h0, hf⟩
theorem SF.grown {w w' : World} {B g n hand : Nat} {f : Nat → Bool} (h : SF w B g n hand f) (hg : w.grownBy w' none) : SF w' B g n hand f := by
  obtain ⟨c, ws, hs, hf⟩ := h
  exact ⟨c, ws, hs.grown hg, hf⟩
def hasF (n : Nat) (f : Nat → Bool) (i : Int) : Bool := inB n i && f i.toNat
theorem hasF_any (B g n hand : Nat) (f : Nat → Bool) (i : Int) (w : World) (h : SF w B g n hand f) :
    Calls Tryd.prog 14 #[.pointer (some ⟨B, 0, none⟩), .int .i64 i] w fun e w' => e = .returned (.bool (hasF n f i)) ∧ w = w' := by
  obtain ⟨c, ws, hs, hf⟩ := h
  have := has_any B g c n hand ws i w hs
  unfold hasB at this
  rw [hf] at this
  exact this
def markF (n : Nat) (f : Nat → Bool) (i : Int) : Nat → Bool := fun j => f j || (inB n i && j == i.toNat)
def clearF (n : Nat) (f : Nat → Bool) (i : Int) : Nat → Bool := fun j => f j && !(inB n i && j == i.toNat)
theorem mark_any (B g n hand : Nat) (f : Nat → Bool) (i : Int) (w : World) (h : SF w B g n hand f) :
    Calls Tryd.prog 12 #[.pointer (some ⟨B, 0, none⟩), .int .i64 i] w fun e w' => e = .returned (.bool (inB n i && !f i.toNat)) ∧ SF w' B g n hand (markF n f i) ∧ Touch (SOwn B g) w w' := by
  obtain ⟨c, ws, hs, hf⟩ := h
  cases hm : inB n i && !tk ws i.toNat
  · refine (mark_no B g c n hand ws i w hs hm).mono ?_
    rintro e w' ⟨rfl, rfl⟩
    rw [hf] at hm
    refine ⟨by rw [hm], ⟨c, ws, hs, fun j => ?_⟩, Touch.refl _ _⟩
    rw [hf]
    unfold markF
    cases hb : inB n i
    · simp
    · rw [hb] at hm
      by_cases hj : j = i.toNat
      · subst hj
        simp at hm
        simp [hm]
      · simp [hj]
  · rw [Bool.and_eq_true, Bool.not_eq_true'] at hm
    obtain ⟨hb, ht⟩ := hm
    obtain ⟨h0, h1⟩ := of_decide_eq_true hb
    obtain ⟨k, rfl⟩ := Int.eq_ofNat_of_zero_le h0
    rw [Int.toNat_natCast] at ht
    have hl := hs.len
    have hq : k / 64 < ws.length := by omega
    refine (mark_yes B g c n hand ws k w hs (by omega) ht).mono ?_
    rintro e w' ⟨rfl, rfl⟩
    rw [Int.toNat_natCast, ← hf, ht, hb]
    refine ⟨rfl, ⟨c, _, hs.setWord _ _ hq (fun i hi => ?_), fun j => ?_⟩, touch_setCell _ _ _ _ _⟩
    · rw [tk_set_or ws k hq, hs.top i hi]
      simp
      omega
    · rw [tk_set_or ws k hq, hf]
      unfold markF
      rw [hb, Int.toNat_natCast]
      simp
theorem clear_any (B g n hand : Nat) (f : Nat → Bool) (i : Int) (w : World) (h : SF w B g n hand f) :
    Calls Tryd.prog 9 #[.pointer (some ⟨B, 0, none⟩), .int .i64 i] w fun e w' => e = .returned (.bool (hasF n f i)) ∧ SF w' B g n hand (clearF n f i) ∧ Touch (SOwn B g) w w' := by
  obtain ⟨c, ws, hs, hf⟩ := h
  cases hm : hasB n ws i
  · refine (clear_no B g c n hand ws i w hs hm).mono ?_
    rintro e w' ⟨rfl, rfl⟩
    unfold hasB at hm
    rw [hf] at hm
    refine ⟨by unfold hasF; rw [hm], ⟨c, ws, hs, fun j => ?_⟩, Touch.refl _ _⟩
    rw [hf]
    unfold clearF
    cases hb : inB n i
    · simp
    · rw [hb] at hm
      by_cases hj : j = i.toNat
      · subst hj
        simp at hm
        simp [hm]
      · simp [hj]
  · unfold hasB at hm
    rw [Bool.and_eq_true] at hm
    obtain ⟨hb, ht⟩ := hm
    obtain ⟨h0, h1⟩ := of_decide_eq_true hb
    obtain ⟨k, rfl⟩ := Int.eq_ofNat_of_zero_le h0
    rw [Int.toNat_natCast] at ht
    have hl := hs.len
    have hq : k / 64 < ws.length := by omega
    refine (clear_yes B g c n hand ws k w hs (by omega) ht).mono ?_
    rintro e w' ⟨rfl, rfl⟩
    unfold hasF
    rw [Int.toNat_natCast, ← hf, ht, hb]
    refine ⟨rfl, ⟨c, _, hs.setWord _ _ hq (fun i hi => ?_), fun j => ?_⟩, touch_setCell _ _ _ _ _⟩
    · rw [tk_set_not ws k hq, hs.top i hi]
      rfl
    · rw [tk_set_not ws k hq, hf]
      unfold clearF
      rw [hb, Int.toNat_natCast]
      simp

end Go.Proofs.YtjbfnnfbdjjjbaaDoor
