/- Layer 7: the walk of BitsAll. -/
import Derived.Test.YtjbfnnfbdjjjbaaDoorBitsR
import Derived.Test.YtjbfnnfbdjjjbaaDoorSetAll
namespace Go.Proofs.YtjbfnnfbdjjjbaaDoor
open Go.RowKit Go.WideShapes Go.ChangeShapes Go.ChangeAt

def boolsV (f : Nat → Bool) (m : Nat) : List Value := (List.range m).map fun i => .bool (f i)
theorem boolsV_get (f : Nat → Bool) (m i : Nat) (h : i < m) : (boolsV f m)[i]? = some (.bool (f i)) := by simp [boolsV, h]
theorem boolsV_set (f f' : Nat → Bool) (m i : Nat) (h : ∀ j, f' j = (f j || j == i)) : (boolsV f m).set i (.bool true) = boolsV f' m := by
  apply List.ext_getElem?
  intro j
  rw [List.getElem?_set]
  unfold boolsV
  by_cases e : i = j
  · subst e
    rw [if_pos rfl]
    by_cases hl : i < m
    · rw [if_pos (by simpa using hl)]
      simp [hl, h]
    · rw [if_neg (by simpa using hl), List.getElem?_eq_none (by simp; omega)]
  · rw [if_neg e]
    have e2 : (j == i) = false := by simpa using fun e' : j = i => e e'.symm
    by_cases hj : j < m
    · simp [hj, h, e2]
    · simp [hj]
theorem countF_succ (n : Nat) (f : Nat → Bool) : countF (n + 1) f = countF n f + (if f n = true then 1 else 0) := by
  unfold countF
  rw [List.range_succ, List.filter_append, List.length_append]
  cases h : f n <;> simp [h]
theorem countF_le (n : Nat) (f : Nat → Bool) : countF n f ≤ n := count_le f n
theorem countF_mark (f : Nat → Bool) (i : Nat) (hf : f i = false) : ∀ n, countF n (fun j => f j || j == i) = countF n f + (if i < n then 1 else 0)
  | 0 => by simp [countF]
  | n + 1 => by
    rw [countF_succ, countF_succ, countF_mark f i hf n]
    by_cases h : n = i
    · subst h
      simp [hf]
    · have e : (n == i) = false := by simpa using h
      simp only [e, Bool.or_false]
      by_cases h1 : i < n
      · simp only [if_pos h1, if_pos (show i < n + 1 by omega)]
        omega
      · simp only [if_neg h1, if_neg (show ¬ i < n + 1 by omega)]
        omega
theorem countF_full (f : Nat → Bool) : ∀ n, countF n f = n → ∀ j, j < n → f j = true
  | 0, _, j, hj => by omega
  | n + 1, h, j, hj => by
    rw [countF_succ] at h
    have h1 := countF_le n f
    have hn : f n = true := by
      cases hf : f n
      · rw [hf] at h
        simp at h
        omega
      · rfl
    rw [hn, if_pos rfl] at h
    by_cases e : j = n
    · rw [e]; exact hn
    · exact countF_full f n (by omega) j (by omega)
theorem countF_all (f : Nat → Bool) : ∀ n, (∀ j, j < n → f j = true) → countF n f = n
  | 0, _ => rfl
  | n + 1, h => by rw [countF_succ, countF_all f n (fun j hj => h j (by omega)), h n (by omega), if_pos rfl]

def S3 (B g Ub k : Nat) : Prop := k = B ∨ k = g ∨ k = Ub
/-- The set, and what is used. -/
structure AL (w1 w : World) (B g Ub m hand : Nat) (f : Nat → Bool) : Prop where
  sf : SF w B g m hand f
  used : Blk w Ub 4 (boolsV f m)
  touch : Touch (S3 B g Ub) w1 w
  apart : Ub ≠ B ∧ Ub ≠ g ∧ Ub ≠ 0
theorem AL.no {w1 w : World} {B g Ub m hand : Nat} {f : Nat → Bool} (h : AL w1 w B g Ub m hand f) : ¬ SOwn B g Ub := fun e => e.elim h.apart.1 h.apart.2.1
theorem sown3 {B g Ub : Nat} (j : Nat) (h : SOwn B g j) : S3 B g Ub j := h.elim .inl (fun e => .inr (.inl e))
theorem AL.again {w1 w w' : World} {B g Ub m hand hand' : Nat} {f : Nat → Bool} (h : AL w1 w B g Ub m hand f) (hs : SF w' B g m hand' f) (ht : Touch (SOwn B g) w w') : AL w1 w' B g Ub m hand' f :=
  ⟨hs, ht.blk h.used h.no, h.touch.trans (ht.mono sown3), h.apart⟩
theorem AL.mark {w1 w w' : World} {B g Ub m hand hand' : Nat} {f f' : Nat → Bool} (h : AL w1 w B g Ub m hand f) (i : Nat) (hf : ∀ j, f' j = (f j || j == i)) (hs : SF w' B g m hand' f') (ht : Touch (SOwn B g) w w') : AL w1 (w'.setCell ⟨Ub, i, none⟩ (.bool true)) B g Ub m hand' f' := by
  have hg := grownBy_setCell w' ⟨Ub, i, none⟩ (.bool true)
  have ht2 : Touch (fun k => k = Ub) w' (w'.setCell ⟨Ub, i, none⟩ (.bool true)) := Touch.of hg (fun k e => by cases e; rfl)
  have hu := (ht.blk h.used h.no).setCell i (.bool true)
  rw [boolsV_set f f' m i hf] at hu
  exact ⟨hs.touch ht2 (fun e => h.apart.1 e.symm) (fun e => h.apart.2.1 e.symm) (fun e => h.apart.2.2 e.symm), hu, (h.touch.trans (ht.mono sown3)).trans (ht2.mono (fun j hj => .inr (.inr hj))), h.apart⟩

theorem infoBool : (Tryd.prog.info? 4).map (fun i => (i.zero, i.size, i.bytes)) = some (some (.bool false), 1, 1) := by kernel_rfl
theorem madeBools (n : Nat) : madeCells (Value.bool false).cells n = (boolsV (fun _ => false) n).toArray := by
  apply Array.ext
  · simp [madeCells, boolsV]
  · intro i h1 h2
    simp [madeCells, Value.cells, Nat.mod_one, boolsV]

theorem markF_no {m : Nat} {f : Nat → Bool} {v : Int} (h : (inB m v && !f v.toNat) = false) (j : Nat) : markF m f v j = f j := by
  unfold markF
  cases hb : inB m v
  · simp
  · rw [hb] at h
    have hf : f v.toNat = true := by simpa using h
    by_cases e : j = v.toNat
    · rw [e, hf]; simp
    · have : (j == v.toNat) = false := by simpa using e
      rw [this]; simp
theorem AL.cell {w1 w w' : World} {B g Ub m hand : Nat} {f : Nat → Bool} (h : AL w1 w B g Ub m hand f) (ht : Touch (SOwn B g) w w') (i : Nat) (hi : i < m) : w'.cell? ⟨Ub, i, none⟩ = some (.bool (f i)) ∧ w'.frozen? ⟨Ub, i, none⟩ = false := by
  have hb := ht.blk h.used h.no
  exact ⟨hb.cell (boolsV_get f m i hi), hb.frozen i⟩
theorem beq_nat (i j : Nat) : ((i : Int) == (j : Int)) = (i == j) := by
  rw [Bool.eq_iff_iff, beq_iff_eq, beq_iff_eq]
  omega

set_option maxRecDepth 100000 in
set_option maxHeartbeats 4000000 in
theorem bitsAll_walk0 (n : Nat) (xs : List Int) (a : Option Addr) (c : Nat) (w : World) (hn : n ≤ 65535) (hr : Rds w 1 (.slice a xs.length c) xs.length (xs.map (Value.int .i64))) (hT : Tab w) (hG : 0 < w.heap.size) :
    Calls Tryd.prog 4 #[.int .u16 n, .slice a xs.length c] w fun e w' => e = .returned (.bool true) ∧ Below w.heap.size w w' := by
  have hml := hr.2.1
  unfold maxLen at hml
  by_cases hbig : 100 < xs.length
  · have hb : decide ((100 : Int) < (xs.length : Int)) = true := decide_eq_true (by omega)
    go_enter Tryd.func4, Tryd.ntmps4
    go_wp2_with fail
    go_ret
    exact ⟨rfl, Below.refl _ _⟩
  have hb : decide ((100 : Int) < (xs.length : Int)) = false := decide_eq_false (by omega)
  have hx : xs.length ≤ 100 := by omega
  obtain ⟨i0, hi, hz0, hz1, hz2⟩ := info_parts infoBool
  have HTT := Lib.hid hT
  have HR := Lib.hid hr
  clear hT hr hbig
  obtain ⟨m, hm⟩ : ∃ m : Nat, n % 1000 + 1 = m := ⟨_, rfl⟩
  have em : (n : Int) % 1000 + 1 = (m : Int) := by omega
  have hm1 : 1 ≤ m := by omega
  have hm2 : m ≤ 1000 := by omega
  clear hm
  have hmk : ∀ W : World, (Instr.makeSlice 32 (.int .i64 m) (.int .i64 m)).run Tryd.prog W = .ok (.slice (some ⟨W.heap.size, 0, none⟩) m m) (W.alloc (.cells (boolsV (fun _ => false) m).toArray 4)) := by
    intro W
    have := run_makeSlice (P := Tryd.prog) W 32 4 i0 (.bool false) Tryd.underlying32 hi hz0 .i64 .i64 m m (by omega) (by omega) (by rw [hz1]; omega) (by rw [hz2]; omega) (by omega)
    rw [this, hz1]
    rw [show (madeCells (Value.bool false).cells ((m : Int).toNat * 1)) = (boolsV (fun _ => false) m).toArray from by rw [Int.toNat_natCast, Nat.mul_one]; exact madeBools m]
    simp
  go_enter Tryd.func4, Tryd.ntmps4
  go_wp2_with fail
  clear em
  refine (snew_any m w hm1 (by omega) HTT.out hG).mono ?_
  rintro e w1 ⟨B, g, rfl, s1, hB, hg, g1⟩
  have HS1 := Lib.hid s1
  have HG1 := Lib.hid g1
  have HBG : Hid (w.heap.size ≤ B ∧ w.heap.size ≤ g) := Lib.hid ⟨hB, hg⟩
  have HLT : Hid (B < w1.heap.size ∧ g < w1.heap.size ∧ 0 < w1.heap.size) := Lib.hid (by
    obtain ⟨c, ws, hs, _⟩ := s1
    obtain ⟨rest, hrow⟩ := hs.row
    exact ⟨hs.blk.lt, hrow.lt, hs.tlt⟩)
  clear s1 g1 hB hg
  go_wp2_with fail
  clear hmk
  have HAL : Hid (AL w1 (w1.alloc (.cells (boolsV (fun _ => false) m).toArray 4)) B g w1.heap.size m 0 (fun _ => false)) := Lib.hid ⟨HS1.out.grown (World.grownBy_alloc _ _ none), Blk.new w1 _ _, Touch.of_none (World.grownBy_alloc _ _ none), by have := HLT.out; omega⟩
  have HS3 : Hid (∀ k, S3 B g w1.heap.size k → w.heap.size ≤ k) := Lib.hid (fun k hk => by
    have := HBG.out
    have := HG1.out.size
    rcases hk with h | h | h <;> omega)
  clear HS1 HLT
  obtain ⟨wa, hwa⟩ : ∃ wa, w1.alloc (.cells (boolsV (fun _ => false) m).toArray 4) = wa := ⟨_, rfl⟩
  rw [hwa] at HAL ⊢
  clear hwa
  generalize w1.heap.size = Ub at *
  go_loopw [8, 9] (fun l i wr => ∃ (k left : Nat) (f : Nat → Bool), k ≤ xs.length ∧ i = .int .i64 k ∧ l = .int .i64 left ∧ left + countF m f = m ∧ AL w1 wr B g Ub m 0 f) (fun _ i _ => xs.length - (intOf i).toNat)
  case atStart => exact ⟨0, m, _, by omega, rfl, rfl, by rw [countF_none]; omega, HAL.out⟩
  case round =>
    clear HAL
    obtain ⟨k, left, f, hk, rfl, rfl, hleft, hal⟩ := hrel
    have HAL := Lib.hid hal
    have HGR := Lib.hid (hal.touch.grown HG1.out HS3.out)
    clear hal
    by_cases hlt : k < xs.length
    · obtain ⟨b, o, rfl, hc⟩ := (HR.out.grown HGR.out (by simp)).at' (by omega)
      have hcell := hc k (.int .i64 (xs.getD k 0)) (by simp [hlt, List.getD])
      have hkl : (k : Int) < (xs.length : Int) := by omega
      clear hc
      generalize xs.getD k 0 = v at *
      go_wp2_with fail
      refine (mark_any B g m 0 f v wr HAL.out.sf).mono ?_
      rintro e w2 ⟨rfl, s2, t2⟩
      cases hm : inB m v && !f v.toNat
      · have HAL2 := Lib.hid (HAL.out.again (s2.as (markF_no hm)) t2)
        clear s2 t2 hm HAL
        go_wp2_with fail
        go_roundw
        case rel => exact ⟨k + 1, left, f, by omega, by go_num, rfl, hleft, HAL2.out⟩
        case measure => simp [intOf]; omega
      · rw [Bool.and_eq_true, Bool.not_eq_true'] at hm
        obtain ⟨hib, hfi⟩ := hm
        obtain ⟨q0, q1⟩ := of_decide_eq_true hib
        obtain ⟨i, rfl⟩ := Int.eq_ofNat_of_zero_le q0
        rw [Int.toNat_natCast] at hfi
        have him : i < m := by omega
        have hstep : ∀ j, markF m f (i : Int) j = (f j || j == i) := fun j => by
          unfold markF
          rw [hib, Int.toNat_natCast, Bool.true_and]
        have hcnt := countF_mark f i hfi m
        rw [if_pos him] at hcnt
        have hle := countF_le m (fun j => f j || j == i)
        obtain ⟨left', hl'⟩ : ∃ left', left = left' + 1 := ⟨left - 1, by omega⟩
        subst hl'
        obtain ⟨u1, u2⟩ := HAL.out.cell t2 i him
        have hcell2 : w2.cell? ⟨b, o + k, none⟩ = some (.int .i64 (i : Int)) := t2.cell hcell (by
          have hbl : b < w.heap.size := HR.out.lt (by intro e; have := congrArg List.length e; simp at this; rw [this] at hlt; simp at hlt) b rfl
          have := HBG.out
          intro e
          rcases e with e | e <;> (simp only at e; omega))
        have HAL2 := Lib.hid (HAL.out.mark i (f' := fun j => f j || j == i) (fun _ => rfl) (s2.as hstep) t2)
        have HCN := Lib.hid hcnt
        clear s2 t2 HAL hcnt hle hstep hcell
        have hi2 : (i : Int) < (m : Int) := by omega
        go_wp2_with fail
        go_roundw
        case rel => exact ⟨k + 1, left', fun j => f j || j == i, by omega, by go_num, by go_num, by have := HCN.out; omega, HAL2.out⟩
        case measure => simp [intOf]; omega
    · obtain rfl : k = xs.length := by omega
      go_wp2_with fail
      have HL1 := Lib.hid hleft
      clear hleft HGR
      generalize hwo : wr = wo at *
      clear hwo
      go_loopw [8] (fun l wr => ∃ (left hand : Nat) (f : Nat → Bool), l = .int .i64 left ∧ left + countF m f = m ∧ AL w1 wr B g Ub m hand f) (fun l _ => (intOf l).toNat)
      case atStart => exact ⟨left, 0, f, rfl, HL1.out, HAL.out⟩
      case round =>
        clear HAL HL1
        obtain ⟨left, hand, f, rfl, hleft, hal⟩ := hrel
        have HAL := Lib.hid hal
        have HGR := Lib.hid (hal.touch.grown HG1.out HS3.out)
        clear hal
        by_cases hl0 : 0 < left
        · have hli : decide ((0 : Int) < (left : Int)) = true := decide_eq_true (by omega)
          obtain ⟨left', rfl⟩ : ∃ left', left = left' + 1 := ⟨left - 1, by omega⟩
          go_wp2_with fail
          refine (take_any B g m hand f wr HAL.out.sf).mono ?_
          rintro e w2 (⟨rfl, rfl, hall⟩ | ⟨i, rfl, htk, s2, t2⟩)
          · have := countF_all f m hall
            omega
          obtain ⟨him, hfi, _⟩ := htk
          have hib : inB m (i : Int) = true := decide_eq_true (by omega)
          have hstep : ∀ j, markF m f (i : Int) j = (f j || j == i) := fun j => by
            unfold markF
            rw [hib, Int.toNat_natCast, Bool.true_and]
          have hcnt := countF_mark f i hfi m
          rw [if_pos him] at hcnt
          obtain ⟨u1, u2⟩ := HAL.out.cell t2 i him
          rw [hfi] at u1
          have HAL2 := Lib.hid (HAL.out.mark i (f' := fun j => f j || j == i) (fun _ => rfl) (s2.as hstep) t2)
          have HCN := Lib.hid hcnt
          clear s2 t2 HAL hcnt hstep
          have hi2 : (i : Int) < (m : Int) := by omega
          have d1 : decide ((i : Int) < 0) = false := decide_eq_false (by omega)
          have d2 : decide ((m : Int) ≤ (i : Int)) = false := decide_eq_false (by omega)
          go_wp2_with fail
          go_roundw
          case rel => exact ⟨left', _, fun j => f j || j == i, by go_num, by have := HCN.out; omega, HAL2.out⟩
          case measure => simp [intOf] <;> omega
        · obtain rfl : left = 0 := by omega
          have HALL : Hid (∀ j, j < m → f j = true) := Lib.hid (countF_full f m (by omega))
          have HCF : Hid (countF m f = m) := Lib.hid (by omega)
          have hli : decide ((0 : Int) < ((0 : Nat) : Int)) = false := by simp
          clear hleft
          obtain ⟨kk, hkk⟩ : ∃ kk : Nat, n % m = kk := ⟨_, rfl⟩
          have em2 : (n : Int) % (m : Int) = (kk : Int) := by rw [← hkk]; push_cast; rfl
          have hkm : kk < m := by rw [← hkk]; exact Nat.mod_lt _ (by omega)
          have hmz : ((m : Int) == 0) = false := by rw [beq_eq_false_iff_ne]; omega
          have hmm : ((m : Int) != (m : Int)) = false := by simp
          have hkeq : ((kk : Int) == (kk : Int)) = true := by simp
          have hib : inB m (kk : Int) = true := decide_eq_true (by omega)
          clear hkk
          go_wp2_with fail
          refine (take_any B g m hand f wr HAL.out.sf).mono ?_
          rintro e w2 (⟨rfl, rfl, _⟩ | ⟨i, rfl, htk, s2, t2⟩)
          case inr =>
            have h1 := HALL.out i htk.1
            rw [htk.2.1] at h1
            cases h1
          go_wp2_with fail
          refine (count_any B g m hand f wr HAL.out.sf).mono ?_
          rintro e w2 ⟨rfl, rfl⟩
          rw [HCF.out]
          go_wp2_with fail
          refine (all_any B g m hand f wr HAL.out.sf).mono ?_
          rintro e w2 ⟨v, rfl, ho, g2⟩
          obtain ⟨av, cv, rfl⟩ := (Rds.of_owns ho).slice
          have hlen : (takI f m).length = m := by
            have := HCF.out
            unfold countF at this
            unfold takI
            rw [List.length_map]
            exact this
          rw [hlen]
          have HS := Lib.hid (HAL.out.sf.grown g2)
          have HG := Lib.hid (grownBy_trans HGR.out g2)
          clear ho g2 HGR HAL hlen
          go_wp2_with fail
          refine (clear_any B g m hand f (kk : Int) w2 HS.out).mono ?_
          rintro e w3 ⟨rfl, s3, t3⟩
          have hh : hasF m f (kk : Int) = true := by
            unfold hasF
            rw [hib, Int.toNat_natCast, HALL.out kk hkm]
            rfl
          rw [hh]
          have HS3' := Lib.hid s3
          have HT3 := Lib.hid t3
          clear s3 t3 hh
          have hcf : ∀ j, clearF m f (kk : Int) j = (f j && !(j == kk)) := fun j => by
            unfold clearF
            rw [hib, Int.toNat_natCast, Bool.true_and]
          go_wp2_with fail
          refine (hasF_any B g m hand _ (kk : Int) w3 HS3'.out).mono ?_
          rintro e w4 ⟨rfl, rfl⟩
          have hh2 : hasF m (clearF m f (kk : Int)) (kk : Int) = false := by
            unfold hasF
            rw [hib, Int.toNat_natCast, hcf]
            simp
          rw [hh2]
          go_wp2_with fail
          refine (clear_any B g m hand _ (kk : Int) w3 HS3'.out).mono ?_
          rintro e w4 ⟨rfl, s4, t4⟩
          rw [hh2]
          have HS4 : Hid (SF w4 B g m hand (fun j => f j && !(j == kk))) := Lib.hid (s4.as (fun j => by
            show clearF m (clearF m f (kk : Int)) (kk : Int) j = _
            unfold clearF
            rw [hib, Int.toNat_natCast, Bool.true_and, Bool.and_assoc, Bool.and_self]))
          have HT4 := Lib.hid (HT3.out.trans t4)
          clear s4 t4 hh2 hcf HS3' HT3
          go_wp2_with fail
          refine (take_any B g m hand _ w4 HS4.out).mono ?_
          rintro e w5 (⟨rfl, rfl, hall⟩ | ⟨i, rfl, htk, s5, t5⟩)
          · have := hall kk hkm
            simp at this
          have hik : i = kk := by
            have h1 : (f i && !(i == kk)) = false := htk.2.1
            rw [HALL.out i htk.1] at h1
            simpa using h1
          subst hik
          obtain ⟨hT5, hG5⟩ := s5.tab
          have HTG := Lib.hid ((HT4.out.trans t5).grown HG.out (fun k hk => HS3.out k (sown3 k hk)))
          have HT5 := Lib.hid hT5
          have HG5 := Lib.hid hG5
          clear htk s5 t5 hT5 hG5 HS4 HT4
          go_wp2_with fail
          refine (sawake_any w5 HT5.out HG5.out).mono ?_
          rintro e w6 ⟨rfl, g6⟩
          have HE := Lib.hid (grownBy_trans HTG.out g6)
          clear g6
          go_wp2_with fail
          go_ret
          exact ⟨rfl, below_grownBy HE.out⟩

theorem ints_flat7 (xs : List Int) : xs.flatMap (fun x : Int => [Value.int .i64 x]) = xs.map (Value.int .i64) := by
  induction xs with
  | nil => rfl
  | cons x xs ih => rw [List.flatMap_cons, ih]; rfl
section
variable {H : Type} {enc : TypeId × Value → H} {r : Reach} {b0 : Nat}
set_option maxRecDepth 100000 in
theorem arg_ints7 (w : World) {v0 : Value} {d0 : DataW H} {p0 : List MemPlace} (k0 : Value.okWide Tryd.prog w r b0 31 v0) (h0 : DataW.Trod enc Tryd.prog w 0 (fun _ => true) true 31 v0 d0 p0) :
    ∃ (xs : List Int) (a : Option Addr) (cap : Nat), v0 = .slice a xs.length cap ∧ Rds w 1 (.slice a xs.length cap) xs.length (xs.map (Value.int .i64)) := by
  obtain ⟨xs, a, cap, rfl, hr, _, hg⟩ := arg_slice (fun x : Int => [Value.int .i64 x]) (fun x => (Lit.int .i64 x).wf = true) 1 (by omega) Tryd.underlying31 (by kernel_rfl) (fun _ => rfl) (el_int Tryd.underlying3) k0 h0
  rw [ints_flat7] at hr
  exact ⟨xs, a, cap, rfl, hr⟩
set_option maxRecDepth 100000 in
theorem bitsAll_walk (w : World) (hT : Tab w) (hG : 0 < w.heap.size) {v0 v1 : Value} {d0 d1 : DataW H} {p0 p1 : List MemPlace} (k0 : Value.okWide Tryd.prog w r b0 22 v0) (k1 : Value.okWide Tryd.prog w r b0 31 v1)
    (h0 : DataW.Trod enc Tryd.prog w 0 (fun _ => true) true 22 v0 d0 p0) (h1 : DataW.Trod enc Tryd.prog w 0 (fun _ => true) true 31 v1 d1 p1) :
    Calls Tryd.prog 4 #[v0, v1] w fun e w' => e = .returned (.bool true) ∧ Below w.heap.size w w' := by
  obtain ⟨x, rfl, hx⟩ := arg_u16' w k0 h0
  obtain ⟨xs, a, c, rfl, hr⟩ := arg_ints7 w k1 h1
  exact bitsAll_walk0 x xs a c w hx hr hT hG
end

end Go.Proofs.YtjbfnnfbdjjjbaaDoor
