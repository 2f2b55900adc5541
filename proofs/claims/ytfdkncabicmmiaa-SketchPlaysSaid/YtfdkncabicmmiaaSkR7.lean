/- Layer 23, the reference: Unpack. Layer 23, the reference: Unpack of a sketch's bytes. -/
import Derived.Test.YtfdkncabicmmiaaSkR3
import Derived.Test.YtfdkncabicmmiaaOfAt
import Derived.Test.YtfdkncabicmmiaaGrown
import Derived.Test.YtfdkncabicmmiaaSkUy
import Derived.Test.YtfdkncabicmmiaaPlan2
namespace Go.Proofs.Ytfdkncabicmmiaa
section
open Go.RowKit

/-- What the reference's Unpack leaves. -/
def RUno (w : World) (e : Ending) (w' : World) : Prop := e = .returned (.tuple #[.agg #[.int .i64 0, .int .i64 0, .slice none 0 0], .int .i64 5]) ∧ w.grownBy w' none
def RUyes (w : World) (m age : Nat) (e : Ending) (w' : World) : Prop := ∃ G c, e = .returned (.tuple #[rvV m age G c, .int .i64 0]) ∧ w.grownBy w' none

/-- Both numbers at the head. -/
theorem head_of (xs : List Nat) (b o c : Nat) (hs : ∀ x ∈ xs, x < 256) (hl : 6 ≤ xs.length) (w : World) (hr : Rds w 1 (.slice (some ⟨b, o, none⟩) xs.length c) xs.length (bytesV xs)) :
    (∀ W : World, w.grownBy W none → Calls Try.prog 34 #[.slice (some ⟨b, o, none⟩) 2 c] W fun e w' => e = .returned (.int .u64 (numAt xs 0 2 : Nat)) ∧ W.grownBy w' none) ∧
    (∀ W : World, w.grownBy W none → Calls Try.prog 34 #[.slice (some ⟨b, o + 2, none⟩) 4 (c - 2)] W fun e w' => e = .returned (.int .u64 (numAt xs 2 4 : Nat)) ∧ W.grownBy w' none) :=
  ⟨fun W hW => (of_at (hr.grown hW (by simp)) hs 0 2 (by omega) (by omega) c).mono fun _ _ ⟨h1, h2⟩ => ⟨h1, by subst h2; exact grownBy_refl _ _⟩,
   fun W hW => (of_at (hr.grown hW (by simp)) hs 2 4 (by omega) (by omega) (c - 2)).mono fun _ _ ⟨h1, h2⟩ => ⟨h1, by subst h2; exact grownBy_refl _ _⟩⟩

set_option maxRecDepth 100000 in
set_option maxHeartbeats 4000000 in
theorem runpackK_short (xs : List Nat) (a : Option Addr) (c : Nat) (w : World) (h6 : xs.length < 6) :
    Calls Try.prog 18 #[.slice a xs.length c] w (RUno w) := by
  unfold RUno
  have hd : decide ((xs.length : Int) < 6) = true := decide_eq_true (by omega)
  go_enter Try.func18, Try.ntmps18
  go_wp2_with fail
  have hb1 := Blk.new w 40 [.int .i64 0, .int .i64 0, .slice none 0 0]
  have z0 := hb1.cell (j := 0) rfl
  have z1 := hb1.cell (j := 1) rfl
  have z2 := hb1.cell (j := 2) rfl
  refine bodyPost_ret (v := .tuple #[.agg #[.int .i64 0, .int .i64 0, .slice none 0 0], .int .i64 5]) (by simp [results, Try.results18, go_sem, z0, z1, z2]) rfl ⟨rfl, ?_⟩
  exact World.grownBy_alloc _ _ none

set_option maxRecDepth 100000 in
set_option maxHeartbeats 4000000 in
theorem runpackK_no (xs : List Nat) (a : Option Addr) (c : Nat) (w : World) (hs : ∀ x ∈ xs, x < 256) (h6 : 6 ≤ xs.length) (hcap : xs.length ≤ c) (hr : Rds w 1 (.slice a xs.length c) xs.length (bytesV xs)) (hno : kreadB xs = false) :
    Calls Try.prog 18 #[.slice a xs.length c] w (RUno w) := by
  unfold RUno
  have h2 : numAt xs 0 2 < 65536 := numAt_lt hs 0 2
  have h4 : numAt xs 2 4 < 4294967296 := numAt_lt hs 2 4
  obtain ⟨b, o, rfl, hc⟩ := hr.at' (by omega)
  clear hc
  obtain ⟨w1, hw1⟩ : ∃ w1, w.alloc (.cells #[.int .i64 0, .int .i64 0, .slice none 0 0] 40) = w1 := ⟨_, rfl⟩
  have hb1 : Blk w1 w.heap.size 40 [.int .i64 0, .int .i64 0, .slice none 0 0] := by rw [← hw1]; exact Blk.new w _ _
  have hg1 : w.grownBy w1 none := by rw [← hw1]; exact World.grownBy_alloc _ _ none
  have HB := Lib.hid hb1
  have HG := Lib.hid hg1
  obtain ⟨o2, o4⟩ := head_of xs b o c hs h6 w1 (hr.grown hg1 (by simp))
  have O2 := Lib.hid o2
  have O4 := Lib.hid o4
  have HW := Lib.hid hw1
  clear hr hs hb1 hg1 o2 o4 hw1
  have hd : decide ((xs.length : Int) < 6) = false := decide_eq_false (by omega)
  have hcz : (6 : Int) ≤ (c : Int) := by omega
  unfold kreadB at hno
  obtain ⟨m, hm⟩ : ∃ m, numAt xs 0 2 = m := ⟨_, rfl⟩
  obtain ⟨ag, hag⟩ : ∃ ag, numAt xs 2 4 = ag := ⟨_, rfl⟩
  rw [hm] at h2 hno O2
  rw [hag] at h4 hno O4
  clear hm hag
  have hwm : IntKind.i64.wrap (m : Int) = m := IntWalk.i64_in _ ⟨by omega, by omega⟩
  have hwa : IntKind.i64.wrap (ag : Int) = ag := IntWalk.i64_in _ ⟨by omega, by omega⟩
  have HRT := Lib.hid (fun W => rright_any (m : Int) W)
  rw [pow2Z_nat] at HRT
  go_enter Try.func18, Try.ntmps18
  go_wp2_with fail
  rw [HW.out]
  refine wp_region_grown (by kernel_rfl) (by kernel_rfl) ?_
  repeat (go_big_quiet_step (fail))
  go_big_quiet_step ((go_at_call 34; exact calls_grown O2.out _))
  repeat (go_big_quiet_step (fail))
  go_big_quiet_step ((go_at_call 34; exact calls_grown O4.out _))
  repeat (go_big_quiet_step (fail))
  refine wpQuiet_nil ?_
  rintro _ ⟨g, rfl⟩
  have G4 := Lib.hid (gw_grown g)
  have HB4 := Lib.hid (HB.out.grown G4.out (by simp))
  have HG4 := Lib.hid (grownBy_trans HG.out G4.out)
  obtain ⟨w4, hw4⟩ : ∃ w4, gw g = w4 := ⟨_, rfl⟩
  rw [hw4] at HB4 HG4 ⊢
  clear G4 HB HG O2 O4 HW hw4
  go_wp2_with fail
  refine (HRT.out _).mono ?_
  rintro e w5 ⟨rfl, rfl⟩
  have hb4 := ((HB4.out.setCell 0 (.int .i64 0)).setCell 1 (.int .i64 0)).setCell 2 (.slice none 0 0)
  have HZ : Hid (∃ W5, w4 = W5) := Lib.hid ⟨_, rfl⟩
  have q10 : IntKind.i64.wrap (10 * (m : Int)) = 10 * (m : Int) := IntWalk.i64_in _ ⟨by omega, by omega⟩
  have q2 : IntKind.i64.wrap (2 * (m : Int)) = 2 * (m : Int) := IntWalk.i64_in _ ⟨by omega, by omega⟩
  have q6 : IntKind.i64.wrap (6 + 2 * (m : Int)) = 6 + 2 * (m : Int) := IntWalk.i64_in _ ⟨by omega, by omega⟩
  have y0 := HB4.out.frozen 0
  have y1 := HB4.out.frozen 1
  have y2 := HB4.out.frozen 2
  have z0 := HB4.out.cell (j := 0) rfl
  have z1 := HB4.out.cell (j := 1) rfl
  have z2 := HB4.out.cell (j := 2) rfl
  have HE := Lib.hid hb4
  clear hb4 HZ HRT
  have HEND : Hid (w.grownBy (((w4.setCell ⟨w.heap.size, 0, none⟩ (.int .i64 0)).setCell ⟨w.heap.size, 1, none⟩ (.int .i64 0)).setCell ⟨w.heap.size, 2, none⟩ (.slice none 0 0)) none) := Lib.hid (grownBy_base2 (grownBy_base2 (grownBy_base2 HG4.out (grownBy_setCell _ _ _) (Nat.le_refl _)) (grownBy_setCell _ _ _) (Nat.le_refl _)) (grownBy_setCell _ _ _) (Nat.le_refl _))
  cases hp : pow2B m
  · clear hno
    go_wp2_with fail
    clear y0 y1 y2 z0 z1 z2
    have z0 := HE.out.cell (j := 0) rfl
    have z1 := HE.out.cell (j := 1) rfl
    have z2 := HE.out.cell (j := 2) rfl
    exact bodyPost_ret (v := .tuple #[.agg #[.int .i64 0, .int .i64 0, .slice none 0 0], .int .i64 5]) (by simp [results, Try.results18, go_sem, z0, z1, z2]) rfl ⟨rfl, HEND.out⟩
  · rw [hp, Bool.true_and] at hno
    by_cases hage : ag < 10 * m
    · have d1 : decide ((ag : Int) ≥ 10 * (m : Int)) = false := decide_eq_false (by omega)
      have hlen : ¬ xs.length = 6 + 2 * m := by
        rw [decide_eq_true hage, Bool.true_and] at hno
        exact of_decide_eq_false hno
      have d2 : ((xs.length : Int) != 6 + 2 * (m : Int)) = true := bne_iff_ne.2 (by omega)
      clear hno hlen hage
      go_wp2_with fail
      clear y0 y1 y2 z0 z1 z2
      have z0 := HE.out.cell (j := 0) rfl
      have z1 := HE.out.cell (j := 1) rfl
      have z2 := HE.out.cell (j := 2) rfl
      exact bodyPost_ret (v := .tuple #[.agg #[.int .i64 0, .int .i64 0, .slice none 0 0], .int .i64 5]) (by simp [results, Try.results18, go_sem, z0, z1, z2]) rfl ⟨rfl, HEND.out⟩
    · have d1 : decide ((ag : Int) ≥ 10 * (m : Int)) = true := decide_eq_true (by omega)
      clear hno hage
      go_wp2_with fail
      clear y0 y1 y2 z0 z1 z2
      have z0 := HE.out.cell (j := 0) rfl
      have z1 := HE.out.cell (j := 1) rfl
      have z2 := HE.out.cell (j := 2) rfl
      exact bodyPost_ret (v := .tuple #[.agg #[.int .i64 0, .int .i64 0, .slice none 0 0], .int .i64 5]) (by simp [results, Try.results18, go_sem, z0, z1, z2]) rfl ⟨rfl, HEND.out⟩
end

section
open Go.RowKit

/-- Under way. -/
structure RV (w wr : World) (B m age G : Nat) : Prop where
  res : Blk wr w.heap.size 40 [.int .i64 0, .int .i64 0, .slice none 0 0]
  sk : Blk wr B 40 [.int .i64 (m : Nat), .int .i64 (age : Nat), .slice (some ⟨G, 0, none⟩) (4 * m) (4 * m)]
  cnt : ∃ vs, vs.length = 4 * m ∧ Blk wr G 3 vs
  grown : w.grownBy wr none
  newG : w.heap.size < G
  newB : w.heap.size < B
  ne : G ≠ B
theorem RV.set {w wr : World} {B m age G : Nat} (h : RV w wr B m age G) (j : Nat) (v : Value) : RV w (wr.setCell ⟨G, j, none⟩ v) B m age G := by
  obtain ⟨vs, hl, hb⟩ := h.cnt
  have hg := grownBy_setCell wr ⟨G, j, none⟩ v
  have h1 := h.newG
  have h2 := h.ne
  exact ⟨h.res.grown hg (by simp; omega), h.sk.grown hg (by simp; omega), ⟨vs.set j v, by simpa using hl, hb.setCell j v⟩, grownBy_base2 h.grown hg (by simp; omega), h.newG, h.newB, h.ne⟩
theorem RV.later {w wr wr' : World} {B m age G : Nat} (h : RV w wr B m age G) (hg : wr.grownBy wr' none) : RV w wr' B m age G := by
  obtain ⟨vs, hl, hb⟩ := h.cnt
  exact ⟨h.res.grown hg (by simp), h.sk.grown hg (by simp), ⟨vs, hl, hb.grown hg (by simp)⟩, grownBy_trans h.grown hg, h.newG, h.newB, h.ne⟩

set_option maxRecDepth 100000 in
set_option maxHeartbeats 8000000 in
theorem runpackK_yes (xs : List Nat) (a : Option Addr) (c : Nat) (w : World) (hs : ∀ x ∈ xs, x < 256) (hcap : xs.length ≤ c) (hr : Rds w 1 (.slice a xs.length c) xs.length (bytesV xs)) (hyes : kreadB xs = true) :
    Calls Try.prog 18 #[.slice a xs.length c] w (RUyes w (numAt xs 0 2) (numAt xs 2 4)) := by
  unfold RUyes
  obtain ⟨hp, hage, hlen⟩ := (kread_iff xs).1 hyes
  have h2 : numAt xs 0 2 < 65536 := numAt_lt hs 0 2
  have h4 : numAt xs 2 4 < 4294967296 := numAt_lt hs 2 4
  have h6 : 6 ≤ xs.length := by omega
  obtain ⟨b, o, rfl, hc⟩ := hr.at' (by omega)
  have HC : Hid (∀ j, j < xs.length → w.cell? ⟨b, o + j, none⟩ = some (.int .u8 (xs.getD j 0 : Nat))) := Lib.hid (fun j hj => hc j _ (bytesV_get xs j hj))
  have HBY := Lib.hid (fun j => getD_small xs hs j)
  clear hc hyes
  obtain ⟨w1, hw1⟩ : ∃ w1, w.alloc (.cells #[.int .i64 0, .int .i64 0, .slice none 0 0] 40) = w1 := ⟨_, rfl⟩
  have hb1 : Blk w1 w.heap.size 40 [.int .i64 0, .int .i64 0, .slice none 0 0] := by rw [← hw1]; exact Blk.new w _ _
  have hg1 : w.grownBy w1 none := by rw [← hw1]; exact World.grownBy_alloc _ _ none
  have HB := Lib.hid hb1
  have HG := Lib.hid hg1
  obtain ⟨o2, o4⟩ := head_of xs b o c hs h6 w1 (hr.grown hg1 (by simp))
  have O2 := Lib.hid o2
  have O4 := Lib.hid o4
  have HW := Lib.hid hw1
  clear hr hs hb1 hg1 o2 o4 hw1
  have hd : decide ((xs.length : Int) < 6) = false := decide_eq_false (by omega)
  have hcz : (6 : Int) ≤ (c : Int) := by omega
  obtain ⟨m, hm⟩ : ∃ m, numAt xs 0 2 = m := ⟨_, rfl⟩
  obtain ⟨ag, hag⟩ : ∃ ag, numAt xs 2 4 = ag := ⟨_, rfl⟩
  rw [hm] at h2 O2 hp hage hlen ⊢
  rw [hag] at h4 O4 hage ⊢
  clear hm hag
  have hl := pow2_le hp
  have hwm : IntKind.i64.wrap (m : Int) = m := IntWalk.i64_in _ ⟨by omega, by omega⟩
  have hwa : IntKind.i64.wrap (ag : Int) = ag := IntWalk.i64_in _ ⟨by omega, by omega⟩
  have HRT := Lib.hid (fun W => rright_any (m : Int) W)
  rw [pow2Z_nat, (pow2_iff m).2 hp] at HRT
  have HLEN := Lib.hid hlen
  have d2 : ((xs.length : Int) != 6 + 2 * (m : Int)) = false := by rw [bne_eq_false_iff_eq]; omega
  have d1 : decide ((ag : Int) ≥ 10 * (m : Int)) = false := decide_eq_false (by omega)
  have q10 : IntKind.i64.wrap (10 * (m : Int)) = 10 * (m : Int) := IntWalk.i64_in _ ⟨by omega, by omega⟩
  have q2 : IntKind.i64.wrap (2 * (m : Int)) = 2 * (m : Int) := IntWalk.i64_in _ ⟨by omega, by omega⟩
  have q6 : IntKind.i64.wrap (6 + 2 * (m : Int)) = 6 + 2 * (m : Int) := IntWalk.i64_in _ ⟨by omega, by omega⟩
  clear hlen
  go_enter Try.func18, Try.ntmps18
  go_wp2_with fail
  rw [HW.out]
  refine wp_region_grown (by kernel_rfl) (by kernel_rfl) ?_
  repeat (go_big_quiet_step (fail))
  go_big_quiet_step ((go_at_call 34; exact calls_grown O2.out _))
  repeat (go_big_quiet_step (fail))
  go_big_quiet_step ((go_at_call 34; exact calls_grown O4.out _))
  repeat (go_big_quiet_step (fail))
  refine wpQuiet_nil ?_
  rintro _ ⟨g, rfl⟩
  have G4 := Lib.hid (gw_grown g)
  have HB4 := Lib.hid (HB.out.grown G4.out (by simp))
  have HG4 := Lib.hid (grownBy_trans HG.out G4.out)
  obtain ⟨w4, hw4⟩ : ∃ w4, gw g = w4 := ⟨_, rfl⟩
  rw [hw4] at HB4 HG4 ⊢
  clear G4 HB HG O2 O4 HW hw4
  go_wp2_with fail
  refine (HRT.out _).mono ?_
  rintro e w5 ⟨rfl, rfl⟩
  clear HRT
  go_wp2_with fail
  clear d1 q10 q6 hwm hwa
  refine (rnew_any m hl _).mono ?_
  rintro e w6 ⟨G, rfl, b6, n6, g6⟩
  unfold rvV
  have HB6 := Lib.hid (HB4.out.grown g6 (by simp))
  have HN6 := Lib.hid n6
  have HC6 := Lib.hid b6
  have HG6 := Lib.hid (grownBy_trans HG4.out g6)
  have HS6 : Hid (w.heap.size < w4.heap.size) := Lib.hid HB4.out.lt
  clear b6 n6 g6 HB4 HG4
  go_wp2_with fail
  have hg7 := World.grownBy_alloc w6 (.cells #[.int .i64 (m : Int), .int .i64 (ag : Int), .slice (some ⟨G, 0, none⟩) (4 * m) (4 * m)] 40) none
  have hrv : RV w (w6.alloc (.cells #[.int .i64 (m : Int), .int .i64 (ag : Int), .slice (some ⟨G, 0, none⟩) (4 * m) (4 * m)] 40)) w6.heap.size m ag G := by
    refine ⟨HB6.out.grown hg7 (by simp), Blk.new w6 _ _, ⟨_, ?_, HC6.out.grown hg7 (by simp)⟩, grownBy_trans HG6.out hg7, ?_, ?_, ?_⟩
    · rw [cntV_len]
    · have := HN6.out; have := HS6.out; omega
    · exact HB6.out.lt
    · have := HC6.out.lt; omega
  have HRV := Lib.hid hrv
  obtain ⟨B, hB⟩ : ∃ B, w6.heap.size = B := ⟨_, rfl⟩
  rw [hB] at HRV ⊢
  obtain ⟨w7, hw7⟩ : ∃ w7, w6.alloc (.cells #[.int .i64 (m : Int), .int .i64 (ag : Int), .slice (some ⟨G, 0, none⟩) (4 * m) (4 * m)] 40) = w7 := ⟨_, rfl⟩
  rw [hw7] at HRV ⊢
  clear hg7 hrv hB hw7 HB6 HN6 HC6 HG6 HS6
  go_loopw [7] (fun i wr => ∃ k : Nat, k ≤ 2 * m ∧ i = .int .i64 k ∧ RV w wr B m ag G) (fun i _ => 2 * m - (intOf i).toNat)
  case atStart => exact ⟨0, by omega, rfl, HRV.out⟩
  case round =>
    clear HRV
    obtain ⟨k, hk, rfl, hh⟩ := hrel
    have HH := Lib.hid hh
    clear hh
    by_cases hlt : k < 2 * m
    · have hd : decide ((k : Int) < 2 * (m : Int)) = true := decide_eq_true (by omega)
      have hkl : 6 + k < xs.length := by have := HLEN.out; omega
      have x0 := HH.out.sk.cell (j := 2) rfl
      have x1 := HH.out.grown.cell (HC.out (6 + k) hkl) (by simp)
      have hy := HBY.out (6 + k)
      obtain ⟨bt, hbt⟩ : ∃ bt, xs.getD (6 + k) 0 = bt := ⟨_, rfl⟩
      rw [hbt] at x1 hy
      have HBT := Lib.hid hbt
      clear hbt
      obtain ⟨vs, hvl, hvb⟩ := HH.out.cnt
      obtain ⟨u0, hu0⟩ : ∃ u, vs[2 * k]? = some u := ⟨_, List.getElem?_eq_getElem (by omega)⟩
      obtain ⟨u1, hu1⟩ : ∃ u, vs[2 * k + 1]? = some u := ⟨_, List.getElem?_eq_getElem (by omega)⟩
      have r0 := hvb.cell hu0
      have r1 := hvb.cell hu1
      have f0 := hvb.frozen (2 * k)
      have f1 := hvb.frozen (2 * k + 1)
      have HR0 := Lib.hid r0
      have HR1 := Lib.hid r1
      have HF0 := Lib.hid f0
      have HF1 := Lib.hid f1
      clear hvb hu0 hu1 hvl r0 r1 f0 f1
      obtain ⟨i2, hi2⟩ : ∃ i2, 2 * k = i2 := ⟨_, rfl⟩
      rw [hi2] at HR0 HR1 HF0 HF1
      have a1 : IntKind.i64.wrap (2 * (k : Int)) = (i2 : Int) := by rw [show 2 * (k : Int) = (i2 : Int) by omega]; exact IntWalk.i64_in _ ⟨by omega, by omega⟩
      have a2 : IntKind.i64.wrap ((i2 : Int) + 1) = (i2 : Int) + 1 := IntWalk.i64_in _ ⟨by omega, by omega⟩
      have a3 : IntKind.i64.wrap (6 + (k : Int)) = 6 + (k : Int) := IntWalk.i64_in _ ⟨by omega, by omega⟩
      have a4 : ((i2 : Int) + 1).toNat = i2 + 1 := by omega
      have a5 : (6 + (k : Int)).toNat = 6 + k := by omega
      have a6 : 0 ≤ 6 + (k : Int) := by omega
      have a7 : 0 ≤ (i2 : Int) + 1 := by omega
      have a8 : (i2 : Int) + 1 < 4 * (m : Int) := by omega
      have a9 : 6 + (k : Int) < (xs.length : Int) := by omega
      have aa : (i2 : Int) < 4 * (m : Int) := by omega
      have HI2 := Lib.hid hi2
      clear hi2
      go_wp2_with fail
      refine wp_region_planD (fun W => W.cell? ⟨B, 2, none⟩ = some (.slice (some ⟨G, 0, none⟩) (4 * m) (4 * m)) ∧ W.cell? ⟨b, o + (6 + k), none⟩ = some (.int .u8 (bt : Int))) [([0, 1, 2, 3, 4, 5, 6, 7, 8, 9, 10, 11, 12, 13, 14, 15, 16, 17, 18, 19, 20, 21, 22, 23], 24, true), ([25], 26, false)] (by kernel_rfl) (by kernel_rfl) ?_
      refine wpPlanD_seg ⟨x0, x1⟩ ?_
      repeat (apply wpReadD_step rfl (by rfl); (· intro wS hSw; (try have hSw := hSw rfl); (try dsimp only at hSw); (try obtain ⟨k0, k1⟩ := hSw); go_simp; (try with_reducible rfl)); try simp only [Act.put, List.setIfInBounds_toArray, List.set_cons_zero, List.set_cons_succ])
      refine wpReadD_nil ?_
      refine wpOp_list rfl (fun K hK => ?_)
      have r0 := HR0.out
      have f0 := HF0.out
      go_simp
      clear r0 f0
      generalize Value.int .i64 ((IntKind.i64.wrap (bt : Int)).tmod 16) = v1 at *
      have g8 : wr.grownBy ((wr.setCell ⟨G, i2, none⟩ v1).drew) (some G) := grownBy_trans (grownBy_setCell wr ⟨G, i2, none⟩ v1) (grownBy_drewN _ 1 (some G))
      have hh8 : RV w ((wr.setCell ⟨G, i2, none⟩ v1).drew) B m ag G := (HH.out.set i2 v1).later (grownBy_drewN _ 1 none)
      have HH8 := Lib.hid hh8
      have hne := HH.out.newG
      have x8 := HH8.out.sk.cell (j := 2) rfl
      have y8 := HH8.out.grown.cell (HC.out (6 + k) hkl) (by simp)
      have HX8 := Lib.hid (And.intro x8 y8)
      refine hK _ _ ⟨fun _ => ⟨x8, by rw [y8, HBT.out]⟩, ?_⟩
      clear hK K x0 x1 hh8 g8 y8
      generalize (wr.setCell ⟨G, i2, none⟩ v1).drew = w8 at *
      try simp only [Act.put, List.setIfInBounds_toArray, List.set_cons_zero, List.set_cons_succ]
      refine wpPlanD_seg ⟨x8, by rw [HX8.out.2, HBT.out]⟩ ?_
      repeat (apply wpReadD_step rfl (by rfl); (· intro wS hSw; (try have hSw := hSw rfl); (try dsimp only at hSw); (try obtain ⟨k0, k1⟩ := hSw); go_simp; (try with_reducible rfl)); try simp only [Act.put, List.setIfInBounds_toArray, List.set_cons_zero, List.set_cons_succ])
      refine wpReadD_nil ?_
      refine wpOp_list rfl (fun K hK => ?_)
      obtain ⟨vs, hvl, hvb⟩ := HH8.out.cnt
      obtain ⟨u1, hu1⟩ : ∃ u, vs[i2 + 1]? = some u := ⟨_, List.getElem?_eq_getElem (by omega)⟩
      have r1 := hvb.cell hu1
      have f1 := hvb.frozen (i2 + 1)
      go_simp
      clear r1 f1 hu1 hvl hvb
      refine hK _ _ ⟨fun hf => (by cases hf), ?_⟩
      clear hK K x8
      try simp only [Act.put, List.setIfInBounds_toArray, List.set_cons_zero, List.set_cons_succ]
      refine wpPlanD_nil (NoPanic.normal ?_)
      go_wp2_with fail
      refine ⟨⟨k + 1, by omega, by go_num, HH8.out.set (i2 + 1) _⟩, by simp [intOf]; omega⟩
    · obtain rfl : k = 2 * m := by omega
      have hd : decide (((2 * m : Nat) : Int) < 2 * (m : Int)) = false := decide_eq_false (by omega)
      have z0 := HH.out.res.cell (j := 0) rfl
      have z1 := HH.out.res.cell (j := 1) rfl
      have z2 := HH.out.res.cell (j := 2) rfl
      have y0 := HH.out.res.frozen 0
      have y1 := HH.out.res.frozen 1
      have y2 := HH.out.res.frozen 2
      have b0 := HH.out.sk.cell (j := 0) rfl
      have b1 := HH.out.sk.cell (j := 1) rfl
      have b2 := HH.out.sk.cell (j := 2) rfl
      have hb1 := ((HH.out.res.setCell 0 (.int .i64 (m : Int))).setCell 1 (.int .i64 (ag : Int))).setCell 2 (.slice (some ⟨G, 0, none⟩) (4 * m) (4 * m))
      have HE := Lib.hid hb1
      have HEND := Lib.hid (grownBy_base2 (grownBy_base2 (grownBy_base2 HH.out.grown (grownBy_setCell wr ⟨w.heap.size, 0, none⟩ (.int .i64 (m : Int))) (Nat.le_refl _)) (grownBy_setCell _ ⟨w.heap.size, 1, none⟩ (.int .i64 (ag : Int))) (Nat.le_refl _)) (grownBy_setCell _ ⟨w.heap.size, 2, none⟩ (.slice (some ⟨G, 0, none⟩) (4 * m) (4 * m))) (Nat.le_refl _))
      clear hb1
      go_wp2_with fail
      clear y0 y1 y2 z0 z1 z2 b0 b1 b2
      have z0 := HE.out.cell (j := 0) rfl
      have z1 := HE.out.cell (j := 1) rfl
      have z2 := HE.out.cell (j := 2) rfl
      exact bodyPost_ret (v := .tuple #[rvV m ag G (4 * m), .int .i64 0]) (by simp [results, Try.results18, go_sem, z0, z1, z2, rvV]) rfl ⟨G, 4 * m, rfl, HEND.out⟩
end

end Go.Proofs.Ytfdkncabicmmiaa
