/- package bucket: Pack. -/
import Derived.Test.YtddpjfmogjcimaaBkRt
import Derived.Test.YtddpjfmogjcimaaBkHP
import Derived.Test.YtddpjfmogjcimaaWriterN
import Derived.Test.YtddpjfmogjcimaaWriterB
namespace Go.Proofs.Ytddpjfmogjcimaa
open Go.RowKit

/-- An entry's bytes; a bucket's head; its load up to some entry. -/
def packE (x : Ent) : List Nat := ((numB x.h.toNat 8 ++ numB x.r.toNat 8) ++ numB x.a.toNat 2) ++ numB x.s.toNat 2
def packH (d p : Int) (n : Nat) : List Nat := (numB d.toNat 1 ++ numB n 1) ++ numB p.toNat 8
def packK (d p : Int) (xs : List Ent) (k : Nat) : List Nat := packH d p xs.length ++ (xs.take k).flatMap packE
def packL (d p : Int) (xs : List Ent) : List Nat := packK d p xs xs.length
theorem packH_len (d p : Int) (n : Nat) : (packH d p n).length = 10 := by simp [packH, numB_len]
theorem packE_len (x : Ent) : (packE x).length = 20 := by simp [packE, numB_len]
theorem packK_len (d p : Int) (xs : List Ent) : ∀ k, k ≤ xs.length → (packK d p xs k).length = 10 + 20 * k
  | 0, _ => by simp [packK, packH_len]
  | k + 1, h => by
    have ih := packK_len d p xs k (by omega)
    unfold packK at *
    rw [List.length_append] at *
    rw [ent_take xs k h, List.flatMap_append, List.length_append]
    simp only [List.flatMap_cons, List.flatMap_nil, List.append_nil, packE_len]
    omega
theorem packK_zero (d p : Int) (xs : List Ent) : packK d p xs 0 = packH d p xs.length := by simp [packK]
theorem packK_next (d p : Int) (xs : List Ent) (k : Nat) (h : k < xs.length) : packK d p xs (k + 1) = ((((packK d p xs k ++ numB (xs.getD k Ent.zero).h.toNat 8) ++ numB (xs.getD k Ent.zero).r.toNat 8) ++ numB (xs.getD k Ent.zero).a.toNat 2) ++ numB (xs.getD k Ent.zero).s.toNat 2) := by
  unfold packK
  rw [ent_take xs k h, List.flatMap_append]
  simp [packE]
theorem packE_small (x : Ent) : ∀ y ∈ packE x, y < 256 := by
  intro y hy
  unfold packE at hy
  simp only [List.mem_append] at hy
  rcases hy with ((hy | hy) | hy) | hy
  all_goals exact numB_lt _ _ y hy
theorem packL_small (d p : Int) (xs : List Ent) : ∀ y ∈ packL d p xs, y < 256 := by
  intro y hy
  unfold packL packK packH at hy
  simp only [List.mem_append, List.mem_flatMap] at hy
  rcases hy with ((hy | hy) | hy) | ⟨x, _, hy⟩
  · exact numB_lt _ _ y hy
  · exact numB_lt _ _ y hy
  · exact numB_lt _ _ y hy
  · exact packE_small x y hy

/-- A writer that is not full, in memory of its own. -/
structure PW (w0 w : World) (B : Nat) (v : Value) (xs : List Nat) (lim : Int) : Prop where
  wr : WR w B v xs lim false
  newW : ∀ k, WOwn B v k → w0.heap.size ≤ k
  grown : w0.grownBy w none
theorem PW.later {w0 w w' : World} {B : Nat} {v : Value} {xs : List Nat} {lim : Int} (h : PW w0 w B v xs lim) (hg : w.grownBy w' none) : PW w0 w' B v xs lim := ⟨h.wr.grown hg, h.newW, grownBy_trans h.grown hg⟩
theorem PW.num {w0 w : World} {B : Nat} {v : Value} {xs : List Nat} {lim : Int} (h : PW w0 w B v xs lim) (n k : Nat) (hn : n < 18446744073709551616) (hk : mayB k = true) (hroom : (xs.length : Int) + k ≤ lim) (hy : xs.length ≤ 49000000) :
    Calls Try.prog 48 #[.pointer (some ⟨B, 0, none⟩), .int .u64 n, .int .i64 k] w fun e w' => ∃ v', e = .returned (.tuple #[]) ∧ PW w0 w' B v' (xs ++ numB n k) lim ∧ ∀ b t vs, Blk w b t vs → ¬ WOwn B v b → Blk w' b t vs ∧ ¬ WOwn B v' b := by
  refine (wnumber_any B v xs lim false n k w h.wr hn hy).mono ?_
  rintro e w' ⟨v', rfl, hw, ht, hs⟩
  have hp : putNum xs lim false n k = (xs ++ numB n k, false) := by
    unfold putNum putW
    rw [if_pos hk, Int.toNat_natCast, if_neg]
    rw [numB_len]
    intro hc
    rcases hc with hc | hc
    · cases hc
    · omega
  rw [hp] at hw
  refine ⟨v', rfl, ⟨hw, fun j hj => ?_, ht.grown h.grown h.newW⟩, fun b t vs hb hno => ⟨ht.blk hb hno, fun hw' => ?_⟩⟩
  · rcases hs j hj with h1 | h1
    · exact h.newW j h1
    · exact Nat.le_trans h.grown.size h1
  · rcases hs b hw' with h1 | h1
    · exact hno h1
    · have := hb.lt
      omega

theorem rightB_all {d p slots : Int} {xs : List Ent} (h : rightB d p slots xs = true) : ∀ k, k < xs.length → (0 ≤ (xs.getD k Ent.zero).r ∧ (xs.getD k Ent.zero).r ≤ 1099511627776 ∧ 0 ≤ (xs.getD k Ent.zero).a ∧ (xs.getD k Ent.zero).a ≤ 65535 ∧ 0 ≤ (xs.getD k Ent.zero).s ∧ (xs.getD k Ent.zero).s ≤ 65535) := by
  intro k hk
  have h1 := (rightB_iff.1 h).2.1 (xs.getD k Ent.zero) (by rw [List.getD_eq_getElem?_getD, List.getElem?_eq_getElem hk, Option.getD_some]; exact List.getElem_mem hk)
  unfold okE at h1
  rw [Bool.and_eq_true] at h1
  exact of_decide_eq_true h1.1
set_option maxRecDepth 100000 in
theorem rightB_head2 {d p slots : Int} {xs : List Ent} (h : rightB d p slots xs = true) : 1 ≤ slots ∧ slots ≤ 255 ∧ (xs.length : Int) ≤ slots ∧ 0 ≤ d ∧ d ≤ 8 ∧ 0 ≤ p ∧ p < 256 := by
  unfold rightB headB at h
  rw [Bool.and_eq_true] at h
  have h1 := of_decide_eq_true h.1
  obtain ⟨n, hn⟩ := Int.eq_ofNat_of_zero_le (show 0 ≤ d by omega)
  have h2 : 2 ^ n ≤ 256 := pow8 n (by omega)
  have h3 := h1.2.2.2.2.2.2
  rw [hn, Int.toNat_natCast] at h3
  have : p < 256 := by
    have : (2 : Int) ^ n ≤ 256 := by exact_mod_cast h2
    omega
  omega

set_option maxRecDepth 100000 in
set_option maxHeartbeats 8000000 in
theorem bpack_no (d p slots : Int) (xs : List Ent) (a : Option Addr) (c : Nat) (w : World) (hr : Rds w 4 (.slice a xs.length c) xs.length (entsV xs)) (hB : rightB d p slots xs = false) :
    Calls Try.prog 20 #[.agg #[.int .i64 d, .int .i64 p, .slice a xs.length c], .int .i64 slots] w fun e w' => e = .returned (.tuple #[.slice none 0 0, .int .i64 5]) ∧ w.grownBy w' none := by
  have hbr := fun W hW => bright_any d p slots xs a c W hW
  rw [hB] at hbr
  have HBR := Lib.hid hbr
  have HR := Lib.hid hr
  clear hbr hr hB
  go_enter Try.func20, Try.ntmps20
  go_wp2_with fail
  refine (HBR.out _ (HR.out.alloc _)).mono ?_
  rintro e w1 ⟨rfl, g1⟩
  go_wp2
  refine bodyPost_ret (v := .tuple #[.slice none 0 0, .int .i64 5]) (by simp [results, Try.results20, go_sem]) rfl ?_
  exact ⟨rfl, grownBy_trans (World.grownBy_alloc _ _ none) g1⟩

set_option maxRecDepth 100000 in
set_option maxHeartbeats 8000000 in
theorem bpack_yes (d p slots : Int) (xs : List Ent) (a : Option Addr) (c : Nat) (w : World) (hr : Rds w 4 (.slice a xs.length c) xs.length (entsV xs)) (hB : rightB d p slots xs = true) :
    Calls Try.prog 20 #[.agg #[.int .i64 d, .int .i64 p, .slice a xs.length c], .int .i64 slots] w fun e w' => ∃ a' c', e = .returned (.tuple #[.slice a' (packL d p xs).length c', .int .i64 0]) ∧ w'.ownsRow w.heap.size 5 1 (.slice a' (packL d p xs).length c') (packL d p xs).length (bytesV (packL d p xs)) ∧ w.grownBy w' none := by
  obtain ⟨hs1, hs2, hls, hd0, hd8, hp0, hp1⟩ := rightB_head2 hB
  have HALL := Lib.hid (rightB_all hB)
  have hbr := fun W hW => bright_any d p slots xs a c W hW
  rw [hB] at hbr
  have HBR := Lib.hid hbr
  have HR := Lib.hid hr
  clear hbr hr hB
  obtain ⟨dn, rfl⟩ := Int.eq_ofNat_of_zero_le hd0
  obtain ⟨pn, rfl⟩ := Int.eq_ofNat_of_zero_le hp0
  obtain ⟨sn, rfl⟩ := Int.eq_ofNat_of_zero_le (show 0 ≤ slots by omega)
  have hwd : IntKind.u64.wrap (dn : Int) = dn := by rw [IntKind.wrap_u64]; omega
  have hwp : IntKind.u64.wrap (pn : Int) = pn := by rw [IntKind.wrap_u64]; omega
  have hwl : IntKind.u64.wrap (xs.length : Int) = xs.length := by rw [IntKind.wrap_u64]; omega
  have HK := Lib.hid (packK_len (dn : Int) (pn : Int) xs)
  have HN := Lib.hid (packK_next (dn : Int) (pn : Int) xs)
  have HH := Lib.hid (packK_zero (dn : Int) (pn : Int) xs)
  go_enter Try.func20, Try.ntmps20
  go_wp2_with fail
  refine (HBR.out _ (HR.out.alloc _)).mono ?_
  rintro e w1 ⟨rfl, g1⟩
  have hb := (Blk.new w 29 [.int .i64 dn, .int .i64 pn, .slice a xs.length c]).grown g1 (by simp)
  have hlt1 : w.heap.size < w1.heap.size := hb.lt
  have G1 := Lib.hid (grownBy_trans (World.grownBy_alloc w (.cells #[.int .i64 dn, .int .i64 pn, .slice a xs.length c] 29) none) g1)
  have HB := Lib.hid hb
  have b0 := hb.cell (j := 0) rfl
  clear hb g1 HBR
  go_wp2_with fail
  refine (newWriter_any _ (by omega) _).mono ?_
  rintro e w2 ⟨rfl, hw2, g2⟩
  rw [if_pos (show (0 : Int) ≤ 10 + 20 * (sn : Int) by omega)] at hw2
  obtain ⟨L, hL⟩ : ∃ L : Int, 10 + 20 * (sn : Int) = L := ⟨_, rfl⟩
  rw [hL] at hw2
  have hL2 : 10 + 20 * (xs.length : Int) ≤ L := by omega
  have hpw : PW w1 w2 w1.heap.size (.slice none 0 0) [] L := ⟨hw2, fun k hk => by
    rcases hk with h | h
    · omega
    · simp [Value.ownBlock] at h, g2⟩
  have P2 := Lib.hid hpw
  clear hw2 hpw g2 hL
  have b0 := ((HB.out.grown P2.out.grown (by simp)).cell (j := 0) rfl)
  go_wp2_with fail
  refine (P2.out.num dn 1 (by omega) (by decide) (by simp; omega) (by simp)).mono ?_
  rintro e w3 ⟨v3, rfl, p3, _⟩
  have P3 := Lib.hid p3
  clear p3 P2
  have b2 := ((HB.out.grown P3.out.grown (by simp)).cell (j := 2) rfl)
  go_wp2_with fail
  refine (P3.out.num xs.length 1 (by omega) (by decide) (by simp [numB_len]; omega) (by simp [numB_len])).mono ?_
  rintro e w4 ⟨v4, rfl, p4, _⟩
  have P4 := Lib.hid p4
  clear p4 P3
  have b1 := ((HB.out.grown P4.out.grown (by simp)).cell (j := 1) rfl)
  go_wp2_with fail
  refine (P4.out.num pn 8 (by omega) (by decide) (by simp [numB_len]; omega) (by simp [numB_len])).mono ?_
  rintro e w5 ⟨v5, rfl, p5, _⟩
  have hh : ([] ++ numB dn 1 ++ numB xs.length 1) ++ numB pn 8 = packK (dn : Int) (pn : Int) xs 0 := by
    rw [HH.out]; simp [packH]
  rw [hh] at p5
  have P5 := Lib.hid p5
  clear p5 P4 hh b0 b1 HH
  have b2 := ((HB.out.grown P5.out.grown (by simp)).cell (j := 2) rfl)
  go_wp2
  have hlm := HR.out.2.1
  unfold maxLen at hlm
  clear b2
  go_loopw [36] (fun i wr => ∃ (k : Nat) (v : Value), k ≤ xs.length ∧ i = .int .i64 k ∧ PW w1 wr w1.heap.size v (packK (dn : Int) (pn : Int) xs k) L) (fun i _ => xs.length - (intOf i).toNat)
  case atStart => exact ⟨0, _, by omega, rfl, P5.out⟩
  case round =>
    obtain ⟨k, v, hk, rfl, hpw⟩ := hrel
    have HP := Lib.hid hpw
    have hgr := hpw.grown
    clear hpw
    by_cases hlt : k < xs.length
    · obtain ⟨b, o, rfl, hc⟩ := (HR.out.grown G1.out (by simp)).at' (by omega)
      obtain ⟨e0, e1, e2, e3⟩ := entsV_cells xs k hlt
      have x0 := hgr.cell (hc _ _ e0) (by simp)
      have x1 := hgr.cell (hc _ _ e1) (by simp)
      have x2 := hgr.cell (hc _ _ e2) (by simp)
      have x3 := hgr.cell (hc _ _ e3) (by simp)
      simp only [← Nat.add_assoc] at x1 x2 x3
      have hn := HN.out k hlt
      have hkl := HK.out k (by omega)
      obtain ⟨q0, q1, q2, q3, q4, q5⟩ := HALL.out k hlt
      clear hc e0 e1 e2 e3 hgr
      generalize xs.getD k Ent.zero = x at *
      obtain ⟨rn, hrn⟩ := Int.eq_ofNat_of_zero_le q0
      obtain ⟨an, han⟩ := Int.eq_ofNat_of_zero_le q2
      obtain ⟨sz, hsz⟩ := Int.eq_ofNat_of_zero_le q4
      have hUx : U x.h = (x.h.toNat : Int) := rfl
      rw [hrn] at x1 q1
      rw [han] at x2 q3
      rw [hsz] at x3 q5
      rw [hUx] at x0
      have hxl := x.h.isLt
      rw [hrn, han, hsz, Int.toNat_natCast, Int.toNat_natCast, Int.toNat_natCast] at hn
      have HNX := Lib.hid hn
      generalize hst : packK (dn : Int) (pn : Int) xs k = st at *
      have w1' : IntKind.u64.wrap (rn : Int) = rn := by rw [IntKind.wrap_u64]; omega
      have w2' : IntKind.u64.wrap (an : Int) = an := by rw [IntKind.wrap_u64]; omega
      have w3' : IntKind.u64.wrap (sz : Int) = sz := by rw [IntKind.wrap_u64]; omega
      clear q0 q2 q4 hrn han hsz hn hUx hst
      go_wp2_with fail
      have hbx : Blk (wr.alloc (.cells #[.int .u64 (x.h.toNat : Int), .int .i64 rn, .int .i64 an, .int .i64 sz] 41)) wr.heap.size 41 [.int .u64 (x.h.toNat : Int), .int .i64 rn, .int .i64 an, .int .i64 sz] := Blk.new wr _ _
      have hnx : ¬ WOwn w1.heap.size v wr.heap.size := fun h => by have := HP.out.wr.lt _ h; omega
      have Q0 := Lib.hid (HP.out.later (World.grownBy_alloc wr (.cells #[.int .u64 (x.h.toNat : Int), .int .i64 rn, .int .i64 an, .int .i64 sz] 41) none))
      clear x0 x1 x2 x3 HP
      refine (Q0.out.num x.h.toNat 8 (by omega) (by decide) (by (try simp [numB_len]); omega) (by (try simp [numB_len]); omega)).mono ?_
      rintro e y1 ⟨u1, rfl, p1, k1⟩
      obtain ⟨hb1, hno1⟩ := k1 _ _ _ hbx hnx
      have Q1 := Lib.hid p1
      clear k1 p1 hbx hnx
      have hbx := hb1
      have hnx := hno1
      clear hb1 hno1
      have x0 := hbx.cell (j := 0) rfl
      have x1 := hbx.cell (j := 1) rfl
      have x2 := hbx.cell (j := 2) rfl
      have x3 := hbx.cell (j := 3) rfl
      go_wp2_with fail
      refine (Q1.out.num rn 8 (by omega) (by decide) (by (try simp [numB_len]); omega) (by (try simp [numB_len]); omega)).mono ?_
      rintro e y2 ⟨u2, rfl, p2, k2⟩
      obtain ⟨hb2, hno2⟩ := k2 _ _ _ hbx hnx
      have Q2 := Lib.hid p2
      clear k2 p2 hbx hnx
      have hbx := hb2
      have hnx := hno2
      clear hb2 hno2
      have x0 := hbx.cell (j := 0) rfl
      have x1 := hbx.cell (j := 1) rfl
      have x2 := hbx.cell (j := 2) rfl
      have x3 := hbx.cell (j := 3) rfl
      go_wp2_with fail
      refine (Q2.out.num an 2 (by omega) (by decide) (by (try simp [numB_len]); omega) (by (try simp [numB_len]); omega)).mono ?_
      rintro e y3 ⟨u3, rfl, p3, k3⟩
      obtain ⟨hb3, hno3⟩ := k3 _ _ _ hbx hnx
      have Q3 := Lib.hid p3
      clear k3 p3 hbx hnx
      have hbx := hb3
      have hnx := hno3
      clear hb3 hno3
      have x0 := hbx.cell (j := 0) rfl
      have x1 := hbx.cell (j := 1) rfl
      have x2 := hbx.cell (j := 2) rfl
      have x3 := hbx.cell (j := 3) rfl
      go_wp2_with fail
      refine (Q3.out.num sz 2 (by omega) (by decide) (by (try simp [numB_len]); omega) (by (try simp [numB_len]); omega)).mono ?_
      rintro e y4 ⟨u4, rfl, p4, k4⟩
      obtain ⟨hb4, hno4⟩ := k4 _ _ _ hbx hnx
      have Q4 := Lib.hid p4
      clear k4 p4 hbx hnx
      have hbx := hb4
      have hnx := hno4
      clear hb4 hno4
      have x0 := hbx.cell (j := 0) rfl
      have x1 := hbx.cell (j := 1) rfl
      have x2 := hbx.cell (j := 2) rfl
      have x3 := hbx.cell (j := 3) rfl
      have hq4 := Q4.out
      rw [← HNX.out] at hq4
      have Q5 := Lib.hid hq4
      clear hq4 hbx hnx x0 x1 x2 x3
      go_wp2
      go_roundw
      case rel => exact ⟨k + 1, _, by omega, by go_num, Q5.out⟩
      case measure => simp [intOf]; omega
    · obtain rfl : k = xs.length := by omega
      clear hgr
      go_wp2_with fail
      refine (wbytes_any _ _ _ _ _ _ HP.out.wr).mono ?_
      rintro e w6 ⟨a6, c6, rfl, o6, g6⟩
      have g := grownBy_trans (grownBy_trans G1.out HP.out.grown) g6
      have O6 := Lib.hid (ownsRow_mono o6 (grownBy_trans G1.out HP.out.grown).size)
      have GG := Lib.hid g
      clear o6 g6 g
      go_wp2
      refine bodyPost_ret (v := .tuple #[.slice a6 (packL (dn : Int) (pn : Int) xs).length c6, .int .i64 0]) (by simp [results, Try.results20, go_sem, packL]) rfl ?_
      exact ⟨a6, c6, rfl, O6.out, GG.out⟩

end Go.Proofs.Ytddpjfmogjcimaa
