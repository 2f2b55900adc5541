/- The reference's Pack of a bucket. -/
import Derived.Test.YtddpjfmogjcimaaBkPk
namespace Go.Proofs.Ytddpjfmogjcimaa
open Go.RowKit

/-- A row of bytes of the call's own. -/
structure RowB (base : Nat) (w0 w : World) (v : Value) (xs : List Nat) : Prop where
  own : w.ownsRow base 5 1 v xs.length (bytesV xs)
  grown : w0.grownBy w none
  new : w0.heap.size ≤ base
  size : base ≤ w.heap.size
theorem RowB.later {base : Nat} {w0 w w' : World} {v : Value} {xs : List Nat} (h : RowB base w0 w v xs) (hg : w.grownBy w' none) : RowB base w0 w' v xs := ⟨owns_grown h.own hg, grownBy_trans h.grown hg, h.new, Nat.le_trans h.size hg.size⟩
theorem RowB.app {base : Nat} {w0 w wn w' : World} {v v' : Value} {xs zs : List Nat} (h : RowB base w0 w v xs) (hg : w.grownBy wn none) (ho : w'.ownsRow base 5 1 v' zs.length (bytesV zs)) (h2 : wn.grownBy w' v.ownBlock) : RowB base w0 w' v' zs :=
  ⟨ho, grownBy_own2 (grownBy_trans h.grown hg) (owns_grown h.own hg) h.new h2, h.new, Nat.le_trans (Nat.le_trans h.size hg.size) h2.size⟩
theorem RowB.keep {base : Nat} {w0 w wn w' : World} {v v' : Value} {xs : List Nat} (h : RowB base w0 w v xs) (hg : w.grownBy wn none) (h2 : wn.grownBy w' v.ownBlock) (h3 : v'.ownBlock = v.ownBlock ∨ v'.ownBlock = some wn.heap.size) {b : Nat} {t : TypeId} {vs : List Value} (hb : Blk w b t vs) (hne : v.ownBlock ≠ some b) : Blk w' b t vs ∧ v'.ownBlock ≠ some b := by
  have h4 := hb.grown hg (by simp)
  refine ⟨h4.grown h2 (Ne.symm hne), fun e => ?_⟩
  rcases h3 with h5 | h5
  · exact hne (h5 ▸ e)
  · rw [h5] at e
    have := h4.lt
    simp at e
    omega
theorem RowB.apart {base : Nat} {w0 w : World} {v : Value} {xs : List Nat} (h : RowB base w0 w v xs) {b : Nat} (hb : w.heap.size ≤ b) : v.ownBlock ≠ some b := fun e => by
  have := (h.own.lt b e).2
  omega

set_option maxRecDepth 100000 in
set_option maxHeartbeats 8000000 in
theorem rpack_no (d p slots : Int) (xs : List Ent) (a : Option Addr) (c : Nat) (w : World) (hr : Rds w 4 (.slice a xs.length c) xs.length (entsV xs)) (hB : rightB d p slots xs = false) :
    Calls Try.prog 21 #[.agg #[.int .i64 d, .int .i64 p, .slice a xs.length c], .int .i64 slots] w fun e w' => e = .returned (.tuple #[.slice none 0 0, .int .i64 5]) ∧ w.grownBy w' none := by
  have hbr := fun W hW => rright_any d p slots xs a c W hW
  rw [hB] at hbr
  have HBR := Lib.hid hbr
  have HR := Lib.hid hr
  clear hbr hr hB
  go_enter Try.func21, Try.ntmps21
  go_wp2_with fail
  refine (HBR.out _ (HR.out.alloc _)).mono ?_
  rintro e w1 ⟨rfl, g1⟩
  go_wp2
  refine bodyPost_ret (v := .tuple #[.slice none 0 0, .int .i64 5]) (by simp [results, Try.results21, go_sem]) rfl ?_
  exact ⟨rfl, grownBy_trans (World.grownBy_alloc _ _ none) g1⟩

theorem numB_one (n : Nat) (h : n < 256) : numB n 1 = [n] := by
  simp [numB, upto, byN, Nat.mod_eq_of_lt h]

set_option maxRecDepth 100000 in
set_option maxHeartbeats 16000000 in
theorem rpack_yes (d p slots : Int) (xs : List Ent) (a : Option Addr) (c : Nat) (w : World) (hr : Rds w 4 (.slice a xs.length c) xs.length (entsV xs)) (hB : rightB d p slots xs = true) :
    Calls Try.prog 21 #[.agg #[.int .i64 d, .int .i64 p, .slice a xs.length c], .int .i64 slots] w fun e w' => ∃ a' c', e = .returned (.tuple #[.slice a' (packL d p xs).length c', .int .i64 0]) ∧ Rds w' 1 (.slice a' (packL d p xs).length c') (packL d p xs).length (bytesV (packL d p xs)) ∧ w.grownBy w' none := by
  obtain ⟨i0, hi, hz0, hz1, hz2⟩ := info_parts infoByte
  obtain ⟨hs1, hs2, hls, hd0, hd8, hp0, hp1⟩ := rightB_head2 hB
  have HALL := Lib.hid (rightB_all hB)
  have hbr := fun W hW => rright_any d p slots xs a c W hW
  rw [hB] at hbr
  have HBR := Lib.hid hbr
  have HR := Lib.hid hr
  clear hbr hr hB
  obtain ⟨dn, rfl⟩ := Int.eq_ofNat_of_zero_le hd0
  obtain ⟨pn, rfl⟩ := Int.eq_ofNat_of_zero_le hp0
  have hwd : IntKind.u8.wrap (dn : Int) = dn := by rw [IntKind.wrap_u8]; omega
  have hwp : IntKind.u64.wrap (pn : Int) = pn := by rw [IntKind.wrap_u64]; omega
  have hwl : IntKind.u8.wrap (xs.length : Int) = xs.length := by rw [IntKind.wrap_u8]; omega
  have HK := Lib.hid (packK_len (dn : Int) (pn : Int) xs)
  have HN := Lib.hid (packK_next (dn : Int) (pn : Int) xs)
  have HH := Lib.hid (packK_zero (dn : Int) (pn : Int) xs)
  go_enter Try.func21, Try.ntmps21
  go_wp2_with fail
  refine (HBR.out _ (HR.out.alloc _)).mono ?_
  rintro e w1 ⟨rfl, g1⟩
  have hb := (Blk.new w 24 [.int .i64 dn, .int .i64 pn, .slice a xs.length c]).grown g1 (by simp)
  have hlt1 : w.heap.size < w1.heap.size := hb.lt
  have G1 := Lib.hid (grownBy_trans (World.grownBy_alloc w (.cells #[.int .i64 dn, .int .i64 pn, .slice a xs.length c] 24) none) g1)
  have HB := Lib.hid hb
  have b0 := hb.cell (j := 0) rfl
  have b1 := hb.cell (j := 1) rfl
  have b2 := hb.cell (j := 2) rfl
  clear hb g1 HBR
  go_wp2_with fail
  have hst : numB dn 1 ++ numB xs.length 1 = [dn, xs.length] := by rw [numB_one _ (by omega), numB_one _ (by omega)]; rfl
  have rk : RowB w1.heap.size w1 (w1.alloc (.cells #[.int .u8 dn, .int .u8 xs.length] 5)) (.slice (some ⟨w1.heap.size, 0, none⟩) 2 2) [dn, xs.length] :=
    ⟨⟨rfl, .inr ⟨w1.heap.size, 2, #[.int .u8 dn, .int .u8 xs.length], rfl, Nat.le_refl _, World.alloc_heap_new w1 _, Nat.le_refl _, by unfold maxLen; omega, rfl, rfl⟩⟩, World.grownBy_alloc _ _ none, Nat.le_refl _, by simp⟩
  obtain ⟨st, hst2⟩ : ∃ st, [dn, xs.length] = st := ⟨_, rfl⟩
  have hsl : st.length = 2 := by rw [← hst2]; rfl
  rw [hst2] at rk hst
  have RK := Lib.hid rk
  clear rk hst2
  have hs0 : st ++ numB pn 8 = packK (dn : Int) (pn : Int) xs 0 := by rw [HH.out, ← hst]; simp [packH]
  have hl0 := HK.out 0 (by omega)
  obtain ⟨s0, hs00⟩ : ∃ s0, packK (dn : Int) (pn : Int) xs 0 = s0 := ⟨_, rfl⟩
  rw [hs00] at hs0 hl0
  refine (rnumber_any pn 8 (by omega) (by omega) _).mono ?_
  rintro e n0 ⟨an0, cn0, rfl, on0, gn0⟩
  have RN := Lib.hid (Rds.of_owns on0)
  have GN := Lib.hid gn0
  have OK := Lib.hid (owns_grown RK.out.own gn0)
  rw [hsl] at OK
  clear on0 gn0
  go_wp2_with (at_builtin; refine wpList_append_rds_at rfl _ _ 47 rfl w1.heap.size 5 i0 (.int .u8 0) 1 1 Try.underlying47 hi hz0 hz1 hz2 rfl (by decide) (v := .slice (some ⟨w1.heap.size, 0, none⟩) 2 2) (n := 2) (xs := bytesV (st)) (sv := .slice an0 8 cn0) rfl OK.out rfl RN.out (bytesV_one _) (by unfold maxLen; omega) (by omega) (Nat.le_trans RK.out.size GN.out.size) ?_; intro vp w0x h1 h2 h3; rw [← bytesV_app, hs0, show 2 + 8 = s0.length by omega] at h1; obtain ⟨a0, c0, rfl⟩ := (Rds.of_owns h1).slice; have RK0 := Lib.hid (RK.out.app GN.out h1 h2); clear h1 h2 h3 RK OK RN GN)
  have RK := RK0
  clear RK0
  rw [← hs00] at RK
  clear hst hsl hs0 hs00 HH b0 b1
  have hlm := HR.out.2.1
  unfold maxLen at hlm
  clear b2
  go_loopw [6, 7] (fun y i wr => ∃ (k : Nat) (ay : Option Addr) (cy : Nat), k ≤ xs.length ∧ i = .int .i64 k ∧ y = .slice ay (packK (dn : Int) (pn : Int) xs k).length cy ∧ RowB w1.heap.size w1 wr (.slice ay (packK (dn : Int) (pn : Int) xs k).length cy) (packK (dn : Int) (pn : Int) xs k)) (fun _ i _ => xs.length - (intOf i).toNat)
  case atStart => exact ⟨0, a0, c0, by omega, rfl, rfl, RK.out⟩
  case round =>
    clear RK hl0
    obtain ⟨k, ay, cy, hk, rfl, rfl, hrk⟩ := hrel
    have b2 := ((HB.out.grown hrk.grown (by simp)).cell (j := 2) rfl)
    have RK := Lib.hid hrk
    have hgr := hrk.grown
    clear hrk
    by_cases hlt : k < xs.length
    · obtain ⟨b, o, rfl, hc⟩ := (HR.out.grown G1.out (by simp)).at' (by omega)
      obtain ⟨e0, e1, e2, e3⟩ := entsV_cells xs k hlt
      have x0 := hgr.cell (hc _ _ e0) (by simp)
      have x1 := hgr.cell (hc _ _ e1) (by simp)
      have x2 := hgr.cell (hc _ _ e2) (by simp)
      have x3 := hgr.cell (hc _ _ e3) (by simp)
      simp only [← Nat.add_assoc] at x1 x2 x3
      have hn := HN.out k hlt
      have hkl := HK.out k (by omega)
      obtain ⟨q0, q1, q2, q3, q4, q5⟩ := HALL.out k hlt
      clear hc e0 e1 e2 e3 hgr
      generalize xs.getD k Ent.zero = x at *
      obtain ⟨rn, hrn⟩ := Int.eq_ofNat_of_zero_le q0
      obtain ⟨an, han⟩ := Int.eq_ofNat_of_zero_le q2
      obtain ⟨sz, hsz⟩ := Int.eq_ofNat_of_zero_le q4
      have hUx : U x.h = (x.h.toNat : Int) := rfl
      rw [hrn] at x1 q1
      rw [han] at x2 q3
      rw [hsz] at x3 q5
      rw [hUx] at x0
      have hxl := x.h.isLt
      rw [hrn, han, hsz, Int.toNat_natCast, Int.toNat_natCast, Int.toNat_natCast] at hn
      obtain ⟨st, hst⟩ : ∃ st, packK (dn : Int) (pn : Int) xs k = st := ⟨_, rfl⟩
      rw [hst] at hn RK hkl ⊢
      have HNX := Lib.hid hn
      have hb0 : st.length ≤ 5200 := by omega
      clear hkl
      have w1' : IntKind.u64.wrap (rn : Int) = rn := by rw [IntKind.wrap_u64]; omega
      have w2' : IntKind.u64.wrap (an : Int) = an := by rw [IntKind.wrap_u64]; omega
      have w3' : IntKind.u64.wrap (sz : Int) = sz := by rw [IntKind.wrap_u64]; omega
      clear q0 q2 q4 hrn han hsz hn hUx hst
      go_wp2_with fail
      have hbx : Blk (wr.alloc (.cells #[.int .u64 (x.h.toNat : Int), .int .i64 rn, .int .i64 an, .int .i64 sz] 44)) wr.heap.size 44 [.int .u64 (x.h.toNat : Int), .int .i64 rn, .int .i64 an, .int .i64 sz] := Blk.new wr _ _
      have hne := RK.out.apart (Nat.le_refl wr.heap.size)
      have RK0 := Lib.hid (RK.out.later (World.grownBy_alloc wr (.cells #[.int .u64 (x.h.toNat : Int), .int .i64 rn, .int .i64 an, .int .i64 sz] 44) none))
      clear RK x0 x1 x2 x3
      have RK := RK0
      clear RK0
      have x0 := hbx.cell (j := 0) rfl
      have x1 := hbx.cell (j := 1) rfl
      have x2 := hbx.cell (j := 2) rfl
      have x3 := hbx.cell (j := 3) rfl
      refine (rnumber_any x.h.toNat 8 (by omega) (by omega) _).mono ?_
      rintro e n1 ⟨an1, cn1, rfl, on1, gn1⟩
      obtain ⟨s1, hs1⟩ : ∃ s1, st ++ numB x.h.toNat 8 = s1 := ⟨_, rfl⟩
      have HL1 : Hid (s1.length = (st).length + 8) := Lib.hid (by rw [← hs1, List.length_append, numB_len])
      have hb1 : s1.length ≤ 5200 + 8 := by have := HL1.out; omega
      have HS1 := Lib.hid hs1
      clear hs1
      have RN := Lib.hid (Rds.of_owns on1)
      have GN := Lib.hid gn1
      have OK := Lib.hid (owns_grown RK.out.own gn1)
      clear on1 gn1
      go_wp2_with (at_builtin; refine wpList_append_rds_at rfl _ _ 47 rfl w1.heap.size 5 i0 (.int .u8 0) 1 1 Try.underlying47 hi hz0 hz1 hz2 rfl (by decide) (v := .slice ay st.length cy) (n := st.length) (xs := bytesV (st)) (sv := .slice an1 8 cn1) rfl OK.out rfl RN.out (bytesV_one _) (by unfold maxLen; omega) (by omega) (Nat.le_trans RK.out.size GN.out.size) ?_; intro vp w1x h1 h2 h3; rw [← bytesV_app, HS1.out, ← HL1.out] at h1; obtain ⟨a1, c1, rfl⟩ := (Rds.of_owns h1).slice; obtain ⟨hbx', hne'⟩ := RK.out.keep GN.out h2 h3 hbx hne; have x0 := hbx'.cell (j := 0) rfl; have x1 := hbx'.cell (j := 1) rfl; have x2 := hbx'.cell (j := 2) rfl; have x3 := hbx'.cell (j := 3) rfl; have RK1 := Lib.hid (RK.out.app GN.out h1 h2); clear h1 h2 h3 RK OK RN GN)
      have RK := RK1
      clear RK1
      clear hbx hne x0 x1 x2 x3
      have hbx := hbx'
      have hne := hne'
      clear hbx' hne'
      have x0 := hbx.cell (j := 0) rfl
      have x1 := hbx.cell (j := 1) rfl
      have x2 := hbx.cell (j := 2) rfl
      have x3 := hbx.cell (j := 3) rfl
      refine (rnumber_any rn 8 (by omega) (by omega) _).mono ?_
      rintro e n2 ⟨an2, cn2, rfl, on2, gn2⟩
      obtain ⟨s2, hs2⟩ : ∃ s2, s1 ++ numB rn 8 = s2 := ⟨_, rfl⟩
      have HL2 : Hid (s2.length = (s1).length + 8) := Lib.hid (by rw [← hs2, List.length_append, numB_len])
      have hb2 : s2.length ≤ 5200 + 16 := by have := HL2.out; omega
      have HS2 := Lib.hid hs2
      clear hs2
      have RN := Lib.hid (Rds.of_owns on2)
      have GN := Lib.hid gn2
      have OK := Lib.hid (owns_grown RK.out.own gn2)
      clear on2 gn2
      go_wp2_with (at_builtin; refine wpList_append_rds_at rfl _ _ 47 rfl w1.heap.size 5 i0 (.int .u8 0) 1 1 Try.underlying47 hi hz0 hz1 hz2 rfl (by decide) (v := .slice a1 s1.length c1) (n := s1.length) (xs := bytesV (s1)) (sv := .slice an2 8 cn2) rfl OK.out rfl RN.out (bytesV_one _) (by unfold maxLen; omega) (by omega) (Nat.le_trans RK.out.size GN.out.size) ?_; intro vp w2x h1 h2 h3; rw [← bytesV_app, HS2.out, ← HL2.out] at h1; obtain ⟨a2, c2, rfl⟩ := (Rds.of_owns h1).slice; obtain ⟨hbx', hne'⟩ := RK.out.keep GN.out h2 h3 hbx hne; have x0 := hbx'.cell (j := 0) rfl; have x1 := hbx'.cell (j := 1) rfl; have x2 := hbx'.cell (j := 2) rfl; have x3 := hbx'.cell (j := 3) rfl; have RK2 := Lib.hid (RK.out.app GN.out h1 h2); clear h1 h2 h3 RK OK RN GN)
      have RK := RK2
      clear RK2
      clear hbx hne x0 x1 x2 x3
      have hbx := hbx'
      have hne := hne'
      clear hbx' hne'
      have x0 := hbx.cell (j := 0) rfl
      have x1 := hbx.cell (j := 1) rfl
      have x2 := hbx.cell (j := 2) rfl
      have x3 := hbx.cell (j := 3) rfl
      refine (rnumber_any an 2 (by omega) (by omega) _).mono ?_
      rintro e n3 ⟨an3, cn3, rfl, on3, gn3⟩
      obtain ⟨s3, hs3⟩ : ∃ s3, s2 ++ numB an 2 = s3 := ⟨_, rfl⟩
      have HL3 : Hid (s3.length = (s2).length + 2) := Lib.hid (by rw [← hs3, List.length_append, numB_len])
      have hb3 : s3.length ≤ 5200 + 24 := by have := HL3.out; omega
      have HS3 := Lib.hid hs3
      clear hs3
      have RN := Lib.hid (Rds.of_owns on3)
      have GN := Lib.hid gn3
      have OK := Lib.hid (owns_grown RK.out.own gn3)
      clear on3 gn3
      go_wp2_with (at_builtin; refine wpList_append_rds_at rfl _ _ 47 rfl w1.heap.size 5 i0 (.int .u8 0) 1 1 Try.underlying47 hi hz0 hz1 hz2 rfl (by decide) (v := .slice a2 s2.length c2) (n := s2.length) (xs := bytesV (s2)) (sv := .slice an3 2 cn3) rfl OK.out rfl RN.out (bytesV_one _) (by unfold maxLen; omega) (by omega) (Nat.le_trans RK.out.size GN.out.size) ?_; intro vp w3x h1 h2 h3; rw [← bytesV_app, HS3.out, ← HL3.out] at h1; obtain ⟨a3, c3, rfl⟩ := (Rds.of_owns h1).slice; obtain ⟨hbx', hne'⟩ := RK.out.keep GN.out h2 h3 hbx hne; have x0 := hbx'.cell (j := 0) rfl; have x1 := hbx'.cell (j := 1) rfl; have x2 := hbx'.cell (j := 2) rfl; have x3 := hbx'.cell (j := 3) rfl; have RK3 := Lib.hid (RK.out.app GN.out h1 h2); clear h1 h2 h3 RK OK RN GN)
      have RK := RK3
      clear RK3
      clear hbx hne x0 x1 x2 x3
      have hbx := hbx'
      have hne := hne'
      clear hbx' hne'
      have x0 := hbx.cell (j := 0) rfl
      have x1 := hbx.cell (j := 1) rfl
      have x2 := hbx.cell (j := 2) rfl
      have x3 := hbx.cell (j := 3) rfl
      refine (rnumber_any sz 2 (by omega) (by omega) _).mono ?_
      rintro e n4 ⟨an4, cn4, rfl, on4, gn4⟩
      obtain ⟨s4, hs4⟩ : ∃ s4, s3 ++ numB sz 2 = s4 := ⟨_, rfl⟩
      have HL4 : Hid (s4.length = (s3).length + 2) := Lib.hid (by rw [← hs4, List.length_append, numB_len])
      have hb4 : s4.length ≤ 5200 + 32 := by have := HL4.out; omega
      have HS4 := Lib.hid hs4
      clear hs4
      have RN := Lib.hid (Rds.of_owns on4)
      have GN := Lib.hid gn4
      have OK := Lib.hid (owns_grown RK.out.own gn4)
      clear on4 gn4
      go_wp2_with (at_builtin; refine wpList_append_rds_at rfl _ _ 47 rfl w1.heap.size 5 i0 (.int .u8 0) 1 1 Try.underlying47 hi hz0 hz1 hz2 rfl (by decide) (v := .slice a3 s3.length c3) (n := s3.length) (xs := bytesV (s3)) (sv := .slice an4 2 cn4) rfl OK.out rfl RN.out (bytesV_one _) (by unfold maxLen; omega) (by omega) (Nat.le_trans RK.out.size GN.out.size) ?_; intro vp w4x h1 h2 h3; rw [← bytesV_app, HS4.out, ← HL4.out] at h1; obtain ⟨a4, c4, rfl⟩ := (Rds.of_owns h1).slice; have RK4 := Lib.hid (RK.out.app GN.out h1 h2); clear h1 h2 h3 RK OK RN GN)
      have RK := RK4
      clear RK4
      have hfin : s4 = packK (dn : Int) (pn : Int) xs (k + 1) := by rw [HNX.out, HS1.out, HS2.out, HS3.out, HS4.out]
      rw [hfin] at RK ⊢
      clear HS1 HS2 HS3 HS4 HL1 HL2 HL3 HL4 hfin hbx hne x0 x1 x2 x3
      go_roundw
      case rel => exact ⟨k + 1, _, _, by omega, by go_num, rfl, RK.out⟩
      case measure => simp [intOf]; omega
    · obtain rfl : k = xs.length := by omega
      clear hgr
      go_wp2
      refine bodyPost_ret (v := .tuple #[.slice ay (packL (dn : Int) (pn : Int) xs).length cy, .int .i64 0]) (by simp [results, Try.results21, go_sem, packL]) rfl ?_
      exact ⟨ay, cy, rfl, Rds.of_owns RK.out.own, grownBy_trans G1.out RK.out.grown⟩

end Go.Proofs.Ytddpjfmogjcimaa
