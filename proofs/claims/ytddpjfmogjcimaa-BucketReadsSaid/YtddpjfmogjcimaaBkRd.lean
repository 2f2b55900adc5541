/- package bucket: Unpack. -/
import Derived.Test.YtddpjfmogjcimaaBkRdP
import Derived.Test.YtddpjfmogjcimaaBkRt
namespace Go.Proofs.Ytddpjfmogjcimaa
open Go.RowKit

/-- bucket.Unpack under way: the reader, the result's cell, the bucket, its entries. -/
structure UB (w0 w : World) (R B : Nat) (v : Value) (xs : List Nat) (o : Nat) (Q : Nat) (d p : Int) (rv : Value) (es : List Ent) : Prop where
  pr : PR w0 w B v xs o
  ltB : B < Q
  ltV : xs.drop o ≠ [] → ∀ b, v.ownBlock = some b → b < Q
  newQ : w0.heap.size ≤ Q
  hR : R < w0.heap.size
  res : Blk w R 29 [.int .i64 0, .int .i64 0, .slice none 0 0]
  bkt : Blk w Q 29 [.int .i64 d, .int .i64 p, rv]
  row : w.ownsRow (Q + 1) 41 4 rv es.length (entsV es)
theorem UB.later {w0 w w' : World} {R B : Nat} {v : Value} {xs : List Nat} {o Q : Nat} {d p : Int} {rv : Value} {es : List Ent} (h : UB w0 w R B v xs o Q d p rv es) (hg : w.grownBy w' none) : UB w0 w' R B v xs o Q d p rv es :=
  ⟨h.pr.later hg, h.ltB, h.ltV, h.newQ, h.hR, h.res.grown hg (by simp), h.bkt.grown hg (by simp), owns_grown h.row hg⟩
theorem UB.num {w0 w : World} {R B : Nat} {v : Value} {xs : List Nat} {o Q : Nat} {d p : Int} {rv : Value} {es : List Ent} (h : UB w0 w R B v xs o Q d p rv es) (k : Nat) (hk : mayB k = true) :
    Calls Try.prog 43 #[.pointer (some ⟨B, 0, none⟩), .int .i64 k] w fun e w' => ∃ v', e = .returned (.int .u64 ((numAt xs o k : Nat) : Int)) ∧ UB w0 w' R B v' xs (o + k) Q d p rv es ∧ ∀ b t vs, Blk w b t vs → Q < b → Blk w' b t vs ∧ (rv.ownBlock ≠ some b → rv.ownBlock ≠ some b) := by
  refine (h.pr.num k hk).mono ?_
  rintro e w' ⟨v', rfl, hp, hv, hg⟩
  have hRB : R ≠ B := by have := h.hR; have := h.pr.newB; omega
  refine ⟨v', rfl, ⟨hp, h.ltB, fun hne b hb => h.ltV (drop_more hne) b (hv b hb), h.newQ, h.hR, h.res.grown hg (by simpa using hRB), h.bkt.grown hg (by have := h.ltB; simp; omega), ?_⟩, fun b t vs hb hq => ⟨hb.grown hg (by have := h.ltB; simp; omega), fun h => h⟩⟩
  refine (Touch.of hg (S := fun k => k = B) (fun k e => by cases e; rfl)).owns h.row (fun b hb e => ?_)
  have := (h.row.lt b hb).1
  have := h.ltB
  omega
theorem UB.set {w0 w : World} {R B : Nat} {v : Value} {xs : List Nat} {o Q : Nat} {d p : Int} {rv : Value} {es : List Ent} (h : UB w0 w R B v xs o Q d p rv es) (X j : Nat) (u : Value) (hX : Q < X) (hne : rv.ownBlock ≠ some X) : UB w0 (w.setCell ⟨X, j, none⟩ u) R B v xs o Q d p rv es := by
  have hg := grownBy_setCell w ⟨X, j, none⟩ u
  have ht : Touch (fun k => k = X) w (w.setCell ⟨X, j, none⟩ u) := Touch.of hg (fun k e => by cases e; rfl)
  have h1 := h.ltB
  have h2 := h.hR
  have h3 := h.newQ
  refine ⟨h.pr.touch' ht (by omega) (fun hne k hk e => ?_) (grownBy_base2 h.pr.grown hg (by simp; omega)), h.ltB, h.ltV, h.newQ, h.hR, ht.blk h.res (by omega), ht.blk h.bkt (by omega), ht.owns h.row (fun b hb e => hne (e ▸ hb))⟩
  have := h.ltV hne k hk
  omega
theorem UB.setP {w0 w : World} {R B : Nat} {v : Value} {xs : List Nat} {o Q : Nat} {d p : Int} {rv : Value} {es : List Ent} (h : UB w0 w R B v xs o Q d p rv es) (p' : Int) : UB w0 (w.setCell ⟨Q, 1, none⟩ (.int .i64 p')) R B v xs o Q d p' rv es := by
  have hg := grownBy_setCell w ⟨Q, 1, none⟩ (.int .i64 p')
  have ht : Touch (fun k => k = Q) w (w.setCell ⟨Q, 1, none⟩ (.int .i64 p')) := Touch.of hg (fun k e => by cases e; rfl)
  have h1 := h.ltB
  have h2 := h.hR
  have h3 := h.newQ
  refine ⟨h.pr.touch' ht (by omega) (fun hne k hk e => ?_) (grownBy_base2 h.pr.grown hg (by simp; omega)), h.ltB, h.ltV, h.newQ, h.hR, ht.blk h.res (by omega), h.bkt.setCell 1 _, ht.owns h.row (fun b hb e => by have := (h.row.lt b hb).1; omega)⟩
  have := h.ltV hne k hk
  omega
/-- Behind an append that is stored. -/
theorem UB.app {w0 w wn w' : World} {R B : Nat} {v : Value} {xs : List Nat} {o Q : Nat} {d p : Int} {rv rv' : Value} {es es' : List Ent} (h : UB w0 w R B v xs o Q d p rv es) (hg : w.grownBy wn none) (h2 : wn.grownBy w' rv.ownBlock) (ho : w'.ownsRow (Q + 1) 41 4 rv' es'.length (entsV es')) :
    UB w0 (w'.setCell ⟨Q, 2, none⟩ rv') R B v xs o Q d p rv' es' := by
  have k := h.later hg
  have ht : Touch (fun k => rv.ownBlock = some k) wn w' := Touch.of h2 (fun _ e => e)
  have hrow : ∀ b, rv.ownBlock = some b → Q < b := fun b hb => by have := (h.row.lt b hb).1; omega
  have h1 := h.ltB
  have h3 := h.newQ
  have h4 := h.hR
  have hp := k.pr.touch' ht (fun e => by have := hrow B e; omega) (fun hne b hb e => by
    have := hrow b e
    have := h.ltV hne b hb
    omega) (grownBy_own2 k.pr.grown k.row (by omega) h2)
  have hg2 := grownBy_setCell w' ⟨Q, 2, none⟩ rv'
  have ht2 : Touch (fun k => k = Q) w' (w'.setCell ⟨Q, 2, none⟩ rv') := Touch.of hg2 (fun k e => by cases e; rfl)
  have hres := ht.blk k.res (fun e => by have := hrow _ e; omega)
  have hbkt := ht.blk k.bkt (fun e => by have := hrow _ e; omega)
  refine ⟨hp.touch' ht2 (by omega) (fun hne b hb e => ?_) (grownBy_base2 hp.grown hg2 (by simp; omega)), h.ltB, h.ltV, h.newQ, h.hR, ht2.blk hres (by omega), hbkt.setCell 2 _, owns_set ho _ _ (by simp)⟩
  have := h.ltV hne b hb
  omega

theorem UB.bktAt {w0 w wn w' : World} {R B : Nat} {v : Value} {xs : List Nat} {o Q : Nat} {d p : Int} {rv : Value} {es : List Ent} (h : UB w0 w R B v xs o Q d p rv es) (hg : w.grownBy wn none) (h2 : wn.grownBy w' rv.ownBlock) : Blk w' Q 29 [.int .i64 d, .int .i64 p, rv] :=
  (h.bkt.grown hg (by simp)).grown h2 (fun e => by have := (h.row.lt Q e.symm).1; omega)

def uE (xs : List Nat) (slots : Int) : List Ent := if readB xs slots = true then entsK xs (nAt xs) else []
def uD (xs : List Nat) (slots : Int) : Int := if readB xs slots = true then dAt xs else 0
def uP (xs : List Nat) (slots : Int) : Int := if readB xs slots = true then pAt xs else 0
def uErr (xs : List Nat) (slots : Int) : Int := if readB xs slots = true then 0 else 5
def UPost (xs : List Nat) (slots : Int) (w : World) (e : Ending) (w' : World) : Prop :=
  ∃ a c, e = .returned (.tuple #[.agg #[.int .i64 (uD xs slots), .int .i64 (uP xs slots), .slice a (uE xs slots).length c], .int .i64 (uErr xs slots)]) ∧ Rds w' 4 (.slice a (uE xs slots).length c) (uE xs slots).length (entsV (uE xs slots)) ∧ w.grownBy w' none
theorem UPost.no {xs : List Nat} {slots : Int} {w w' : World} {e : Ending} (h : readB xs slots = false) (he : e = .returned (.tuple #[.agg #[.int .i64 0, .int .i64 0, .slice none 0 0], .int .i64 5])) (hg : w.grownBy w' none) : UPost xs slots w e w' := by
  unfold UPost uE uD uP uErr
  rw [h]
  simp only [Bool.false_eq_true, if_false]
  exact ⟨none, 0, he, Rds.nil _ 4, hg⟩
theorem UPost.yes {xs : List Nat} {slots : Int} {w w' : World} {e : Ending} {a : Option Addr} {c : Nat} (h : readB xs slots = true) (he : e = .returned (.tuple #[.agg #[.int .i64 (dAt xs), .int .i64 (pAt xs), .slice a (entsK xs (nAt xs)).length c], .int .i64 0])) (hr : Rds w' 4 (.slice a (entsK xs (nAt xs)).length c) (entsK xs (nAt xs)).length (entsV (entsK xs (nAt xs)))) (hg : w.grownBy w' none) : UPost xs slots w e w' := by
  unfold UPost uE uD uP uErr
  rw [h]
  simp only [if_true]
  exact ⟨a, c, he, hr, hg⟩

theorem bne_of14 {a b : Int} {t : Bool} (h : (a == b) = t) : (a != b) = !t := by unfold bne; rw [h]
set_option maxRecDepth 100000 in
set_option maxHeartbeats 8000000 in
theorem bunpack_any (xs : List Nat) (slots : Int) (a : Option Addr) (c : Nat) (w : World) (hx : xs.length ≤ 700) (hs : ∀ x ∈ xs, x < 256) (hr : Rds w 1 (.slice a xs.length c) xs.length (bytesV xs)) :
    Calls Try.prog 18 #[.slice a xs.length c, .int .i64 slots] w (UPost xs slots w) := by
  obtain ⟨i0, hi, hz0, hz1, hz2⟩ := info_parts infoEnt
  have HSM := Lib.hid hs
  have HR := Lib.hid hr
  have HNL := Lib.hid (fun o k => numAt_lt hs o k)
  clear hs hr
  go_enter Try.func18, Try.ntmps18
  go_wp2_with fail
  obtain ⟨w0, hw0⟩ : ∃ w0, w.alloc (.cells #[.int .i64 0, .int .i64 0, .slice none 0 0] 29) = w0 := ⟨_, rfl⟩
  have HRES : Hid (Blk w0 w.heap.size 29 [.int .i64 0, .int .i64 0, .slice none 0 0]) := Lib.hid (by rw [← hw0]; exact Blk.new w _ _)
  have HG0 : Hid (w.grownBy w0 none) := Lib.hid (by rw [← hw0]; exact World.grownBy_alloc _ _ none)
  have HR0 : Hid (w.heap.size < w0.heap.size) := Lib.hid HRES.out.lt
  rw [hw0]
  clear hw0
  refine (newReader_any xs a c w0 (by omega) HSM.out (HR.out.grown HG0.out (by simp))).mono ?_
  rintro e w1 ⟨B, v, rfl, hrr, hB, hV, g1⟩
  have HPR : Hid (PR w0 w1 B v xs 0) := Lib.hid ⟨by rw [List.drop_zero]; exact hrr, hB, hV, g1⟩
  have HRES := Lib.hid (HRES.out.grown g1 (by simp))
  clear hrr hB hV g1
  go_wp2_with fail
  refine (HPR.out.num 1 rfl).mono ?_
  rintro e w2 ⟨v2, rfl, hpr, hv2, g2⟩
  have HRB : Hid (w.heap.size ≠ B) := Lib.hid (by have := HR0.out; have := HPR.out.newB; omega)
  have HRES := Lib.hid (HRES.out.grown g2 (by simpa using HRB.out))
  have HPR := Lib.hid hpr
  have HBL : Hid (B < w2.heap.size) := Lib.hid hpr.rr.blk.lt
  have hd : IntKind.i64.wrap (numAt xs 0 1 : Nat) = dAt xs := by
    have := HNL.out 0 1
    unfold dAt
    rw [IntKind.wrap_i64]
    omega
  have hn : IntKind.i64.wrap (numAt xs 1 1 : Nat) = (nAt xs : Int) := by
    have := HNL.out 1 1
    unfold nAt
    rw [IntKind.wrap_i64]
    omega
  have hn255 : nAt xs ≤ 255 := by
    have := HNL.out 1 1
    unfold nAt
    omega
  have hp : IntKind.i64.wrap (numAt xs 2 8 : Nat) = pAt xs := rfl
  have HLV : Hid (xs.drop (0 + 1) ≠ [] → ∀ b, v2.ownBlock = some b → b < w2.heap.size) := Lib.hid (fun hne b hb => hpr.rr.rds.lt (fun e => hne (List.map_eq_nil_iff.1 e)) b hb)
  clear hpr hv2 g2
  go_wp2_with fail
  have HPR := Lib.hid (HPR.out.later (World.grownBy_alloc w2 (.cells #[.int .i64 (dAt xs), .int .i64 0, .slice none 0 0] 29) none))
  have HRES := Lib.hid (HRES.out.alloc (.cells #[.int .i64 (dAt xs), .int .i64 0, .slice none 0 0] 29))
  have HBK : Hid (Blk (w2.alloc (.cells #[.int .i64 (dAt xs), .int .i64 0, .slice none 0 0] 29)) w2.heap.size 29 [.int .i64 (dAt xs), .int .i64 0, .slice none 0 0]) := Lib.hid (Blk.new w2 _ _)
  obtain ⟨w3, hw3⟩ : ∃ w3, w2.alloc (.cells #[.int .i64 (dAt xs), .int .i64 0, .slice none 0 0] 29) = w3 := ⟨_, rfl⟩
  rw [hw3] at HPR HRES HBK ⊢
  have HQ0 : Hid (w0.heap.size ≤ w2.heap.size) := Lib.hid (by have := HPR.out.newB; have := HBL.out; omega)
  have HU : Hid (UB w0 w3 w.heap.size B v2 xs (0 + 1) w2.heap.size (dAt xs) 0 (.slice none 0 0) []) := Lib.hid ⟨HPR.out, HBL.out, HLV.out, HQ0.out, HR0.out, HRES.out, HBK.out, World.ownsRow_nil _ _ _ _⟩
  clear hw3 HPR HRES HBK HBL HLV HRB HQ0
  generalize w2.heap.size = Q at *
  refine (HU.out.num 1 rfl).mono ?_
  rintro e w4 ⟨v4, rfl, hu4, -⟩
  have HU := Lib.hid hu4
  clear hu4
  go_wp2_with fail
  refine (HU.out.num 8 rfl).mono ?_
  rintro e w5 ⟨v5, rfl, hu5, -⟩
  have b1 := hu5.bkt.cell (j := 1) rfl
  have f1 := hu5.bkt.frozen 1
  have HU := Lib.hid hu5
  clear hu5
  go_wp2_with fail
  have HU := Lib.hid (show UB w0 (w5.setCell ⟨Q, 1, none⟩ (.int .i64 (pAt xs))) w.heap.size B v5 xs 10 Q (dAt xs) (pAt xs) (.slice none 0 0) [] from HU.out.setP (pAt xs))
  clear b1 f1
  go_loopw [24] (fun i wr => ∃ (k : Nat) (v : Value) (av : Option Addr) (cv : Nat), k ≤ nAt xs ∧ i = .int .i64 k ∧ UB w0 wr w.heap.size B v xs (10 + 20 * k) Q (dAt xs) (pAt xs) (.slice av k cv) (entsK xs k)) (fun i _ => nAt xs - (intOf i).toNat)
  case atStart => exact ⟨0, v5, none, 0, by omega, rfl, HU.out⟩
  case round =>
    clear HU
    obtain ⟨k, v, av, cv, hk, rfl, hu⟩ := hrel
    have HU := Lib.hid hu
    clear hu
    by_cases hlt : k < nAt xs
    · have HK := Lib.hid (entsK_next xs k)
      have HH := Lib.hid (entAt_h xs HSM.out k)
      have HN3 := Lib.hid (HNL.out (26 + 20 * k) 2)
      have HN4 := Lib.hid (HNL.out (28 + 20 * k) 2)
      have hk0 : (k : Int) < (nAt xs : Int) := by omega
      go_wp2_with fail
      refine (HU.out.num 8 rfl).mono ?_
      rintro e x1 ⟨v1, rfl, hu1, -⟩
      obtain ⟨r1, hr1⟩ : ∃ r1 : Nat, numAt xs (10 + 20 * k) 8 = r1 := ⟨_, rfl⟩
      have HR1 := Lib.hid hr1
      rw [hr1]
      have HX : Hid (Blk (x1.alloc (.cells #[.int .u64 r1, .int .i64 0, .int .i64 0, .int .i64 0] 41)) x1.heap.size 41 [.int .u64 r1, .int .i64 0, .int .i64 0, .int .i64 0]) := Lib.hid (Blk.new x1 _ _)
      have HQX : Hid (Q < x1.heap.size) := Lib.hid hu1.bkt.lt
      have HNE : Hid ((Value.slice av k cv).ownBlock ≠ some x1.heap.size) := Lib.hid (fun e => by have := (hu1.row.lt _ e).2; omega)
      have HU := Lib.hid (hu1.later (World.grownBy_alloc x1 (.cells #[.int .u64 r1, .int .i64 0, .int .i64 0, .int .i64 0] 41) none))
      clear hu1 hr1
      go_wp2_with fail
      refine (HU.out.num 8 rfl).mono ?_
      rintro e x2 ⟨v2, rfl, hu2, hkp⟩
      have HX := Lib.hid (hkp _ _ _ HX.out HQX.out).1
      have xc := HX.out.cell (j := 1) rfl
      have xf := HX.out.frozen 1
      have HU := Lib.hid hu2
      clear hu2 hkp
      obtain ⟨r2, hr2⟩ : ∃ r2 : Nat, numAt xs (18 + 20 * k) 8 = r2 := ⟨_, rfl⟩
      have HR2 := Lib.hid hr2
      rw [show 10 + 20 * k + 8 = 18 + 20 * k by omega, hr2]
      obtain ⟨q2, hq2⟩ : ∃ q2 : Int, IntKind.i64.wrap (r2 : Int) = q2 := ⟨_, rfl⟩
      have HQ2 := Lib.hid hq2
      go_wp2_with fail
      have HX := Lib.hid (HX.out.setCell 1 (.int .i64 q2))
      have HU := Lib.hid (HU.out.set x1.heap.size 1 (.int .i64 q2) HQX.out HNE.out)
      clear xc xf hr2 hq2
      refine (HU.out.num 2 rfl).mono ?_
      rintro e x3 ⟨v3, rfl, hu3, hkp⟩
      have HX := Lib.hid (hkp _ _ _ HX.out HQX.out).1
      have xc := HX.out.cell (j := 2) rfl
      have xf := HX.out.frozen 2
      have HU := Lib.hid hu3
      clear hu3 hkp
      have hnw : IntKind.i64.wrap (numAt xs (26 + 20 * k) 2 : Nat) = (numAt xs (26 + 20 * k) 2 : Nat) := by
        have := HN3.out
        rw [IntKind.wrap_i64]
        omega
      obtain ⟨r3, hr3⟩ : ∃ r3 : Nat, numAt xs (26 + 20 * k) 2 = r3 := ⟨_, rfl⟩
      have HR3 := Lib.hid hr3
      rw [show 10 + 20 * k + 8 + 8 = 26 + 20 * k by omega, hr3]
      rw [hr3] at hnw
      have hnw2 : wrap64 (r3 : Int) = r3 := by have := HN3.out; rw [hr3] at this; unfold wrap64; omega
      go_wp2_with fail
      have HX := Lib.hid (HX.out.setCell 2 (.int .i64 r3))
      have HU := Lib.hid (HU.out.set x1.heap.size 2 (.int .i64 r3) HQX.out HNE.out)
      clear xc xf hr3 hnw hnw2
      refine (HU.out.num 2 rfl).mono ?_
      rintro e x4 ⟨v4, rfl, hu4, hkp⟩
      have HX := Lib.hid (hkp _ _ _ HX.out HQX.out).1
      have xc := HX.out.cell (j := 3) rfl
      have xf := HX.out.frozen 3
      have HU := Lib.hid hu4
      clear hu4 hkp
      have hnw : IntKind.i64.wrap (numAt xs (28 + 20 * k) 2 : Nat) = (numAt xs (28 + 20 * k) 2 : Nat) := by
        have := HN4.out
        rw [IntKind.wrap_i64]
        omega
      obtain ⟨r4, hr4⟩ : ∃ r4 : Nat, numAt xs (28 + 20 * k) 2 = r4 := ⟨_, rfl⟩
      have HR4 := Lib.hid hr4
      rw [show 10 + 20 * k + 8 + 8 + 2 = 28 + 20 * k by omega, hr4]
      rw [hr4] at hnw
      have hnw2 : wrap64 (r4 : Int) = r4 := by have := HN4.out; rw [hr4] at this; unfold wrap64; omega
      have xc0 := HX.out.cell (j := 0) rfl
      have xc1 := HX.out.cell (j := 1) rfl
      have xc2 := HX.out.cell (j := 2) rfl
      have b2 := HU.out.bkt.cell (j := 2) rfl
      have hqx : ¬ Q = x1.heap.size := by have := HQX.out; omega
      have hqx2 : ¬ x1.heap.size = Q := by have := HQX.out; omega
      have HU4 := Lib.hid (HU.out.set x1.heap.size 3 (.int .i64 r4) HQX.out HNE.out)
      have H41 : Hid (entAt xs k = ⟨BitVec.ofNat 64 r1, q2, r3, r4⟩) := Lib.hid (by
        unfold entAt
        rw [HR1.out, HR2.out, HR3.out, HR4.out, HQ2.out])
      have HVAL : Hid (entsV (entsK xs k) ++ [.int .u64 r1, .int .i64 q2, .int .i64 r3, .int .i64 r4] = entsV (entsK xs (k + 1))) := Lib.hid (by
        have h1 := HH.out
        rw [HK.out, entsV_app, entsV_one, Ent.cells, h1, HR1.out, H41.out])
      have hk255 : k ≤ 255 := by omega
      have HBN : Hid (Blk ((x4.setCell ⟨x1.heap.size, 3, none⟩ (.int .i64 r4)).alloc (.cells #[.int .u64 r1, .int .i64 q2, .int .i64 r3, .int .i64 r4] 41)) x4.heap.size 41 [.int .u64 r1, .int .i64 q2, .int .i64 r3, .int .i64 r4]) := Lib.hid (by
        have h := Blk.new (x4.setCell ⟨x1.heap.size, 3, none⟩ (.int .i64 r4)) 41 [.int .u64 r1, .int .i64 q2, .int .i64 r3, .int .i64 r4]
        have e : (x4.setCell ⟨x1.heap.size, 3, none⟩ (.int .i64 r4)).heap.size = x4.heap.size := by simp [World.setCell]
        rw [e] at h
        exact h)
      clear hr4 HU HX
      go_wp2_with (at_builtin; refine wpList_append_rds_at rfl _ _ 27 rfl (Q + 1) 41 i0 (.agg #[.int .u64 0, .int .i64 0, .int .i64 0, .int .i64 0]) 4 32 Try.underlying27 hi hz0 hz1 hz2 rfl (by decide) (v := .slice av k cv) (n := k) (xs := entsV (entsK xs k)) (sv := .slice (some ⟨x4.heap.size, 0, none⟩) 1 1) (m := 1) (news := [.int .u64 r1, .int .i64 q2, .int .i64 r3, .int .i64 r4]) rfl (by have h := owns_grown HU4.out.row (World.grownBy_alloc _ (.cells #[.int .u64 r1, .int .i64 q2, .int .i64 r3, .int .i64 r4] 41) none); rw [entsK_len] at h; exact h) rfl (Rds.of_blk HBN.out rfl (by unfold maxLen; omega)) (by simp [Value.oneCell']) (by unfold maxLen; omega) (by omega) (by have := HU4.out.bkt.lt; rw [World.size_alloc]; omega) ?_; intro vp wp h1 h2 h3; rw [HVAL.out] at h1; obtain ⟨a1, c1, rfl⟩ := (Rds.of_owns h1).slice; have HU5 := Lib.hid (HU4.out.app (World.grownBy_alloc _ _ none) h2 (es' := entsK xs (k + 1)) (by rw [entsK_len]; exact h1)); have hbq := HU4.out.bktAt (World.grownBy_alloc _ _ none) h2; have b2 := hbq.cell (j := 2) rfl; have f2 := hbq.frozen 2; clear h1 h2 h3 hbq HU4 HBN HVAL xc0 xc1 xc2)
      have hE := HU5.out
      rw [show 10 + 20 * k + 8 + 8 + 2 + 2 = 10 + 20 * (k + 1) by omega] at hE
      exact ⟨⟨k + 1, v4, a1, c1, by omega, by go_num, hE⟩, by simp [intOf]; omega⟩
    · have hkn : k = nAt xs := by omega
      subst hkn
      have HL0 : Hid (w.grownBy wr none) := Lib.hid (grownBy_trans HG0.out HU.out.pr.grown)
      clear hlt hk
      go_wp2_with fail
      refine (rbad_any B v _ _ wr HU.out.pr.rr).mono ?_
      rintro e x1 ⟨rfl, rfl⟩
      by_cases hpast : xs.length < 10 + 20 * nAt xs
      · have hpb : pastB xs (10 + 20 * nAt xs) = true := decide_eq_true hpast
        have HNO : Hid (readB xs slots = false) := Lib.hid (by
          unfold readB sizeB
          rw [decide_eq_false (by omega)]
          rfl)
        have z0 := HU.out.res.cell (j := 0) rfl
        have z1 := HU.out.res.cell (j := 1) rfl
        have z2 := HU.out.res.cell (j := 2) rfl
        have y0 := HU.out.res.frozen 0
        have y1 := HU.out.res.frozen 1
        have y2 := HU.out.res.frozen 2
        rw [hpb]
        clear hpb hpast
        go_wp2_with fail
        clear z0 z1 z2 y0 y1 y2
        have hb1 := ((HU.out.res.setCell 0 (.int .i64 0)).setCell 1 (.int .i64 0)).setCell 2 (.slice none 0 0)
        have z0 := hb1.cell (j := 0) rfl
        have z1 := hb1.cell (j := 1) rfl
        have z2 := hb1.cell (j := 2) rfl
        refine bodyPost_ret (v := .tuple #[.agg #[.int .i64 0, .int .i64 0, .slice none 0 0], .int .i64 5]) (by simp [results, Try.results18, go_sem, z0, z1, z2]) rfl (UPost.no HNO.out rfl ?_)
        exact grownBy_base2 (grownBy_base2 (grownBy_base2 HL0.out (grownBy_setCell _ _ _) (by simp)) (grownBy_setCell _ _ _) (by simp)) (grownBy_setCell _ _ _) (by simp)
      · have hpb : pastB xs (10 + 20 * nAt xs) = false := decide_eq_false hpast
        rw [hpb]
        clear hpb
        go_wp2_with fail
        refine (rrest_any B v _ _ wr HU.out.pr.rr).mono ?_
        rintro e x2 ⟨a2, c2, rfl, o2, g2⟩
        have HU := Lib.hid (HU.out.later g2)
        have HL0 := Lib.hid (grownBy_trans HL0.out g2)
        clear o2 g2
        by_cases hm : xs.length = 10 + 20 * nAt xs
        · have hml : (xs.drop (10 + 20 * nAt xs)).length = 0 := by rw [List.length_drop]; omega
          rw [hml]
          have HSZ : Hid (sizeB xs = true) := Lib.hid (decide_eq_true hm)
          have b0 := HU.out.bkt.cell (j := 0) rfl
          have b1 := HU.out.bkt.cell (j := 1) rfl
          have b2 := HU.out.bkt.cell (j := 2) rfl
          have ROW := Lib.hid (Rds.of_owns HU.out.row)
          clear hml hm hpast
          go_wp2_with fail
          have HBR := Lib.hid (bright_any (dAt xs) (pAt xs) slots (entsK xs (nAt xs)) av cv x2 (by have := ROW.out; rw [entsK_len] at this ⊢; exact this))
          have hl := entsK_len xs (nAt xs)
          rw [hl] at HBR
          refine HBR.out.mono ?_
          rintro e x3 ⟨rfl, g3⟩
          have HU := Lib.hid (HU.out.later g3)
          have HL0 := Lib.hid (grownBy_trans HL0.out g3)
          have z0 := HU.out.res.cell (j := 0) rfl
          have z1 := HU.out.res.cell (j := 1) rfl
          have z2 := HU.out.res.cell (j := 2) rfl
          have y0 := HU.out.res.frozen 0
          have y1 := HU.out.res.frozen 1
          have y2 := HU.out.res.frozen 2
          have b0 := HU.out.bkt.cell (j := 0) rfl
          have b1 := HU.out.bkt.cell (j := 1) rfl
          have b2 := HU.out.bkt.cell (j := 2) rfl
          clear g3 HBR hl
          cases hB : rightB (dAt xs) (pAt xs) slots (entsK xs (nAt xs))
          · have HNO : Hid (readB xs slots = false) := Lib.hid (by
              unfold readB
              rw [hB, Bool.and_false])
            clear hB
            go_wp2_with fail
            clear z0 z1 z2 y0 y1 y2
            have hb1 := ((HU.out.res.setCell 0 (.int .i64 0)).setCell 1 (.int .i64 0)).setCell 2 (.slice none 0 0)
            have z0 := hb1.cell (j := 0) rfl
            have z1 := hb1.cell (j := 1) rfl
            have z2 := hb1.cell (j := 2) rfl
            refine bodyPost_ret (v := .tuple #[.agg #[.int .i64 0, .int .i64 0, .slice none 0 0], .int .i64 5]) (by simp [results, Try.results18, go_sem, z0, z1, z2]) rfl (UPost.no HNO.out rfl ?_)
            exact grownBy_base2 (grownBy_base2 (grownBy_base2 HL0.out (grownBy_setCell _ _ _) (by simp)) (grownBy_setCell _ _ _) (by simp)) (grownBy_setCell _ _ _) (by simp)
          · have HYES : Hid (readB xs slots = true) := Lib.hid (by
              unfold readB
              rw [HSZ.out, hB]
              rfl)
            clear hB
            go_wp2_with fail
            clear z0 z1 z2 y0 y1 y2
            have hb1 := ((HU.out.res.setCell 0 (.int .i64 (dAt xs))).setCell 1 (.int .i64 (pAt xs))).setCell 2 (.slice av (nAt xs) cv)
            have z0 := hb1.cell (j := 0) rfl
            have z1 := hb1.cell (j := 1) rfl
            have z2 := hb1.cell (j := 2) rfl
            have hro := Rds.of_owns (owns_set (owns_set (owns_set HU.out.row ⟨w.heap.size, 0, none⟩ (.int .i64 (dAt xs)) (by have := HU.out.hR; have := HU.out.newQ; simp; omega)) ⟨w.heap.size, 1, none⟩ (.int .i64 (pAt xs)) (by have := HU.out.hR; have := HU.out.newQ; simp; omega)) ⟨w.heap.size, 2, none⟩ (.slice av (nAt xs) cv) (by have := HU.out.hR; have := HU.out.newQ; simp; omega))
            rw [entsK_len] at hro
            refine bodyPost_ret (v := .tuple #[.agg #[.int .i64 (dAt xs), .int .i64 (pAt xs), .slice av (nAt xs) cv], .int .i64 0]) (by simp [results, Try.results18, go_sem, z0, z1, z2]) rfl (UPost.yes (a := av) (c := cv) HYES.out (by rw [entsK_len]) (by rw [entsK_len]; exact hro) ?_)
            exact grownBy_base2 (grownBy_base2 (grownBy_base2 HL0.out (grownBy_setCell _ _ _) (by simp)) (grownBy_setCell _ _ _) (by simp)) (grownBy_setCell _ _ _) (by simp)
        · have hml : (((xs.drop (10 + 20 * nAt xs)).length : Int) == 0) = false := by rw [beq_eq_false_iff_ne, List.length_drop]; omega
          have HNO : Hid (readB xs slots = false) := Lib.hid (by
            unfold readB sizeB
            rw [decide_eq_false hm]
            rfl)
          have hml2 := bne_of14 hml
          clear hm
          generalize (xs.drop (10 + 20 * nAt xs)).length = m at *
          have z0 := HU.out.res.cell (j := 0) rfl
          have z1 := HU.out.res.cell (j := 1) rfl
          have z2 := HU.out.res.cell (j := 2) rfl
          have y0 := HU.out.res.frozen 0
          have y1 := HU.out.res.frozen 1
          have y2 := HU.out.res.frozen 2
          go_wp2_with fail
          clear z0 z1 z2 y0 y1 y2
          have hb1 := ((HU.out.res.setCell 0 (.int .i64 0)).setCell 1 (.int .i64 0)).setCell 2 (.slice none 0 0)
          have z0 := hb1.cell (j := 0) rfl
          have z1 := hb1.cell (j := 1) rfl
          have z2 := hb1.cell (j := 2) rfl
          refine bodyPost_ret (v := .tuple #[.agg #[.int .i64 0, .int .i64 0, .slice none 0 0], .int .i64 5]) (by simp [results, Try.results18, go_sem, z0, z1, z2]) rfl (UPost.no HNO.out rfl ?_)
          exact grownBy_base2 (grownBy_base2 (grownBy_base2 HL0.out (grownBy_setCell _ _ _) (by simp)) (grownBy_setCell _ _ _) (by simp)) (grownBy_setCell _ _ _) (by simp)

end Go.Proofs.Ytddpjfmogjcimaa
