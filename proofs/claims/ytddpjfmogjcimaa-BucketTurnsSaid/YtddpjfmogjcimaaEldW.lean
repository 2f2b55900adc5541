/- Layer 14: BucketElders. -/
import Derived.Test.YtddpjfmogjcimaaDrop
import Derived.Test.YtddpjfmogjcimaaElderL
import Derived.Test.YtddpjfmogjcimaaBkF
import Derived.Test.YtddpjfmogjcimaaBkHP
namespace Go.Proofs.Ytddpjfmogjcimaa
open Go Go.RowKit Go.WideShapes Go.ChangeShapes Go.ChangeAt

theorem eldK_some (xs : List Ent) : ∀ k, 0 < k → ∃ b, eldK xs k = some b
  | k + 1, _ => by
    rw [eldK]
    cases eldK xs k with
    | none => exact ⟨_, rfl⟩
    | some b => dsimp only; split <;> exact ⟨_, rfl⟩
theorem eldB_iff (x y : Ent) : eldB x y = true ↔ (x.r < y.r ∨ (x.r = y.r ∧ x.a < y.a)) := by simp [eldB]
theorem eldB_not (x y : Ent) : eldB x y = false ↔ ¬ (x.r < y.r ∨ (x.r = y.r ∧ x.a < y.a)) := by simp [eldB]
theorem eldK_min (xs : List Ent) : ∀ k b, eldK xs k = some b → ∀ m, m < k → eldB (xs.getD m Ent.zero) (xs.getD b Ent.zero) = false
  | 0, b, h, m, hm => by omega
  | k + 1, b, h, m, hm => by
    rw [eldK] at h
    cases hk : eldK xs k with
    | none =>
      rw [hk] at h
      simp at h
      have : k = 0 := by
        rcases Nat.eq_zero_or_pos k with h0 | h0
        · exact h0
        · obtain ⟨b', hb'⟩ := eldK_some xs k h0
          rw [hk] at hb'; cases hb'
      subst this
      obtain rfl : m = 0 := by omega
      subst h
      exact eldB_self _ _ rfl rfl
    | some c =>
      rw [hk] at h
      have ih := eldK_min xs k c hk
      dsimp only at h
      split at h
      · rename_i ht
        simp at h
        subst h
        rcases Nat.lt_or_ge m k with hmk | hmk
        · have h1 := ih m hmk
          rw [eldB_not] at h1 ⊢
          rw [eldB_iff] at ht
          omega
        · obtain rfl : m = k := by omega
          exact eldB_self _ _ rfl rfl
      · rename_i ht
        simp at h
        subst h
        rcases Nat.lt_or_ge m k with hmk | hmk
        · exact ih m hmk
        · obtain rfl : m = k := by omega
          simpa using ht
/-- The eldest one stands where its number does. -/
theorem plc_at {xs : List Ent} (hs : xs.Pairwise (fun x y => U x.h < U y.h)) {b i : Nat} (hb : b < xs.length) (hp : Plc xs (U (xs.getD b Ent.zero).h) i) : i = b ∧ hasB xs (U (xs.getD b Ent.zero).h) i = true := by
  have hib : i = b := by
    rcases Nat.lt_trichotomy i b with h | h | h
    · have h1 := hp.hi i (Nat.le_refl _) (by omega)
      have h2 := (List.pairwise_iff_getElem.1 hs) i b (by omega) hb h
      simp only [List.getD, List.getElem?_eq_getElem (show i < xs.length by omega), List.getElem?_eq_getElem hb, Option.getD_some] at h1
      omega
    · exact h
    · have := hp.lo b h
      omega
  refine ⟨hib, ?_⟩
  unfold hasB
  rw [hib, decide_eq_true hb]
  simp
theorem erase_sub (xs : List Ent) (b : Nat) : (xs.take b ++ xs.drop (b + 1)).Sublist xs := by
  conv => rhs; rw [← List.take_append_drop b xs]
  refine List.Sublist.append (List.Sublist.refl _) ?_
  rw [← List.drop_drop]
  exact List.drop_sublist _ _

set_option maxRecDepth 100000 in
set_option maxHeartbeats 8000000 in
theorem bucketElders_walk0 (d p : Int) (xs : List Ent) (a : Option Addr) (c : Nat) (w : World) (hr : Rds w 4 (.slice a xs.length c) xs.length (entsV xs)) :
    Calls Try.prog 7 #[.agg #[.int .i64 d, .int .i64 p, .slice a xs.length c]] w fun e w' => e = .returned (.bool true) ∧ Below w.heap.size w w' := by
  by_cases hbig : 255 < xs.length
  · have hbi : (255 : Int) < xs.length := by omega
    have hm := hr.2.1
    unfold maxLen at hm
    go_enter Try.func7, Try.ntmps7
    go_wp2
    go_ret
    exact ⟨rfl, below_grownBy (World.grownBy_alloc _ _ none)⟩
  have hle : xs.length ≤ 255 := by omega
  have HR := Lib.hid hr
  have hri := fun W hW => rright_any d p 255 xs a c W hW
  clear hr hbig
  cases hB : rightB d p 255 xs
  · rw [hB] at hri
    have HRI := Lib.hid hri
    clear hri hB
    go_enter Try.func7, Try.ntmps7
    go_wp2_with fail
    refine (HRI.out _ (HR.out.alloc _)).mono ?_
    rintro e w1 ⟨rfl, g1⟩
    have h0 := ((Blk.new w 24 [.int .i64 d, .int .i64 p, .slice a xs.length c]).grown g1 (by simp)).cell (j := 2) rfl
    go_wp2_with fail
    refine (awake_any _).mono ?_
    rintro e w2 ⟨rfl, g2⟩
    go_wp2
    go_ret
    exact ⟨rfl, below_grownBy (grownBy_trans (grownBy_trans (World.grownBy_alloc _ _ none) g1) g2)⟩
  · rw [hB] at hri
    have HRI := Lib.hid hri
    have HSO := Lib.hid (rightB_iff.1 hB).2.2
    clear hri hB
    go_enter Try.func7, Try.ntmps7
    go_wp2_with fail
    refine (HRI.out _ (HR.out.alloc _)).mono ?_
    rintro e w1 ⟨rfl, g1⟩
    have hb := (Blk.new w 24 [.int .i64 d, .int .i64 p, .slice a xs.length c]).grown g1 (by simp)
    have h0 := hb.cell (j := 0) rfl
    have h1 := hb.cell (j := 1) rfl
    have h2 := hb.cell (j := 2) rfl
    have HB := Lib.hid hb
    have G1 := Lib.hid (grownBy_trans (World.grownBy_alloc w _ none) g1)
    clear hb g1
    go_wp2_with fail
    refine (of14_any d p xs a c _ (by omega) (HR.out.grown G1.out (by simp))).mono ?_
    rintro e w2 ⟨v, rfl, o2, g2⟩
    obtain ⟨a2, c2, rfl⟩ := (Rds.of_owns o2).slice
    have HB2 := Lib.hid (HB.out.grown g2 (by simp))
    have G2 := Lib.hid (grownBy_trans G1.out g2)
    have O2 := Lib.hid o2
    clear h0 h1 h2 o2 g2 HB G1
    go_wp2_with fail
    obtain ⟨w3, hw3⟩ : ∃ w3, (w2.alloc (.cells #[.int .i64 d, .int .i64 p, .slice a2 xs.length c2] 29)).alloc (.cells #[.int .u64 0, .int .i64 0, .int .i64 0, .int .i64 0] 41) = w3 := ⟨_, rfl⟩
    have hP : Blk w3 w2.heap.size 29 [.int .i64 d, .int .i64 p, .slice a2 xs.length c2] := by rw [← hw3]; exact (Blk.new w2 _ _).alloc _
    have hL : Blk w3 (w2.heap.size + 1) 41 Ent.zero.cells := by
      rw [← hw3]
      have := Blk.new (w2.alloc (.cells #[.int .i64 d, .int .i64 p, .slice a2 xs.length c2] 29)) 41 Ent.zero.cells
      rw [World.size_alloc] at this
      exact this
    have hg3 : w2.grownBy w3 none := by rw [← hw3]; exact grownBy_trans (World.grownBy_alloc _ _ none) (World.grownBy_alloc _ _ none)
    have hO3 := owns_grown O2.out hg3
    have hap : ∀ q, (Value.slice a2 xs.length c2).ownBlock = some q → q < w2.heap.size := fun q hq => (O2.out.lt q hq).2
    rw [hw3]
    obtain ⟨P, hPn⟩ : ∃ P, w2.heap.size = P := ⟨_, rfl⟩
    rw [hPn] at hP hL hap ⊢
    have hPw : w.heap.size < P := by rw [← hPn]; exact HB2.out.lt
    have HP := Lib.hid hP
    have HL := Lib.hid hL
    have HT := Lib.hid (HB2.out.grown hg3 (by simp))
    have HG3 := Lib.hid (grownBy_trans G2.out hg3)
    have HR3 := Lib.hid (Rds.of_owns hO3)
    have HAP : Hid (∀ q, (Value.slice a2 xs.length c2).ownBlock = some q → q ≠ P ∧ q ≠ P + 1) := Lib.hid (fun q hq => by have := hap q hq; omega)
    clear hw3 hP hL hg3 hO3 hap hPn HB2 G2 O2
    go_loopw [5] (fun i wr => ∃ (k : Nat) (ys : List Ent) (a' : Option Addr) (c' : Nat) (la : Ent), k ≤ xs.length ∧ i = .int .i64 k ∧ ys.length = xs.length - k ∧ ys.Pairwise (fun x y => U x.h < U y.h) ∧ (k = 0 ∨ ∀ y ∈ ys, eldB y la = false) ∧ Blk wr w.heap.size 24 [.int .i64 d, .int .i64 p, .slice a xs.length c] ∧ Blk wr P 29 [.int .i64 d, .int .i64 p, .slice a' ys.length c'] ∧ Blk wr (P + 1) 41 la.cells ∧ Rds wr 4 (.slice a' ys.length c') ys.length (entsV ys) ∧ (∀ q, (Value.slice a' ys.length c').ownBlock = some q → q ≠ P ∧ q ≠ P + 1) ∧ w.grownBy wr none) (fun i _ => xs.length - (intOf i).toNat)
    case atStart => exact ⟨0, xs, a2, c2, Ent.zero, by omega, rfl, by omega, HSO.out, .inl rfl, HT.out, HP.out, HL.out, HR3.out, HAP.out, HG3.out⟩
    case round =>
      clear HP HL HT HR3 HAP HG3
      obtain ⟨k, ys, a', c', la, hk, rfl, hyl, hso, hla, hT, hP, hL, hrd, hap, hg⟩ := hrel
      have HYL := Lib.hid hyl
      have HSY := Lib.hid hso
      have HLA := Lib.hid hla
      have HT := Lib.hid hT
      have HP := Lib.hid hP
      have HL := Lib.hid hL
      have HRD := Lib.hid hrd
      have HAP := Lib.hid hap
      have HG := Lib.hid hg
      have hy3 : ys.length ≤ 255 := by omega
      clear hyl hso hla hT hP hL hrd hap hg
      have t2 := HT.out.cell (j := 2) rfl
      have p0 := HP.out.cell (j := 0) rfl; have p1 := HP.out.cell (j := 1) rfl; have p2 := HP.out.cell (j := 2) rfl
      by_cases hlt : k < xs.length
      · have hki : (k : Int) < (xs.length : Int) := by omega
        have hy0 : 0 < ys.length := by have := HYL.out; omega
        obtain ⟨b, hbk⟩ := eldK_some ys ys.length hy0
        have hbl := eldK_lt ys _ b hbk
        have hei : eldI ys = (b : Int) := by unfold eldI; rw [hbk]; rfl
        have hmin := eldK_min ys _ b hbk
        have HMIN : Hid (∀ y ∈ ys, eldB y (ys.getD b Ent.zero) = false) := Lib.hid (fun y hy => by
          obtain ⟨m, hm, rfl⟩ := List.mem_iff_getElem.1 hy
          have := hmin m hm
          rwa [show ys.getD m Ent.zero = ys[m] by simp [List.getD, hm]] at this)
        have HMEM : Hid (ys.getD b Ent.zero ∈ ys) := Lib.hid (by rw [show ys.getD b Ent.zero = ys[b] by simp [List.getD, hbl]]; exact List.getElem_mem hbl)
        have HPLC := Lib.hid (fun i hp => plc_at HSY.out hbl (i := i) hp)
        have HEI := Lib.hid (pelder_any d p ys a' c' wr (by omega) HRD.out)
        rw [hei] at HEI
        clear hbk hei hmin
        go_wp2_with fail
        refine HEI.out.mono ?_
        rintro e wE ⟨rfl, gE⟩
        have HT := Lib.hid (HT.out.grown gE (by simp))
        have HP := Lib.hid (HP.out.grown gE (by simp))
        have HL := Lib.hid (HL.out.grown gE (by simp))
        have HRD := Lib.hid (HRD.out.grown gE (by simp))
        have HG := Lib.hid (grownBy_trans HG.out gE)
        clear gE HEI t2 p0 p1 p2
        obtain ⟨bb, oo, ha', hc⟩ := HRD.out.at' hy0
        obtain ⟨e0, e1, e2, e3⟩ := entsV_cells ys b hbl
        have x0 := hc _ _ e0; have x1 := hc _ _ e1; have x2 := hc _ _ e2; have x3 := hc _ _ e3
        simp only [← Nat.add_assoc] at x1 x2 x3
        obtain ⟨x, hxm⟩ : ∃ x, ys.getD b Ent.zero = x := ⟨_, rfl⟩
        rw [hxm] at x0 x1 x2 x3 HMIN HMEM HPLC
        clear hxm hc e0 e1 e2 e3
        have hbn0 : decide ((b : Int) < 0) = false := decide_eq_false (by omega)
        have hbn1 : decide ((ys.length : Int) ≤ (b : Int)) = false := decide_eq_false (by omega)
        have hbi : (b : Int) < (ys.length : Int) := by omega
        obtain ⟨wa, hwa⟩ : ∃ wa, wE.alloc (.cells #[.int .u64 (U x.h), .int .i64 x.r, .int .i64 x.a, .int .i64 x.s] 41) = wa := ⟨_, rfl⟩
        have hga : wE.grownBy wa none := by rw [← hwa]; exact World.grownBy_alloc _ _ none
        have hXa : Blk wa wE.heap.size 41 [.int .u64 (U x.h), .int .i64 x.r, .int .i64 x.a, .int .i64 x.s] := by rw [← hwa]; exact Blk.new wE _ _
        have hPa := HP.out.grown hga (by simp)
        have hLa := HL.out.grown hga (by simp)
        have HRA := Lib.hid (HRD.out.grown hga (by simp))
        have HTA := Lib.hid (HT.out.grown hga (by simp))
        have HGA := Lib.hid (grownBy_trans HG.out hga)
        have hPs : P + 1 < wE.heap.size := HL.out.lt
        have hsz : wa.heap.size = wE.heap.size + 1 := by rw [← hwa]; simp
        have p0 := HP.out.cell (j := 0) rfl; have p1 := HP.out.cell (j := 1) rfl; have p2 := HP.out.cell (j := 2) rfl
        subst ha'
        obtain ⟨X, hXn⟩ : ∃ X, wE.heap.size = X := ⟨_, rfl⟩
        rw [hXn] at hXa hPs hsz
        have hXP : X ≠ P + 1 := by omega
        have hlac : la.cells = [.int .u64 (U la.h), .int .i64 la.r, .int .i64 la.a, .int .i64 la.s] := rfl
        rw [hlac] at hLa
        have l0 := hLa.cell (j := 0) rfl; have l1 := hLa.cell (j := 1) rfl; have l2 := hLa.cell (j := 2) rfl; have l3 := hLa.cell (j := 3) rfl
        have lf0 := hLa.frozen 0; have lf1 := hLa.frozen 1; have lf2 := hLa.frozen 2; have lf3 := hLa.frozen 3
        have xa0 := hXa.cell (j := 0) rfl; have xa1 := hXa.cell (j := 1) rfl; have xa2 := hXa.cell (j := 2) rfl; have xa3 := hXa.cell (j := 3) rfl
        obtain ⟨wl, hwl⟩ : ∃ wl, (((wa.setCell ⟨P + 1, 0, none⟩ (.int .u64 (U x.h))).setCell ⟨P + 1, 1, none⟩ (.int .i64 x.r)).setCell ⟨P + 1, 2, none⟩ (.int .i64 x.a)).setCell ⟨P + 1, 3, none⟩ (.int .i64 x.s) = wl := ⟨_, rfl⟩
        have hgL : wa.grownBy wl (some (P + 1)) := by rw [← hwl]; exact grownBy_trans (grownBy_trans (grownBy_trans (grownBy_setCell _ _ _) (grownBy_setCell _ _ _)) (grownBy_setCell _ _ _)) (grownBy_setCell _ _ _)
        have hLL : Blk wl (P + 1) 41 x.cells := by rw [← hwl]; exact (((hLa.setCell 0 (.int .u64 (U x.h))).setCell 1 (.int .i64 x.r)).setCell 2 (.int .i64 x.a)).setCell 3 (.int .i64 x.s)
        have hPL := hPa.grown hgL (by simp)
        have hXL := hXa.grown hgL (by simp; exact hXP)
        have hTL := HTA.out.grown hgL (by simp; omega)
        have hRL := HRA.out.grown hgL (fun q hq e => by cases hq; exact (HAP.out _ e).2 rfl)
        have hgwL := grownBy_base2 HGA.out hgL (by omega)
        have HDR := Lib.hid (drop_any d p ys (U x.h) (some ⟨bb, oo, none⟩) c' wl (by omega) HSY.out hRL)
        have q0 := hPL.cell (j := 0) rfl; have q1 := hPL.cell (j := 1) rfl; have q2 := hPL.cell (j := 2) rfl
        have z0 := hXL.cell (j := 0) rfl
        have HLL := Lib.hid hLL
        have HPL := Lib.hid hPL
        have HTL := Lib.hid hTL
        have HGL := Lib.hid hgwL
        have HSZ : Hid (P + 1 < wl.heap.size) := Lib.hid (by have := hgL.size; omega)
        have HNUM := Lib.hid (And.intro hPs (And.intro hPw (And.intro hbl (And.intro hy0 (And.intro hy3 (And.intro hk hlt))))))
        clear hgL hLL hPL hXL hTL hRL hgwL hga hXa hPa hLa HRA HTA HGA hlac hsz hPs hPw hbl hy0 hy3 hk hXP
        by_cases hk0 : k = 0
        · subst hk0
          clear hlt
          go_wp2_with fail
          refine HDR.out.mono ?_
          obtain ⟨hPs, hPw, hbl, hy0, hy3, hk, _⟩ := HNUM.out
          rintro e wD ⟨i, a9, c9, zs, hpl, hzs, rfl, ho, gD⟩
          obtain ⟨rfl, hhb⟩ := HPLC.out i hpl
          rw [hhb, if_pos rfl] at hzs
          rw [hhb]
          have hzl : zs.length = ys.length - 1 := by rw [hzs, List.length_append, List.length_take, List.length_drop]; omega
          have hsub : zs.Sublist ys := by rw [hzs]; exact erase_sub _ _
          have HZL := Lib.hid hzl
          have HSUB := Lib.hid hsub
          have HT9 := Lib.hid (HTL.out.grown gD (by simp))
          have HP9 := Lib.hid (HPL.out.grown gD (by simp))
          have HL9 := Lib.hid (HLL.out.grown gD (by simp))
          have HG9 := Lib.hid (grownBy_trans HGL.out gD)
          have HAP9 : Hid (∀ q, (Value.slice a9 zs.length c9).ownBlock = some q → q ≠ P ∧ q ≠ P + 1) := Lib.hid (fun q hq => by have h1 := (ho.lt q hq).1; have h2 := HSZ.out; omega)
          have HO9 := Lib.hid (Rds.of_owns ho)
          clear hwa hwl hXn xa0 xa1 xa2 xa3 hpl hzs hzl hsub ho gD hhb x0 x1 x2 x3 p0 p1 p2 q0 q1 q2 z0 l0 l1 l2 l3 lf0 lf1 lf2 lf3 HDR HLL HPL HTL HGL
          have q0 := HP9.out.cell (j := 0) rfl; have q1 := HP9.out.cell (j := 1) rfl; have q2 := HP9.out.cell (j := 2) rfl
          have qf0 := HP9.out.frozen 0; have qf1 := HP9.out.frozen 1; have qf2 := HP9.out.frozen 2
          go_wp2_with fail
          have hgF : wD.grownBy (((wD.setCell ⟨P, 0, none⟩ (.int .i64 d)).setCell ⟨P, 1, none⟩ (.int .i64 p)).setCell ⟨P, 2, none⟩ (.slice a9 zs.length c9)) (some P) := grownBy_trans (grownBy_trans (grownBy_setCell _ _ _) (grownBy_setCell _ _ _)) (grownBy_setCell _ _ _)
          exact ⟨⟨1, zs, a9, c9, x, by omega, by go_num, by have := HZL.out; have := HYL.out; omega, HSY.out.sublist HSUB.out, .inr (fun y hy => HMIN.out y (HSUB.out.subset hy)), HT9.out.grown hgF (by simp; omega), ((HP9.out.setCell 0 _).setCell 1 _).setCell 2 _, HL9.out.grown hgF (by simp), HO9.out.grown hgF (fun q hq e => by cases hq; exact (HAP9.out _ e).1 rfl), HAP9.out, grownBy_base2 HG9.out hgF (by omega)⟩, by simp [intOf]; omega⟩
        · have hkp : decide ((0 : Int) < (k : Int)) = true := decide_eq_true (by omega)
          have hnl := HLA.out.resolve_left hk0 x HMEM.out
          rw [eldB_not] at hnl
          have hb1 : decide (x.r < la.r) = false := decide_eq_false (by omega)
          by_cases hre : x.r = la.r
          · have hb2 : (x.r == la.r) = true := by simp [hre]
            have hb3 : decide (x.a < la.a) = false := decide_eq_false (by omega)
            clear hnl hre
            go_wp2_with fail
            refine HDR.out.mono ?_
            obtain ⟨hPs, hPw, hbl, hy0, hy3, hk, _⟩ := HNUM.out
            rintro e wD ⟨i, a9, c9, zs, hpl, hzs, rfl, ho, gD⟩
            obtain ⟨rfl, hhb⟩ := HPLC.out i hpl
            rw [hhb, if_pos rfl] at hzs
            rw [hhb]
            have hzl : zs.length = ys.length - 1 := by rw [hzs, List.length_append, List.length_take, List.length_drop]; omega
            have hsub : zs.Sublist ys := by rw [hzs]; exact erase_sub _ _
            have HZL := Lib.hid hzl
            have HSUB := Lib.hid hsub
            have HT9 := Lib.hid (HTL.out.grown gD (by simp))
            have HP9 := Lib.hid (HPL.out.grown gD (by simp))
            have HL9 := Lib.hid (HLL.out.grown gD (by simp))
            have HG9 := Lib.hid (grownBy_trans HGL.out gD)
            have HAP9 : Hid (∀ q, (Value.slice a9 zs.length c9).ownBlock = some q → q ≠ P ∧ q ≠ P + 1) := Lib.hid (fun q hq => by have h1 := (ho.lt q hq).1; have h2 := HSZ.out; omega)
            have HO9 := Lib.hid (Rds.of_owns ho)
            clear hwa hwl hXn xa0 xa1 xa2 xa3 hpl hzs hzl hsub ho gD hhb x0 x1 x2 x3 p0 p1 p2 q0 q1 q2 z0 l0 l1 l2 l3 lf0 lf1 lf2 lf3 HDR HLL HPL HTL HGL
            have q0 := HP9.out.cell (j := 0) rfl; have q1 := HP9.out.cell (j := 1) rfl; have q2 := HP9.out.cell (j := 2) rfl
            have qf0 := HP9.out.frozen 0; have qf1 := HP9.out.frozen 1; have qf2 := HP9.out.frozen 2
            go_wp2_with fail
            have hgF : wD.grownBy (((wD.setCell ⟨P, 0, none⟩ (.int .i64 d)).setCell ⟨P, 1, none⟩ (.int .i64 p)).setCell ⟨P, 2, none⟩ (.slice a9 zs.length c9)) (some P) := grownBy_trans (grownBy_trans (grownBy_setCell _ _ _) (grownBy_setCell _ _ _)) (grownBy_setCell _ _ _)
            exact ⟨⟨k + 1, zs, a9, c9, x, by omega, by go_num, by have := HZL.out; have := HYL.out; omega, HSY.out.sublist HSUB.out, .inr (fun y hy => HMIN.out y (HSUB.out.subset hy)), HT9.out.grown hgF (by simp; omega), ((HP9.out.setCell 0 _).setCell 1 _).setCell 2 _, HL9.out.grown hgF (by simp), HO9.out.grown hgF (fun q hq e => by cases hq; exact (HAP9.out _ e).1 rfl), HAP9.out, grownBy_base2 HG9.out hgF (by omega)⟩, by simp [intOf]; omega⟩
          · have hb2 : (x.r == la.r) = false := by simp [hre]
            clear hnl hre
            go_wp2_with fail
            refine HDR.out.mono ?_
            obtain ⟨hPs, hPw, hbl, hy0, hy3, hk, _⟩ := HNUM.out
            rintro e wD ⟨i, a9, c9, zs, hpl, hzs, rfl, ho, gD⟩
            obtain ⟨rfl, hhb⟩ := HPLC.out i hpl
            rw [hhb, if_pos rfl] at hzs
            rw [hhb]
            have hzl : zs.length = ys.length - 1 := by rw [hzs, List.length_append, List.length_take, List.length_drop]; omega
            have hsub : zs.Sublist ys := by rw [hzs]; exact erase_sub _ _
            have HZL := Lib.hid hzl
            have HSUB := Lib.hid hsub
            have HT9 := Lib.hid (HTL.out.grown gD (by simp))
            have HP9 := Lib.hid (HPL.out.grown gD (by simp))
            have HL9 := Lib.hid (HLL.out.grown gD (by simp))
            have HG9 := Lib.hid (grownBy_trans HGL.out gD)
            have HAP9 : Hid (∀ q, (Value.slice a9 zs.length c9).ownBlock = some q → q ≠ P ∧ q ≠ P + 1) := Lib.hid (fun q hq => by have h1 := (ho.lt q hq).1; have h2 := HSZ.out; omega)
            have HO9 := Lib.hid (Rds.of_owns ho)
            clear hwa hwl hXn xa0 xa1 xa2 xa3 hpl hzs hzl hsub ho gD hhb x0 x1 x2 x3 p0 p1 p2 q0 q1 q2 z0 l0 l1 l2 l3 lf0 lf1 lf2 lf3 HDR HLL HPL HTL HGL
            have q0 := HP9.out.cell (j := 0) rfl; have q1 := HP9.out.cell (j := 1) rfl; have q2 := HP9.out.cell (j := 2) rfl
            have qf0 := HP9.out.frozen 0; have qf1 := HP9.out.frozen 1; have qf2 := HP9.out.frozen 2
            go_wp2_with fail
            have hgF : wD.grownBy (((wD.setCell ⟨P, 0, none⟩ (.int .i64 d)).setCell ⟨P, 1, none⟩ (.int .i64 p)).setCell ⟨P, 2, none⟩ (.slice a9 zs.length c9)) (some P) := grownBy_trans (grownBy_trans (grownBy_setCell _ _ _) (grownBy_setCell _ _ _)) (grownBy_setCell _ _ _)
            exact ⟨⟨k + 1, zs, a9, c9, x, by omega, by go_num, by have := HZL.out; have := HYL.out; omega, HSY.out.sublist HSUB.out, .inr (fun y hy => HMIN.out y (HSUB.out.subset hy)), HT9.out.grown hgF (by simp; omega), ((HP9.out.setCell 0 _).setCell 1 _).setCell 2 _, HL9.out.grown hgF (by simp), HO9.out.grown hgF (fun q hq e => by cases hq; exact (HAP9.out _ e).1 rfl), HAP9.out, grownBy_base2 HG9.out hgF (by omega)⟩, by simp [intOf]; omega⟩
      · obtain rfl : k = xs.length := by omega
        have hki : ¬ (xs.length : Int) < (xs.length : Int) := by omega
        have hys : ys = [] := List.eq_nil_of_length_eq_zero (by have := HYL.out; omega)
        subst hys
        have HEI := Lib.hid (pelder_any d p [] a' c' wr (by simp) HRD.out)
        have hei : eldI [] = -1 := rfl
        rw [hei] at HEI
        clear hei HYL HSY HLA
        dsimp only [List.length_nil] at HEI p2
        go_wp2_with fail
        refine HEI.out.mono ?_
        rintro e w8 ⟨rfl, g8⟩
        have HG8 := Lib.hid (grownBy_trans HG.out g8)
        clear g8 p0 p1 p2 t2
        go_wp2_with fail
        refine (awake_any _).mono ?_
        rintro e w9 ⟨rfl, g9⟩
        have HG9 := Lib.hid (grownBy_trans HG8.out g9)
        clear g9
        go_wp2_with fail
        go_ret
        exact ⟨rfl, below_grownBy HG9.out⟩

section
variable {H : Type} {enc : TypeId × Value → H} {r : Reach} {b0 : Nat}
set_option maxRecDepth 100000 in
theorem bucketElders_walk (w : World) {v0 : Value} {d0 : DataW H} {p0 : List MemPlace} (k0 : Value.okWide Try.prog w r b0 24 v0)
    (h0 : DataW.Trod enc Try.prog w 0 (fun _ => true) true 24 v0 d0 p0) :
    Calls Try.prog 7 #[v0] w fun e w' => e = .returned (.bool true) ∧ Below w.heap.size w w' := by
  obtain ⟨d, p, xs, a, c, rfl, hr⟩ := arg_bucket w k0 h0
  exact bucketElders_walk0 d p xs a c w hr
end

end Go.Proofs.Ytddpjfmogjcimaa
