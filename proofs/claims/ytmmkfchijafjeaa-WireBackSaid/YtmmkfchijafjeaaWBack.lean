/- Layer 3: the walk of WireBack. -/
import Derived.Test.YtmmkfchijafjeaaWAwake
import Derived.Test.YtmmkfchijafjeaaWBackP
import Derived.Test.YtmmkfchijafjeaaArgI
import Derived.Test.YtmmkfchijafjeaaWRd
namespace Go.Proofs.Ytmmkfchijafjeaa
open Go.RowKit Go.WideShapes Go.ChangeShapes Go.ChangeAt

/-- What is known behind j calls of the writer. -/
def Told (l : List WAct) (j : Nat) (xs : List Nat) (full : Bool) : Prop := full = false → xs = encL (l.take j) ∧ ∀ x ∈ l.take j, x.may
theorem Told.next {l : List WAct} {j : Nat} {xs ys : List Nat} {full ff : Bool} (hlt : j < l.length) (h : Told l j xs full) (hk : ff = false → full = false ∧ (l.getD j WAct.zero).may ∧ ys = xs ++ (l.getD j WAct.zero).enc) : Told l (j + 1) ys ff := by
  intro hf
  obtain ⟨h1, h2, h3⟩ := hk hf
  obtain ⟨h4, h5⟩ := h h1
  rw [act_take l j hlt]
  refine ⟨by rw [h3, h4]; simp [encL], fun x hx => ?_⟩
  rcases List.mem_append.1 hx with hx | hx
  · exact h5 x hx
  · rw [List.mem_singleton] at hx
    rw [hx]
    exact h2
theorem encL_drop {l : List WAct} {j : Nat} (h : j < l.length) : encL (l.drop j) = (l.getD j WAct.zero).enc ++ encL (l.drop (j + 1)) := by
  unfold encL
  rw [List.drop_eq_getElem_cons h, List.flatMap_cons]
  simp [List.getD, h]
theorem encL_small {w : World} {l : List WAct} (h : ∀ x ∈ l, x.good w) : ∀ y ∈ encL l, y < 256 := by
  intro y hy
  unfold encL at hy
  rw [List.mem_flatMap] at hy
  obtain ⟨x, hx, hy⟩ := hy
  have hs := (h x hx).2.2.2.2
  unfold WAct.enc at hy
  split at hy
  · exact numB_lt _ _ y hy
  · split at hy
    · rcases List.mem_append.1 hy with hy | hy
      · exact numB_lt _ _ y hy
      · exact hs y hy
    · exact hs y hy
theorem may_nat {k : Int} (h : mayB k = true) : ∃ n : Nat, k = n ∧ 1 ≤ n ∧ n ≤ 8 ∧ k.toNat = n := by
  have := of_decide_eq_true h
  exact ⟨k.toNat, by omega, by omega, by omega, rfl⟩
/-- The reader, and what is left. -/
structure BSt (w0 w : World) (B : Nat) (v : Value) (ys : List Nat) : Prop where
  rr : RR w B v ys false
  newB : w0.heap.size ≤ B
  grown : w0.grownBy w none
theorem BSt.later {w0 w w' : World} {B : Nat} {v : Value} {ys : List Nat} (h : BSt w0 w B v ys) (hg : w.grownBy w' none) : BSt w0 w' B v ys := ⟨h.rr.grown hg, h.newB, grownBy_trans h.grown hg⟩
theorem BSt.read {w0 w w' : World} {B : Nat} {v v' : Value} {ys zs : List Nat} (h : BSt w0 w B v ys) (hr : RR w' B v' zs false) (hg : w.grownBy w' (some B)) : BSt w0 w' B v' zs := ⟨hr, h.newB, grownBy_base2 h.grown hg h.newB⟩

set_option maxRecDepth 100000 in
set_option maxHeartbeats 16000000 in
theorem wireBack_walk0 (lim : Int) (l : List WAct) (a : Option Addr) (c : Nat) (w : World) (hl1 : lim ≤ 9223372036854775807) (hr : Rds w 4 (.slice a l.length c) l.length (actsV l)) (hg : ∀ x ∈ l, x.good w) :
    Calls Try.prog 6 #[.int .i64 lim, .slice a l.length c] w fun e w' => e = .returned (.bool true) ∧ Below w.heap.size w w' := by
  have hli := light_any l a c w hr hg
  cases hL : lightB l
  · rw [hL] at hli
    have HLI := Lib.hid hli
    clear hli hL hr hg
    go_enter Try.func6, Try.ntmps6
    go_wp2_with fail
    refine HLI.out.mono ?_
    rintro e w1 ⟨rfl, rfl⟩
    go_wp2
    go_ret
    exact ⟨rfl, Below.refl _ _⟩
  rw [hL] at hli
  have hl40 := lightB_len hL
  have HL300 := Lib.hid (lightB_at hL)
  have HLI := Lib.hid hli
  have HR := Lib.hid hr
  have HG := Lib.hid hg
  clear hli hL hr hg
  have hq : (if 0 ≤ lim then lim else 0) = max lim 0 := by split <;> omega
  have hQ0 : 0 ≤ max lim 0 := by omega
  have HQ := Lib.hid hq
  clear hq
  go_enter Try.func6, Try.ntmps6
  go_wp2_with fail
  refine HLI.out.mono ?_
  rintro e w1 ⟨rfl, rfl⟩
  go_wp2_with fail
  refine (newWriter_any _ hl1 w).mono ?_
  rintro e w1 ⟨rfl, hw1, g1⟩
  rw [HQ.out] at hw1
  generalize max lim 0 = Q at *
  have hst : LSt w w1 w.heap.size (.slice none 0 0) [] Q false :=
    ⟨hw1, fun k hk => by
      rcases hk with h | h
      · omega
      · simp [Value.ownBlock] at h, g1, by simpa using hQ0⟩
  have HST := Lib.hid hst
  have HT0 : Hid (Told l 0 [] false) := Lib.hid (fun _ => ⟨by simp [encL], fun x hx => by simp at hx⟩)
  clear hst hw1 g1 HLI HQ hQ0
  go_wp2
  have hlm := HR.out.2.1
  unfold maxLen at hlm
  go_loopw [6] (fun i wr => ∃ (j : Nat) (v : Value) (xs : List Nat) (full : Bool), j ≤ l.length ∧ i = .int .i64 j ∧ xs.length ≤ j * 302 ∧ LSt w wr w.heap.size v xs Q full ∧ Told l j xs full) (fun i _ => l.length - (intOf i).toNat)
  case atStart => exact ⟨0, _, [], false, by omega, rfl, by simp, HST.out, HT0.out⟩
  case round =>
    obtain ⟨j, v, xs, full, hj, rfl, hxl, hst, htd⟩ := hrel
    have HS := Lib.hid hst
    have HTD := Lib.hid htd
    have hgr := hst.grown
    clear hst htd HT0
    by_cases hlt : j < l.length
    · obtain ⟨b, o, rfl, hc⟩ := HR.out.at' (by omega)
      obtain ⟨e0, e1, e2, e3⟩ := actsV_cells l j hlt
      have x0 := hgr.cell (hc _ _ e0) (by simp)
      have X1 := Lib.hid (hc _ _ e1)
      have X2 := Lib.hid (hc _ _ e2)
      have x3 := hgr.cell (hc _ _ e3) (by simp)
      simp only [← Nat.add_assoc] at x3
      have hgood := HG.out _ (acts_mem l j hlt)
      have h300 := HL300.out _ (acts_mem l j hlt)
      have HNX := Lib.hid (fun (ys : List Nat) (ff : Bool) => @Told.next l j xs ys full ff hlt HTD.out)
      have HGR := Lib.hid hgr
      clear hc e0 e1 e2 e3 hgr HTD
      generalize l.getD j WAct.zero = x at *
      obtain ⟨hk, hb, hn, hB, hsm⟩ := hgood
      have hxd : x.d = ((x.k.tmod 3 + 3) % 3).toNat := rfl
      obtain ⟨t, ht, ht1, ht2, htw, htw2, d, hd, hdt⟩ := kind3 x.k hk.1 hk.2
      rw [ht, hdt, Int.toNat_natCast] at hxd
      have HXD := Lib.hid hxd
      have HBX := Lib.hid hB
      have HBL : Hid (x.B ≠ [] → ∀ q, (Value.slice x.a x.B.length x.c).ownBlock = some q → q < w.heap.size) := Lib.hid (fun hne q hq => hB.lt (by simpa [bytesV] using hne) q hq)
      have hxn : xs.length ≤ 12080 := by omega
      clear hB hsm hk hxd
      rcases (show d = 0 ∨ d = 1 ∨ d = 2 by omega) with rfl | rfl | rfl
      · go_wp2_with fail
        have x1 := HGR.out.cell X1.out (by simp)
        have x2 := HGR.out.cell X2.out (by simp)
        simp only [← Nat.add_assoc] at x1 x2
        refine wp_region_planD (fun w' => wr.grownBy w' none) [([0, 1, 2, 3, 4, 5, 6, 7, 8, 9, 10], 11, false)] (by kernel_rfl) (by kernel_rfl) ?_
        refine wpPlanD_seg (grownBy_drewN wr 1 none) ?_
        repeat (apply wpReadD_step rfl (by rfl); (· intro wS hSw; (try have hSw := hSw rfl); (try dsimp only at hSw); (try have hx1 := hSw.cell x1 (by simp)); (try have hx2 := hSw.cell x2 (by simp)); go_simp; (try with_reducible rfl)); try simp only [Act.put, List.setIfInBounds_toArray, List.set_cons_zero, List.set_cons_succ])
        refine wpReadD_nil ?_
        refine wpOp_list rfl (fun K hK => ?_)
        go_simp
        have HS := Lib.hid (HS.out.later (grownBy_drewN wr 1 none))
        refine (wnumber_any w.heap.size v xs Q full x.n x.b _ HS.out.wr hn (by omega)).mono ?_
        rintro e w3 ⟨v', rfl, hw3, ht3, hs3⟩
        dsimp only
        refine hK _ _ ?_
        first | refine ⟨fun hf => (by cases hf), ?_⟩ | skip
        clear hK K
        try simp only [Act.put, List.setIfInBounds_toArray, List.set_cons_zero, List.set_cons_succ]
        refine wpPlanD_nil (NoPanic.normal ?_)
        obtain ⟨t3, hp1, hp2, hp3, hp4⟩ := putNum_longer xs Q full x.n x.b HS.out.few
        have htn := HNX.out (putNum xs Q full x.n x.b).1 (putNum xs Q full x.n x.b).2 (fun hf => by
          obtain ⟨k1, k2, k3⟩ := putNum_kept hf
          refine ⟨k1, fun _ => k2, ?_⟩
          rw [k3]
          unfold WAct.enc
          rw [HXD.out, if_pos rfl])
        generalize putNum xs Q full x.n x.b = pw at *
        obtain ⟨ys, ff⟩ := pw
        dsimp only at *
        have L3 := Lib.hid (HS.out.step hw3 ht3 hs3 hp2)
        have hle2 : ys.length ≤ xs.length + 302 := by rw [hp1, List.length_append]; omega
        have HTN := Lib.hid htn
        clear hw3 ht3 hs3 hp1 hp2 hp3 hp4 htn HS x0 x1 x2 x3 HNX
        go_wp2
        go_roundw
        case rel => exact ⟨j + 1, _, ys, ff, by omega, by go_num, by omega, L3.out, HTN.out⟩
        case measure => simp [intOf]; omega
      · go_wp2_with fail
        refine (wtext_any w.heap.size v xs x.B Q full x.a x.c _ HS.out.wr (by omega) (HBX.out.grown HS.out.grown (by simp))).mono ?_
        rintro e w3 ⟨v', rfl, hw3, ht3, hs3⟩
        obtain ⟨t3, hp1, hp2, hp3, hp4⟩ := putText_longer xs x.B Q full HS.out.few h300
        have htn := HNX.out (putText xs Q full x.B).1 (putText xs Q full x.B).2 (fun hf => by
          obtain ⟨k1, k3⟩ := putText_kept hf
          refine ⟨k1, fun h0 => (by rw [HXD.out] at h0; cases h0), ?_⟩
          rw [k3]
          unfold WAct.enc
          rw [HXD.out, if_neg (by decide), if_pos rfl])
        generalize putText xs Q full x.B = pw at *
        obtain ⟨ys, ff⟩ := pw
        dsimp only at *
        have L3 := Lib.hid (HS.out.step hw3 ht3 hs3 hp2)
        have hle2 : ys.length ≤ xs.length + 302 := by rw [hp1, List.length_append]; omega
        have HTN := Lib.hid htn
        clear hw3 ht3 hs3 hp1 hp2 hp3 hp4 htn HS x0 x3 HNX
        go_wp2
        go_roundw
        case rel => exact ⟨j + 1, _, ys, ff, by omega, by go_num, by omega, L3.out, HTN.out⟩
        case measure => simp [intOf]; omega
      · go_wp2_with fail
        refine (raw_any w.heap.size v xs x.B Q full x.a x.c _ HS.out.wr (by omega) (HBX.out.grown HS.out.grown (by simp)) (fun hne b hb => by have := HBL.out hne b hb; omega)).mono ?_
        rintro e w3 ⟨v', rfl, hw3, ht3, hs3⟩
        obtain ⟨t3, hp1, hp2, hp3, hp4⟩ := putW_longer xs x.B Q full 302 HS.out.few (by omega)
        have htn := HNX.out (putW xs Q full x.B).1 (putW xs Q full x.B).2 (fun hf => by
          obtain ⟨k1, k3⟩ := putW_kept hf
          refine ⟨k1, fun h0 => (by rw [HXD.out] at h0; cases h0), ?_⟩
          rw [k3]
          unfold WAct.enc
          rw [HXD.out, if_neg (by decide), if_neg (by decide)])
        generalize putW xs Q full x.B = pw at *
        obtain ⟨ys, ff⟩ := pw
        dsimp only at *
        have L3 := Lib.hid (HS.out.step hw3 ht3 hs3 hp2)
        have hle2 : ys.length ≤ xs.length + 302 := by rw [hp1, List.length_append]; omega
        have HTN := Lib.hid htn
        clear hw3 ht3 hs3 hp1 hp2 hp3 hp4 htn HS x0 x3 HNX
        go_wp2
        go_roundw
        case rel => exact ⟨j + 1, _, ys, ff, by omega, by go_num, by omega, L3.out, HTN.out⟩
        case measure => simp [intOf]; omega
    · obtain rfl : j = l.length := by omega
      have hxn : xs.length ≤ 12080 := by omega
      clear hgr
      go_wp2_with fail
      refine (wfull_any _ _ _ _ _ _ HS.out.wr).mono ?_
      rintro e w3 ⟨rfl, rfl⟩
      cases full with
      | true =>
        go_wp2_with fail
        refine (awake_any _).mono ?_
        rintro e w3 ⟨rfl, g3⟩
        go_wp2
        go_ret
        exact ⟨rfl, below_grownBy (grownBy_trans HS.out.grown g3)⟩
      | false =>
        obtain ⟨hx, hmay⟩ := HTD.out rfl
        rw [List.take_length] at hx hmay
        have HMAY := Lib.hid hmay
        have HX := Lib.hid hx
        clear hmay HTD hx
        go_wp2_with fail
        refine (wbytes_any _ _ _ _ _ _ HS.out.wr).mono ?_
        rintro e w4 ⟨a4, c4, rfl, o4, g4⟩
        have G4 := Lib.hid (grownBy_trans HS.out.grown g4)
        have O4 := Lib.hid (Rds.of_owns o4)
        have hs4 := G4.out.size
        clear o4 g4 HS
        have hsm := encL_small HG.out
        rw [← HX.out] at hsm
        go_wp2_with fail
        refine (newReader_any xs a4 c4 _ (by omega) hsm O4.out).mono ?_
        rintro e w5 ⟨B, v5, rfl, hrr, hB5, _, g5⟩
        have hbs : BSt w w5 B v5 (encL l) := ⟨by rw [← HX.out]; exact hrr, Nat.le_trans hs4 hB5, grownBy_trans G4.out g5⟩
        have HBS := Lib.hid hbs
        clear hbs hrr hB5 g5 hsm HX G4 O4 hs4 hxl hxn
        go_wp2
        go_loopw [8] (fun i wr => ∃ (j : Nat) (v : Value), j ≤ l.length ∧ i = .int .i64 j ∧ BSt w wr B v (encL (l.drop j))) (fun i _ => l.length - (intOf i).toNat)
        case atStart => exact ⟨0, _, by omega, rfl, by rw [List.drop_zero]; exact HBS.out⟩
        case round =>
          obtain ⟨j, v, hj, rfl, hst⟩ := hrel
          have hgr := hst.grown
          by_cases hlt : j < l.length
          · rw [encL_drop hlt] at hst
            obtain ⟨b, o, rfl, hc⟩ := HR.out.at' (by omega)
            obtain ⟨e0, e1, e2, e3⟩ := actsV_cells l j hlt
            have x0 := hgr.cell (hc _ _ e0) (by simp)
            have X1 := Lib.hid (hc _ _ e1)
            have X2 := Lib.hid (hc _ _ e2)
            have X3 := Lib.hid (hc _ _ e3)
            have hgood := HG.out _ (acts_mem l j hlt)
            have h300 := HL300.out _ (acts_mem l j hlt)
            have hmx := HMAY.out _ (acts_mem l j hlt)
            clear hc e0 e1 e2 e3 hgr
            generalize l.getD j WAct.zero = x at *
            obtain ⟨hk, hb, hn, hB, hsm⟩ := hgood
            have hxd : x.d = ((x.k.tmod 3 + 3) % 3).toNat := rfl
            obtain ⟨t, ht, ht1, ht2, htw, htw2, d, hd, hdt⟩ := kind3 x.k hk.1 hk.2
            rw [ht, hdt, Int.toNat_natCast] at hxd
            have HBX := Lib.hid hB
            clear hB hsm hk
            rcases (show d = 0 ∨ d = 1 ∨ d = 2 by omega) with rfl | rfl | rfl
            · have hmay := hmx hxd
              have henc : x.enc = numB x.n x.b.toNat := by unfold WAct.enc; rw [hxd, if_pos rfl]
              rw [henc] at hst
              obtain ⟨n1, n2, n3⟩ := num_read x.n x.b (encL (l.drop (j + 1))) hmay
              obtain ⟨kk, hkk, hk1, hk8, hkn⟩ := may_nat hmay
              simp only [hkk, Int.toNat_natCast] at hst n1 n2 n3
              have HST := Lib.hid hst
              have x1 := HST.out.grown.cell X1.out (by simp)
              have x2 := HST.out.grown.cell X2.out (by simp)
              simp only [← Nat.add_assoc] at x1 x2
              rw [hkk] at x1
              have hrn := rnum_any B v _ false (kk : Int) wr hst.rr
              unfold NPost at hrn
              rw [n1, n2, n3] at hrn
              have HRN := Lib.hid hrn
              have HKK := Lib.hid hkk
              have HU := Lib.hid (up8_zero hn)
              have hu2 : x.n % 256 ^ kk < 18446744073709551616 := Nat.lt_of_le_of_lt (Nat.mod_le _ _) hn
              have HU2 := Lib.hid (up8_zero hu2)
              have HCUT := Lib.hid (up8_cut x.n kk hk8)
              clear hst henc hmx n1 n2 n3 hmay hkk hkn hn hb hrn hu2
              go_wp2
              go_loopw [9, 10] (fun n k wr' => ∃ m : Nat, m ≤ 8 - kk ∧ n = .int .u64 ((up8 x.n m : Nat) : Int) ∧ k = .int .i64 ((kk + m : Nat) : Int) ∧ wr' = wr) (fun _ k _ => 8 - (intOf k).toNat)
              case atStart => exact ⟨0, by omega, by rw [HU.out], by rfl, rfl⟩
              case round =>
                obtain ⟨m, hm, rfl, rfl, rfl⟩ := hrel
                by_cases hmk : m < 8 - kk
                · have h8 : ((kk + m : Nat) : Int) < 8 := by omega
                  have hup := up8_succ x.n m
                  go_wp2
                  go_roundw
                  case rel => exact ⟨m + 1, by omega, rfl, by go_num, trivial⟩
                  case measure => simp [intOf]; omega
                · obtain rfl : m = 8 - kk := by omega
                  have h8 : ¬ ((kk + (8 - kk) : Nat) : Int) < 8 := by omega
                  clear hmk hm
                  generalize up8 x.n (8 - kk) = goal at *
                  go_wp2_with fail
                  refine HRN.out.mono ?_
                  rintro e w6 ⟨v6, rfl, hr6, ho6, g6⟩
                  have HS6 := Lib.hid (HST.out.read hr6 g6)
                  have x1 := HS6.out.grown.cell X1.out (by simp)
                  simp only [← Nat.add_assoc] at x1
                  rw [HKK.out] at x1
                  clear hr6 ho6 g6 HST HRN x0 x2 HU
                  go_wp2
                  go_loopw [11, 12] (fun n k wr' => ∃ m : Nat, m ≤ 8 - kk ∧ n = .int .u64 ((up8 (x.n % 256 ^ kk) m : Nat) : Int) ∧ k = .int .i64 ((kk + m : Nat) : Int) ∧ wr' = w6) (fun _ k _ => 8 - (intOf k).toNat)
                  case atStart => exact ⟨0, by omega, by rw [HU2.out]; push_cast; rfl, by rfl, rfl⟩
                  case round =>
                    obtain ⟨m, hm, rfl, rfl, rfl⟩ := hrel
                    by_cases hmk : m < 8 - kk
                    · have h8 : ((kk + m : Nat) : Int) < 8 := by omega
                      have hup := up8_succ (x.n % 256 ^ kk) m
                      go_wp2
                      go_roundw
                      case rel => exact ⟨m + 1, by omega, rfl, by go_num, trivial⟩
                      case measure => simp [intOf]; omega
                    · obtain rfl : m = 8 - kk := by omega
                      have h8 : ¬ ((kk + (8 - kk) : Nat) : Int) < 8 := by omega
                      clear hmk hm
                      rw [HCUT.out]
                      have hne : ((goal : Int) != (goal : Int)) = false := by simp
                      go_wp2
                      go_roundw
                      case rel => exact ⟨j + 1, _, by omega, by go_num, HS6.out⟩
                      case measure => simp [intOf]; omega
            · have henc : x.enc = numB x.B.length 2 ++ x.B := by unfold WAct.enc; rw [hxd, if_neg (by decide), if_pos rfl]
              rw [henc] at hst
              obtain ⟨n1, n2, n3⟩ := text_read x.B (encL (l.drop (j + 1))) h300
              have HST := Lib.hid hst
              have x3 := HST.out.grown.cell X3.out (by simp)
              simp only [← Nat.add_assoc] at x3
              have hrn := fun W hW => rtext_any B v ((numB x.B.length 2 ++ x.B) ++ encL (l.drop (j + 1))) false W hW
              unfold TPost at hrn
              rw [n1, n2, n3] at hrn
              have HRN := Lib.hid hrn
              clear hst henc hmx n1 n2 n3 hrn
              go_wp2_with fail
              refine wp_region_planD (fun w' => w.grownBy w' none) [([0, 3, 4, 5, 6, 7, 8], 1, true), ([], 2, true), ([], 9, false)] (by kernel_rfl) (by kernel_rfl) ?_
              refine wpPlanD_seg (grownBy_trans HST.out.grown (grownBy_drewN wr 1 none)) ?_
              repeat (apply wpReadD_step rfl (by rfl); (· intro wS hSw; (try have hSw := hSw rfl); (try dsimp only at hSw); (try have hx3 := hSw.cell X3.out (by simp)); (try simp only [← Nat.add_assoc] at hx3); (try have hcv := conv_rds (HBX.out.grown hSw (by simp))); go_simp; (try with_reducible rfl)); try simp only [Act.put, List.setIfInBounds_toArray, List.set_cons_zero, List.set_cons_succ])
              refine wpReadD_nil ?_
              refine wpOp_list rfl (fun K hK => ?_)
              go_simp
              refine (HRN.out _ (HST.out.rr.grown (grownBy_drewN wr 1 none))).mono ?_
              rintro e w6 ⟨a6, c6, v6, rfl, o6, hr6, ho6, g6⟩
              dsimp only
              have HS6 := Lib.hid ((HST.out.later (grownBy_drewN wr 1 none)).read hr6 g6)
              have hcv := conv_rds (Rds.of_owns o6)
              refine hK _ _ ⟨fun _ => HS6.out.grown, ?_⟩
              clear hK K hr6 ho6 g6 o6 HST HRN x0 x3
              try simp only [Act.put, List.setIfInBounds_toArray, List.set_cons_zero, List.set_cons_succ]
              refine wpPlanD_one ?_
              refine wpOp_list rfl (fun K hK => ?_)
              go_simp
              refine hK _ _ ⟨fun _ => HS6.out.grown, ?_⟩
              clear hK K hcv
              try simp only [Act.put, List.setIfInBounds_toArray, List.set_cons_zero, List.set_cons_succ]
              have hbe := strN_beq x.B
              have hbn : ((strN x.B).toList != (strN x.B).toList) = false := by simp
              refine wpPlanD_one ?_
              refine wpOp_list rfl (fun K hK => ?_)
              go_simp
              refine hK _ _ ?_
              first | refine ⟨fun hf => (by cases hf), ?_⟩ | skip
              clear hK K
              try simp only [Act.put, List.setIfInBounds_toArray, List.set_cons_zero, List.set_cons_succ]
              refine wpPlanD_nil (NoPanic.normal ?_)
              go_wp2
              go_roundw
              case rel => exact ⟨j + 1, _, by omega, by go_num, HS6.out⟩
              case measure => simp [intOf]; omega
            · have henc : x.enc = x.B := by unfold WAct.enc; rw [hxd, if_neg (by decide), if_neg (by decide)]
              rw [henc] at hst
              obtain ⟨n1, n2, n3⟩ := takeN_app x.B (encL (l.drop (j + 1))) (x.B.length : Int) rfl
              have HST := Lib.hid hst
              have x3 := HST.out.grown.cell X3.out (by simp)
              simp only [← Nat.add_assoc] at x3
              have hrn := fun W hW => rraw_any B v (x.B ++ encL (l.drop (j + 1))) false (x.B.length : Int) W hW
              unfold RPost2 at hrn
              rw [n1, n2, n3] at hrn
              have HRN := Lib.hid hrn
              clear hst henc hmx n1 n2 n3 hrn
              go_wp2_with fail
              refine wp_region_planD (fun w' => w.grownBy w' none) [([0, 1, 2, 3, 4, 5, 6, 9, 10, 11, 12, 13, 14], 7, true), ([], 8, true), ([], 15, false)] (by kernel_rfl) (by kernel_rfl) ?_
              refine wpPlanD_seg (grownBy_trans HST.out.grown (grownBy_drewN wr 1 none)) ?_
              repeat (apply wpReadD_step rfl (by rfl); (· intro wS hSw; (try have hSw := hSw rfl); (try dsimp only at hSw); (try have hx3 := hSw.cell X3.out (by simp)); (try simp only [← Nat.add_assoc] at hx3); (try have hcv := conv_rds (HBX.out.grown hSw (by simp))); go_simp; (try with_reducible rfl)); try simp only [Act.put, List.setIfInBounds_toArray, List.set_cons_zero, List.set_cons_succ])
              refine wpReadD_nil ?_
              refine wpOp_list rfl (fun K hK => ?_)
              go_simp
              refine (HRN.out _ (HST.out.rr.grown (grownBy_drewN wr 1 none))).mono ?_
              rintro e w6 ⟨a6, c6, v6, rfl, o6, hr6, ho6, g6⟩
              dsimp only
              have HS6 := Lib.hid ((HST.out.later (grownBy_drewN wr 1 none)).read hr6 g6)
              have hcv := conv_rds (Rds.of_owns o6)
              refine hK _ _ ⟨fun _ => HS6.out.grown, ?_⟩
              clear hK K hr6 ho6 g6 o6 HST HRN x0 x3
              try simp only [Act.put, List.setIfInBounds_toArray, List.set_cons_zero, List.set_cons_succ]
              refine wpPlanD_one ?_
              refine wpOp_list rfl (fun K hK => ?_)
              go_simp
              refine hK _ _ ⟨fun _ => HS6.out.grown, ?_⟩
              clear hK K hcv
              try simp only [Act.put, List.setIfInBounds_toArray, List.set_cons_zero, List.set_cons_succ]
              have hbe := strN_beq x.B
              have hbn : ((strN x.B).toList != (strN x.B).toList) = false := by simp
              refine wpPlanD_one ?_
              refine wpOp_list rfl (fun K hK => ?_)
              go_simp
              refine hK _ _ ?_
              first | refine ⟨fun hf => (by cases hf), ?_⟩ | skip
              clear hK K
              try simp only [Act.put, List.setIfInBounds_toArray, List.set_cons_zero, List.set_cons_succ]
              refine wpPlanD_nil (NoPanic.normal ?_)
              go_wp2
              go_roundw
              case rel => exact ⟨j + 1, _, by omega, by go_num, HS6.out⟩
              case measure => simp [intOf]; omega
          · obtain rfl : j = l.length := by omega
            rw [List.drop_length] at hst
            have HST := Lib.hid hst
            clear hst hgr
            go_wp2_with fail
            refine (rbad_any _ _ _ _ _ HST.out.rr).mono ?_
            rintro e w6 ⟨rfl, rfl⟩
            go_wp2_with fail
            refine (rrest_any _ _ _ _ _ HST.out.rr).mono ?_
            rintro e w7 ⟨a7, c7, rfl, o7, g7⟩
            simp only [encL, List.flatMap_nil, List.length_nil]
            clear o7
            go_wp2_with fail
            refine (awake_any _).mono ?_
            rintro e w8 ⟨rfl, g8⟩
            go_wp2
            go_ret
            exact ⟨rfl, below_grownBy (grownBy_trans (grownBy_trans HST.out.grown g7) g8)⟩

end Go.Proofs.Ytmmkfchijafjeaa
