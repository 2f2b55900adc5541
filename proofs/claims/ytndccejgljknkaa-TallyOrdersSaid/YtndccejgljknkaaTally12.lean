/- The laws of layer 16: the walk of TallyOrders. -/
import Derived.Test.YtndccejgljknkaaTally11
namespace Go.Proofs.Ytndccejgljknkaa
open Go.RowKit Go.WideShapes Go.ChangeShapes Go.ChangeAt

set_option maxRecDepth 100000 in
set_option maxHeartbeats 2000000 in
theorem tallyOrders_walk0 (ps : List (Int × Int)) (a : Option Addr) (cap : Nat) (cut : Nat) (hcut : cut ≤ 255) (w : World) (hlen : ps.length ≤ 100)
    (hr : Rds w 2 (.slice a ps.length cap) ps.length (ps.flatMap fun x => [Value.int .i64 x.1, Value.int .i64 x.2])) (hx : ∀ x ∈ ps, (-9223372036854775808 ≤ x.1 ∧ x.1 ≤ 9223372036854775807) ∧ (-9223372036854775808 ≤ x.2 ∧ x.2 ≤ 9223372036854775807)) :
    Calls Try.prog 4 #[.slice a ps.length cap, .int .u8 cut] w fun e w' => e = .returned (.bool true) ∧ Below w.heap.size w w' := by
  have hl1 : ¬ (100 : Int) < ps.length := by omega
  obtain ⟨k, hkd⟩ : ∃ k : Nat, k = cut % (ps.length + 1) := ⟨_, rfl⟩
  have hk : k ≤ ps.length := by have := Nat.mod_lt cut (show 0 < ps.length + 1 by omega); omega
  have HK : Hid ((cut : Int) % ((ps.length : Int) + 1) = k) := Lib.hid (by rw [hkd]; norm_cast)
  have HR := Lib.hid hr
  have HX := Lib.hid hx
  clear hr hx hkd
  go_enter Try.func4, Try.ntmps4
  go_wp2_with fail
  refine (new_tl 8 w (by omega)).mono ?_
  rintro e w1 ⟨rfl, t1, g1⟩
  have hs1 := t1.head.lt
  go_wp2_with fail
  refine (new_tl 8 w1 (by omega)).mono ?_
  rintro e w2 ⟨rfl, t2, g2⟩
  have hs2 := t2.head.lt
  go_wp2_with fail
  refine (new_tl 8 w2 (by omega)).mono ?_
  rintro e w3 ⟨rfl, t3, g3⟩
  have hs3 := t3.head.lt
  go_wp2_with fail
  rw [HK.out]
  have hlenD : (ps.map dec).length = ps.length := by simp
  have hT : Three w w3 w1.heap.size w2.heap.size (ps.map dec) k 0 (.slice none 0 0) := by
    refine ⟨?_, ?_, ?_, .inl ⟨by omega, rfl⟩, below_grownBy (grownBy_trans (grownBy_trans g1 g2) g3), by omega, by omega, by omega⟩
    · simpa [cnt_nil] using (t1.grown g2 (by simp) (by simp)).grown g3 (by simp) (by simp)
    · simpa [cnt_nil] using t2.grown g3 (by simp) (by simp)
    · simpa [cnt_nil] using t3
  generalize w1.heap.size = B at *
  generalize w2.heap.size = C at *
  have HT := Lib.hid hT
  clear hT t1 t2 t3 g1 g2 g3 hs1 hs2 hs3
  go_loopw [9, 10] (fun v iv wr => ∃ i : Nat, i ≤ ps.length ∧ iv = .int .i64 i ∧ Three w wr B C (ps.map dec) k i v) (fun _ iv _ => ps.length - (intOf iv).toNat)
  case atStart => exact ⟨0, Nat.zero_le _, rfl, HT.out⟩
  case round =>
    obtain ⟨i, hi, rfl, ht⟩ := hrel
    have HT3 := Lib.hid ht
    have HBel := Lib.hid ht.below
    clear ht HT
    by_cases hlt : i < ps.length
    · obtain ⟨b, off, rfl, _⟩ := HR.out.at' (by omega)
      obtain ⟨b', off', he', hc⟩ := (HR.out.later HBel.out).at' (by omega)
      simp only [Option.some.injEq, Addr.mk.injEq] at he'
      obtain ⟨rfl, rfl, _⟩ := he'
      have hbl : b < w.heap.size := HR.out.lt (pairs_ne ps i hlt) b rfl
      have hpc := pairs_cell ps i hlt
      have hpo := pairs_cell ps (ps.length - 1 - i) (by omega)
      have hc0 := hc _ _ hpc.1
      have hc1 := hc _ _ hpc.2
      have ho0 := hc _ _ hpo.1
      have ho1 := hc _ _ hpo.2
      rw [← Nat.add_assoc] at hc1 ho1
      have hxb := HX.out _ (getD_mem ps i (0, 0) hlt)
      have hob := HX.out _ (getD_mem ps (ps.length - 1 - i) (0, 0) (by omega))
      have hDi := getD_map_dec ps i hlt
      have hDo := getD_map_dec ps (ps.length - 1 - i) (by omega)
      clear hc hpc hpo
      generalize ps.getD i (0, 0) = P at *
      generalize ps.getD (ps.length - 1 - i) (0, 0) = O at *
      obtain ⟨x, y⟩ := P
      obtain ⟨x', y'⟩ := O
      simp only [] at hc0 hc1 ho0 ho1 hxb hob
      by_cases hik : i = k
      · have hike : k ≤ i := by omega
        have hge : (k : Int) ≤ i := by omega
        have hikb : ((i : Int) == (k : Int)) = true := by rw [beq_iff_eq]; omega
        have hikb2 : (i == k) = true := by rw [beq_iff_eq]; exact hik
        have HIK := Lib.hid hik
        clear hik
        go_wp2_with fail
        refine (tall _ _ _ HT3.out.a.few _ HT3.out.a.head HT3.out.a.row).mono ?_
        rintro e wA ⟨vA, rfl, oA, gA⟩
        rw [cnt_length] at oA
        have HM0 : Hid (Mid w wA B C (ps.map dec) k i vA) := Lib.hid (by
          have h1 := HT3.out
          have h2 := HIK.out
          subst h2
          exact Mid.at h1 oA gA)
        have hc0 := gA.cell hc0 (by simp)
        have hc1 := gA.cell hc1 (by simp)
        have ho0 := gA.cell ho0 (by simp)
        have ho1 := gA.cell ho1 (by simp)
        clear HT3 HBel oA gA
        go_wp2_with fail
        go_quiet (fail)
        rw [dec_kind_walk (x, y), dec_amt_walk (x, y)]
        have hk8 := dec_kind (x, y)
        have ham := dec_amount (x, y)
        have hk8' := dec_kind (x', y')
        have ham' := dec_amount (x', y')
        have HDI := Lib.hid hDi
        have HDO2 : Hid ((ps.map dec).reverse.getD i (0, 0) = dec (x', y')) := Lib.hid (by rw [getD_reverse _ _ _ (by rw [hlenD]; exact hlt), hlenD]; exact hDo)
        have hab := HM0.out.ab
        have hbc := HM0.out.bc
        clear hDi hDo
        generalize dec (x, y) = p1 at *
        obtain ⟨kk, nn⟩ := p1
        simp only [] at hk8 ham ⊢
        have HM : Hid (Mid w (wA.drewN nq) B C (ps.map dec) k i vA) := Lib.hid (HM0.out.grown (grownBy_drewN wA nq none))
        have ho0' : (wA.drewN nq).cell? ⟨b, off + (ps.length - 1 - i) * 2, none⟩ = some (.int .i64 x') := ho0
        have ho1' : (wA.drewN nq).cell? ⟨b, off + (ps.length - 1 - i) * 2 + 1, none⟩ = some (.int .i64 y') := ho1
        have HBA : Hid (∀ q ∈ (ps.map dec).take i, 0 ≤ q.2 ∧ q.2 ≤ 1125899906842623) := Lib.hid (fun q hq => dec_all ps q (List.mem_of_mem_take hq))
        have HBB : Hid (∀ q ∈ (ps.map dec).reverse.take i, 0 ≤ q.2 ∧ q.2 ≤ 1125899906842623) := Lib.hid (fun q hq => dec_all ps q (List.mem_reverse.1 (List.mem_of_mem_take hq)))
        have HBS : Hid (∀ q ∈ ((ps.map dec).take i).drop k, 0 ≤ q.2 ∧ q.2 ≤ 1125899906842623) := Lib.hid (fun q hq => dec_all ps q (List.mem_of_mem_take (List.mem_of_mem_drop hq)))
        have hLA : ((ps.map dec).take i).length ≤ 100 := by simp; omega
        have hLB : ((ps.map dec).reverse.take i).length ≤ 100 := by simp; omega
        have hLS : (((ps.map dec).take i).drop k).length ≤ 100 := by simp; omega
        clear ho0 ho1 hc0 hc1 HM0
        generalize wA.drewN nq = wq at *
        go_wp2_with fail
        refine (add_cnt HM.out.a (kk, nn) hk8 ham.1 ham.2 hLA HBA.out).mono ?_
        rintro e w4 ⟨rfl, t4, g4⟩
        have ho0'' : w4.cell? ⟨b, off + (ps.length - 1 - i) * 2, none⟩ = some (.int .i64 x') := g4.cell ho0' (by simp; omega)
        have ho1'' : w4.cell? ⟨b, off + (ps.length - 1 - i) * 2 + 1, none⟩ = some (.int .i64 y') := g4.cell ho1' (by simp; omega)
        clear ho0' ho1'
        go_wp2_with fail
        refine (add_cnt ((HM.out.s).grown g4 (by simp; omega) (by simp; omega)) (kk, nn) hk8 ham.1 ham.2 hLS HBS.out).mono ?_
        rintro e w6 ⟨rfl, t6, g6⟩
        have ho0''' : w6.cell? ⟨b, off + (ps.length - 1 - i) * 2, none⟩ = some (.int .i64 x') := g6.cell ho0'' (by simp; omega)
        have ho1''' : w6.cell? ⟨b, off + (ps.length - 1 - i) * 2 + 1, none⟩ = some (.int .i64 y') := g6.cell ho1'' (by simp; omega)
        clear ho0'' ho1''
        go_wp2_with fail
        rw [dec_kind_walk (x', y'), dec_amt_walk (x', y')]
        refine (add_cnt ((((HM.out.b).grown g4 (by simp; omega) (by simp; omega)).grown g6 (by simp; omega) (by simp; omega)).grown (World.grownBy_alloc _ _ none) (by simp) (by simp)) (dec (x', y')) hk8' ham'.1 ham'.2 hLB HBB.out).mono ?_
        rintro e w5 ⟨rfl, t5, g5⟩
        have HFIN : Hid (Three w w5 B C (ps.map dec) k (i + 1) vA) := Lib.hid (by exact HM.out.three (by rw [hlenD]; exact hlt) hike HDI.out HDO2.out t4 g4 t6 g6 t5 g5)
        go_wp2
        go_roundw
        case rel => exact ⟨i + 1, by omega, by go_num, HFIN.out⟩
        case measure => simp [intOf]; omega
      · have hikb : ((i : Int) == (k : Int)) = false := by rw [beq_eq_false_iff_ne]; omega
        have hikb2 : (i == k) = false := by rw [beq_eq_false_iff_ne]; exact hik
        have HM0 := Lib.hid (Mid.of HT3.out hik)
        clear HT3 HBel
        by_cases hike : i < k
        · have hge : ¬ (k : Int) ≤ i := by omega
          go_wp2_with fail
          go_quiet (fail)
          rw [dec_kind_walk (x, y), dec_amt_walk (x, y)]
          have hk8 := dec_kind (x, y)
          have ham := dec_amount (x, y)
          have hk8' := dec_kind (x', y')
          have ham' := dec_amount (x', y')
          have HDI := Lib.hid hDi
          have HDO2 : Hid ((ps.map dec).reverse.getD i (0, 0) = dec (x', y')) := Lib.hid (by rw [getD_reverse _ _ _ (by rw [hlenD]; exact hlt), hlenD]; exact hDo)
          have hab := HM0.out.ab
          have hbc := HM0.out.bc
          clear hDi hDo
          generalize dec (x, y) = p1 at *
          obtain ⟨kk, nn⟩ := p1
          simp only [] at hk8 ham ⊢
          have HM : Hid (Mid w (wr.drewN nq) B C (ps.map dec) k i u9) := Lib.hid (HM0.out.grown (grownBy_drewN wr nq none))
          have ho0' : (wr.drewN nq).cell? ⟨b, off + (ps.length - 1 - i) * 2, none⟩ = some (.int .i64 x') := ho0
          have ho1' : (wr.drewN nq).cell? ⟨b, off + (ps.length - 1 - i) * 2 + 1, none⟩ = some (.int .i64 y') := ho1
          have HBA : Hid (∀ q ∈ (ps.map dec).take i, 0 ≤ q.2 ∧ q.2 ≤ 1125899906842623) := Lib.hid (fun q hq => dec_all ps q (List.mem_of_mem_take hq))
          have HBB : Hid (∀ q ∈ (ps.map dec).reverse.take i, 0 ≤ q.2 ∧ q.2 ≤ 1125899906842623) := Lib.hid (fun q hq => dec_all ps q (List.mem_reverse.1 (List.mem_of_mem_take hq)))
          have HBS : Hid (∀ q ∈ ((ps.map dec).take i).drop k, 0 ≤ q.2 ∧ q.2 ≤ 1125899906842623) := Lib.hid (fun q hq => dec_all ps q (List.mem_of_mem_take (List.mem_of_mem_drop hq)))
          have hLA : ((ps.map dec).take i).length ≤ 100 := by simp; omega
          have hLB : ((ps.map dec).reverse.take i).length ≤ 100 := by simp; omega
          have hLS : (((ps.map dec).take i).drop k).length ≤ 100 := by simp; omega
          clear ho0 ho1 hc0 hc1 HM0
          generalize wr.drewN nq = wq at *
          go_wp2_with fail
          refine (add_cnt HM.out.a (kk, nn) hk8 ham.1 ham.2 hLA HBA.out).mono ?_
          rintro e w4 ⟨rfl, t4, g4⟩
          have ho0'' : w4.cell? ⟨b, off + (ps.length - 1 - i) * 2, none⟩ = some (.int .i64 x') := g4.cell ho0' (by simp; omega)
          have ho1'' : w4.cell? ⟨b, off + (ps.length - 1 - i) * 2 + 1, none⟩ = some (.int .i64 y') := g4.cell ho1' (by simp; omega)
          clear ho0' ho1'
          go_wp2_with fail
          rw [dec_kind_walk (x', y'), dec_amt_walk (x', y')]
          refine (add_cnt (((HM.out.b).grown g4 (by simp; omega) (by simp; omega)).grown (World.grownBy_alloc _ _ none) (by simp) (by simp)) (dec (x', y')) hk8' ham'.1 ham'.2 hLB HBB.out).mono ?_
          rintro e w5 ⟨rfl, t5, g5⟩
          have HFIN : Hid (Three w w5 B C (ps.map dec) k (i + 1) u9) := Lib.hid (by exact HM.out.two (by rw [hlenD]; exact hlt) hike HDI.out HDO2.out t4 g4 t5 g5)
          go_wp2
          go_roundw
          case rel => exact ⟨i + 1, by omega, by go_num, HFIN.out⟩
          case measure => simp [intOf]; omega

        · have hike : k ≤ i := by omega
          have hge : (k : Int) ≤ i := by omega
          go_wp2_with fail
          go_quiet (fail)
          rw [dec_kind_walk (x, y), dec_amt_walk (x, y)]
          have hk8 := dec_kind (x, y)
          have ham := dec_amount (x, y)
          have hk8' := dec_kind (x', y')
          have ham' := dec_amount (x', y')
          have HDI := Lib.hid hDi
          have HDO2 : Hid ((ps.map dec).reverse.getD i (0, 0) = dec (x', y')) := Lib.hid (by rw [getD_reverse _ _ _ (by rw [hlenD]; exact hlt), hlenD]; exact hDo)
          have hab := HM0.out.ab
          have hbc := HM0.out.bc
          clear hDi hDo
          generalize dec (x, y) = p1 at *
          obtain ⟨kk, nn⟩ := p1
          simp only [] at hk8 ham ⊢
          have HM : Hid (Mid w (wr.drewN nq) B C (ps.map dec) k i u9) := Lib.hid (HM0.out.grown (grownBy_drewN wr nq none))
          have ho0' : (wr.drewN nq).cell? ⟨b, off + (ps.length - 1 - i) * 2, none⟩ = some (.int .i64 x') := ho0
          have ho1' : (wr.drewN nq).cell? ⟨b, off + (ps.length - 1 - i) * 2 + 1, none⟩ = some (.int .i64 y') := ho1
          have HBA : Hid (∀ q ∈ (ps.map dec).take i, 0 ≤ q.2 ∧ q.2 ≤ 1125899906842623) := Lib.hid (fun q hq => dec_all ps q (List.mem_of_mem_take hq))
          have HBB : Hid (∀ q ∈ (ps.map dec).reverse.take i, 0 ≤ q.2 ∧ q.2 ≤ 1125899906842623) := Lib.hid (fun q hq => dec_all ps q (List.mem_reverse.1 (List.mem_of_mem_take hq)))
          have HBS : Hid (∀ q ∈ ((ps.map dec).take i).drop k, 0 ≤ q.2 ∧ q.2 ≤ 1125899906842623) := Lib.hid (fun q hq => dec_all ps q (List.mem_of_mem_take (List.mem_of_mem_drop hq)))
          have hLA : ((ps.map dec).take i).length ≤ 100 := by simp; omega
          have hLB : ((ps.map dec).reverse.take i).length ≤ 100 := by simp; omega
          have hLS : (((ps.map dec).take i).drop k).length ≤ 100 := by simp; omega
          clear ho0 ho1 hc0 hc1 HM0
          generalize wr.drewN nq = wq at *
          go_wp2_with fail
          refine (add_cnt HM.out.a (kk, nn) hk8 ham.1 ham.2 hLA HBA.out).mono ?_
          rintro e w4 ⟨rfl, t4, g4⟩
          have ho0'' : w4.cell? ⟨b, off + (ps.length - 1 - i) * 2, none⟩ = some (.int .i64 x') := g4.cell ho0' (by simp; omega)
          have ho1'' : w4.cell? ⟨b, off + (ps.length - 1 - i) * 2 + 1, none⟩ = some (.int .i64 y') := g4.cell ho1' (by simp; omega)
          clear ho0' ho1'
          go_wp2_with fail
          refine (add_cnt ((HM.out.s).grown g4 (by simp; omega) (by simp; omega)) (kk, nn) hk8 ham.1 ham.2 hLS HBS.out).mono ?_
          rintro e w6 ⟨rfl, t6, g6⟩
          have ho0''' : w6.cell? ⟨b, off + (ps.length - 1 - i) * 2, none⟩ = some (.int .i64 x') := g6.cell ho0'' (by simp; omega)
          have ho1''' : w6.cell? ⟨b, off + (ps.length - 1 - i) * 2 + 1, none⟩ = some (.int .i64 y') := g6.cell ho1'' (by simp; omega)
          clear ho0'' ho1''
          go_wp2_with fail
          rw [dec_kind_walk (x', y'), dec_amt_walk (x', y')]
          refine (add_cnt ((((HM.out.b).grown g4 (by simp; omega) (by simp; omega)).grown g6 (by simp; omega) (by simp; omega)).grown (World.grownBy_alloc _ _ none) (by simp) (by simp)) (dec (x', y')) hk8' ham'.1 ham'.2 hLB HBB.out).mono ?_
          rintro e w5 ⟨rfl, t5, g5⟩
          have HFIN : Hid (Three w w5 B C (ps.map dec) k (i + 1) u9) := Lib.hid (by exact HM.out.three (by rw [hlenD]; exact hlt) hike HDI.out HDO2.out t4 g4 t6 g6 t5 g5)
          go_wp2
          go_roundw
          case rel => exact ⟨i + 1, by omega, by go_num, HFIN.out⟩
          case measure => simp [intOf]; omega

    · obtain rfl : i = ps.length := by omega
      have hT3 := HT3.out
      have eA : cnt ((ps.map dec).take ps.length) = cnt (ps.map dec) := by rw [List.take_of_length_le (by rw [hlenD]; exact Nat.le_refl _)]
      have eB : cnt ((ps.map dec).reverse.take ps.length) = cnt (ps.map dec) := by rw [List.take_of_length_le (by simp), cnt_reverse]
      have eS : cnt (((ps.map dec).take ps.length).drop k) = cnt ((ps.map dec).drop k) := by rw [List.take_of_length_le (by rw [hlenD]; exact Nat.le_refl _)]
      obtain ⟨ta, tb, ts, hwas, hbel, hbig, hab, hbc⟩ := hT3
      rw [eA] at ta
      rw [eB] at tb
      rw [eS] at ts
      have eZ := cnt_since (ps.map dec) k (fun q hq => (dec_all ps q hq).1)
      have HZ := Lib.hid eZ
      clear HT3 eA eB eS eZ HX HR
      generalize ps.map dec = D at *
      by_cases hkl : k = ps.length
      · have hkb : ((k : Int) == (ps.length : Int)) = true := by rw [beq_iff_eq]; omega
        have hkb2 : (k == ps.length) = true := by rw [beq_iff_eq]; exact hkl
        have eK : cnt (D.take k) = cnt D := by rw [List.take_of_length_le (by omega)]
        have EK := Lib.hid eK
        clear hwas eK hkl
        go_wp2_with fail
        refine (tall _ _ _ ta.few _ ta.head ta.row).mono ?_
        rintro e wA ⟨vA, rfl, oA, gA⟩
        have rK : Rds wA 1 vA (cnt (D.take k)).length ((cnt (D.take k)).map (Value.int .i64)) := by rw [EK.out]; exact Rds.of_owns oA
        have ta := ta.grown gA (by simp) (by simp)
        have tb := tb.grown gA (by simp) (by simp)
        have ts := ts.grown gA (by simp) (by simp)
        have hbel := hbel.grown gA hbel.size (by simp)
        clear oA gA HBel
        obtain ⟨ak, ck, hvk⟩ := rK.slice
        rw [hvk] at rK
        have HVK := Lib.hid hvk
        have RK := Lib.hid rK
        clear hvk rK
        go_wp2_with fail
        refine (tall _ _ _ ta.few _ ta.head ta.row).mono ?_
        rintro e w5 ⟨v5, rfl, o5, g5⟩
        have tb5 := tb.grown g5 (by simp) (by simp)
        go_wp2_with fail
        refine (tall _ _ _ tb5.few _ tb5.head tb5.row).mono ?_
        rintro e w6 ⟨v6, rfl, o6, g6⟩
        have r5 := Rds.grown (Rds.of_owns o5) g6 (by simp)
        have r6 := Rds.of_owns o6
        go_wp2_with fail
        refine (same_any _ _ _ _ _ r5 r6).mono ?_
        rintro e w7 ⟨rfl, n7, rfl⟩
        rw [show decide (cnt D = cnt D) = true by simp]
        have g7 := grownBy_trans (grownBy_trans g5 g6) (grownBy_drewN w6 n7 none)
        have ta7 := ta.grown g7 (by simp) (by simp)
        have ts7 := ts.grown g7 (by simp) (by simp)
        have rk7 := RK.out.grown g7 (by simp)
        clear r5 r6 o5 o6 g5 g6 ta tb tb5 ts
        generalize w6.drewN n7 = w8 at *
        go_wp2_with fail
        rw [HVK.out]
        refine (tsince _ _ _ _ _ (cnt D) (cnt (D.take k)) ta7.few ta7.good _ ta7.head ta7.row rk7).mono ?_
        rintro e w9 ⟨v9, rfl, o9, b9⟩
        rw [cnt_length, HZ.out] at o9
        have ts9 := ts7.grown (grownBy_below b9) (by simp) (by simp)
        go_wp2_with fail
        refine (tall _ _ _ ts9.few _ ts9.head ts9.row).mono ?_
        rintro e w10 ⟨v10, rfl, o10, g10⟩
        have r9 : Rds w10 1 v9 (cnt (D.drop k)).length ((cnt (D.drop k)).map (Value.int .i64)) := by rw [cnt_length]; exact Rds.grown (Rds.of_owns o9) g10 (by simp)
        have r10 := Rds.of_owns o10
        go_wp2_with fail
        refine (same_any _ _ _ _ _ r9 r10).mono ?_
        rintro e w11 ⟨rfl, n11, rfl⟩
        rw [show decide (cnt (D.drop k) = cnt (D.drop k)) = true by simp]
        have g11 := grownBy_trans (grownBy_trans g7 (grownBy_below b9)) (grownBy_trans g10 (grownBy_drewN w10 n11 none))
        clear r9 r10 o9 o10 b9 g10 ts9 ts7 ta7 rk7 g7
        generalize w10.drewN n11 = w12 at *
        go_wp2_with fail
        refine (awake_any _).mono ?_
        rintro e w13 ⟨rfl, g13⟩
        go_wp2
        go_ret
        exact ⟨rfl, hbel.grown (grownBy_trans g11 g13) hbel.size (by simp)⟩
      · have hkb : ((k : Int) == (ps.length : Int)) = false := by rw [beq_eq_false_iff_ne]; omega
        have hkb2 : (k == ps.length) = false := by rw [beq_eq_false_iff_ne]; exact hkl
        have oA : wr.ownsRow (C + 2) 3 1 u9 8 ((cnt (D.take k)).map (Value.int .i64)) := by
          rcases hwas with ⟨h1, _⟩ | ⟨_, h2⟩
          · omega
          · exact h2
        have rK : Rds wr 1 u9 (cnt (D.take k)).length ((cnt (D.take k)).map (Value.int .i64)) := by rw [cnt_length]; exact Rds.of_owns oA
        clear hwas oA HBel hkl
        obtain ⟨ak, ck, hvk⟩ := rK.slice
        rw [hvk] at rK
        have HVK := Lib.hid hvk
        have RK := Lib.hid rK
        clear hvk rK
        go_wp2_with fail
        refine (tall _ _ _ ta.few _ ta.head ta.row).mono ?_
        rintro e w5 ⟨v5, rfl, o5, g5⟩
        have tb5 := tb.grown g5 (by simp) (by simp)
        go_wp2_with fail
        refine (tall _ _ _ tb5.few _ tb5.head tb5.row).mono ?_
        rintro e w6 ⟨v6, rfl, o6, g6⟩
        have r5 := Rds.grown (Rds.of_owns o5) g6 (by simp)
        have r6 := Rds.of_owns o6
        go_wp2_with fail
        refine (same_any _ _ _ _ _ r5 r6).mono ?_
        rintro e w7 ⟨rfl, n7, rfl⟩
        rw [show decide (cnt D = cnt D) = true by simp]
        have g7 := grownBy_trans (grownBy_trans g5 g6) (grownBy_drewN w6 n7 none)
        have ta7 := ta.grown g7 (by simp) (by simp)
        have ts7 := ts.grown g7 (by simp) (by simp)
        have rk7 := RK.out.grown g7 (by simp)
        clear r5 r6 o5 o6 g5 g6 ta tb tb5 ts
        generalize w6.drewN n7 = w8 at *
        go_wp2_with fail
        rw [HVK.out]
        refine (tsince _ _ _ _ _ (cnt D) (cnt (D.take k)) ta7.few ta7.good _ ta7.head ta7.row rk7).mono ?_
        rintro e w9 ⟨v9, rfl, o9, b9⟩
        rw [cnt_length, HZ.out] at o9
        have ts9 := ts7.grown (grownBy_below b9) (by simp) (by simp)
        go_wp2_with fail
        refine (tall _ _ _ ts9.few _ ts9.head ts9.row).mono ?_
        rintro e w10 ⟨v10, rfl, o10, g10⟩
        have r9 : Rds w10 1 v9 (cnt (D.drop k)).length ((cnt (D.drop k)).map (Value.int .i64)) := by rw [cnt_length]; exact Rds.grown (Rds.of_owns o9) g10 (by simp)
        have r10 := Rds.of_owns o10
        go_wp2_with fail
        refine (same_any _ _ _ _ _ r9 r10).mono ?_
        rintro e w11 ⟨rfl, n11, rfl⟩
        rw [show decide (cnt (D.drop k) = cnt (D.drop k)) = true by simp]
        have g11 := grownBy_trans (grownBy_trans g7 (grownBy_below b9)) (grownBy_trans g10 (grownBy_drewN w10 n11 none))
        clear r9 r10 o9 o10 b9 g10 ts9 ts7 ta7 rk7 g7
        generalize w10.drewN n11 = w12 at *
        go_wp2_with fail
        refine (awake_any _).mono ?_
        rintro e w13 ⟨rfl, g13⟩
        go_wp2
        go_ret
        exact ⟨rfl, hbel.grown (grownBy_trans g11 g13) hbel.size (by simp)⟩

theorem tallyOrders_big (a : Option Addr) (n cap : Nat) (cut : Int) (w : World) (hn : n ≤ maxLen) (h : 100 < n) :
    Calls Try.prog 4 #[.slice a n cap, .int .u8 cut] w fun e w' => e = .returned (.bool true) ∧ Below w.heap.size w w' := by
  unfold maxLen at hn
  have h1' : (100 : Int) < n := by omega
  go_enter Try.func4, Try.ntmps4
  go_wp2
  go_ret
  exact ⟨rfl, Below.refl _ _⟩

section
variable {H : Type} {enc : TypeId × Value → H} {r : Reach} {b0 : Nat}
theorem tallyOrders_walk (w : World) {v0 v1 : Value} {d0 d1 : DataW H} {p0 p1 : List MemPlace} (k0 : Value.okWide Try.prog w r b0 30 v0) (k1 : Value.okWide Try.prog w r b0 5 v1)
    (h0 : DataW.Trod enc Try.prog w 0 (fun _ => true) true 30 v0 d0 p0) (h1 : DataW.Trod enc Try.prog w 0 (fun _ => true) true 5 v1 d1 p1) :
    Calls Try.prog 4 #[v0, v1] w fun e w' => e = .returned (.bool true) ∧ Below w.heap.size w w' := by
  obtain ⟨ps, a, cap, rfl, hr, hg⟩ := arg_pairs w k0 h0
  obtain ⟨x, rfl, rfl, rfl, wx⟩ := open_int Try.underlying5 k1 h1
  have hb := bounds_u8 wx
  obtain ⟨n, rfl⟩ := Int.eq_ofNat_of_zero_le hb.1
  by_cases hbig : 100 < ps.length
  · exact tallyOrders_big a _ cap _ w hr.2.1 hbig
  · exact tallyOrders_walk0 ps a cap n (by omega) w (by omega) hr hg
end

end Go.Proofs.Ytndccejgljknkaa
