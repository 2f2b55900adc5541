/- Layer 20, the document: Pack. -/
import Derived.Test.YtbjpjnkaaiajlaaScRT
import Derived.Test.YtbjpjnkaaiajlaaScRR
namespace Go.Proofs.Ytbjpjnkaaiajlaa
open Go.RowKit

def SAct.rcells (x : SAct) : List Value := [.int .i64 x.k, .string (strN x.key), .string (strN x.val), .int .i64 x.n, .slice x.na x.ns.length x.nc]
def ractsV (l : List SAct) : List Value := l.flatMap SAct.rcells
structure SAct.rgood (w : World) (x : SAct) : Prop where
  key : ∀ y ∈ x.key, y < 256
  val : ∀ y ∈ x.val, y < 256
  ns : Rds w 1 (.slice x.na x.ns.length x.nc) x.ns.length (intsV x.ns)
theorem ractsV_get (l : List SAct) (i j : Nat) (h : i < l.length) (hj : j < 5) : (ractsV l)[i * 5 + j]? = (l.getD i default).rcells[j]? :=
  flatMap_get SAct.rcells 5 (fun _ => rfl) l i j (l.getD i default) (by simp [List.getD, h]) hj
/-- The sort of a kind, and its number. -/
def sort7 (k : Int) (f : Form) : Prop :=
  (f.key = true ∧ f.value = false ∧ f.num = false ∧ f.nums = 0 ∧ f.just = false ∧ k ≠ 7) ∨ (f.key = true ∧ f.value = true ∧ f.num = true ∧ f.nums = 0 ∧ f.just = false ∧ k ≠ 7) ∨ (f.key = false ∧ f.value = false ∧ f.num = false ∧ f.nums = 0 ∧ f.just = false ∧ k ≠ 7) ∨
  (f.key = false ∧ f.value = false ∧ f.num = true ∧ f.nums = 0 ∧ f.just = false ∧ k ≠ 7) ∨ (f.key = false ∧ f.value = false ∧ f.num = false ∧ f.nums = 100 ∧ f.just = false ∧ k = 7) ∨ (f.key = false ∧ f.value = false ∧ f.num = false ∧ f.nums = 3 ∧ f.just = true ∧ k ≠ 7)
theorem sort_7 (k : Int) : sort7 k (formX k) := by
  by_cases h : 0 ≤ k ∧ k < 10
  · obtain ⟨m, rfl⟩ := Int.eq_ofNat_of_zero_le h.1
    unfold formX
    rw [if_pos (isK_iff.2 h), Int.toNat_natCast]
    rcases (show m = 0 ∨ m = 1 ∨ m = 2 ∨ m = 3 ∨ m = 4 ∨ m = 5 ∨ m = 6 ∨ m = 7 ∨ m = 8 ∨ m = 9 by omega) with rfl | rfl | rfl | rfl | rfl | rfl | rfl | rfl | rfl | rfl <;> simp [sort7, formOf]
  · have hk : formX k = noForm := by
      unfold formX
      rw [if_neg (fun h' => h (isK_iff.1 h'))]
    rw [hk]
    have : k ≠ 7 := by omega
    simp [sort7, noForm, this]

set_option maxRecDepth 100000 in
set_option maxHeartbeats 8000000 in
theorem rpack_any (l : List SAct) (a : Option Addr) (c : Nat) (w : World) (hr : Rds w 5 (.slice a l.length c) l.length (ractsV l)) (hg : ∀ x ∈ l, x.rgood w) (hl : l.length ≤ 60000) (hb : (l.flatMap SAct.bytes).length ≤ 30000000) :
    Calls Try.prog 11 #[.slice a l.length c] w fun e w' => ∃ a' c', e = .returned (.tuple #[.slice a' (packOf l).1.length c', .int .i64 ((packOf l).2 : Int)]) ∧ w'.ownsRow w.heap.size 5 1 (.slice a' (packOf l).1.length c') (packOf l).1.length (bytesV (packOf l).1) ∧ w.grownBy w' none := by
  obtain ⟨i0, hi, hz0, hz1, hz2⟩ := info_parts infoByte
  have HR := Lib.hid hr
  have HG := Lib.hid hg
  have hcl : IntKind.u64.wrap (l.length : Int) = l.length := by rw [IntKind.wrap_u64]; omega
  clear hr hg
  go_enter Try.func11, Try.ntmps11
  go_wp2_with fail
  refine (rnumber_any l.length 4 (by omega) (by omega) _).mono ?_
  rintro e w2 ⟨a0, c0, rfl, o2, g2⟩
  have HO := Lib.hid o2
  have HG1 := Lib.hid g2
  clear o2 g2
  go_wp2_with fail
  have hb4 : (numB l.length 4).length = 4 := numB_len _ _
  go_loopw [4, 5] (fun o i wr => ∃ (j : Nat) (a1 : Option Addr) (c1 m1 : Nat), j ≤ l.length ∧ i = .int .i64 j ∧ o = .slice a1 m1 c1 ∧ (l.take j).all SAct.right = true ∧ wr.ownsRow w.heap.size 5 1 (.slice a1 m1 c1) m1 (bytesV (numB l.length 4 ++ (l.take j).flatMap SAct.bytes)) ∧ w.grownBy wr none) (fun _ i _ => l.length - (intOf i).toNat)
  case atStart => exact ⟨0, a0, c0, 4, by omega, rfl, rfl, by simp, by simpa using HO.out, HG1.out⟩
  case round =>
    clear HO HG1
    obtain ⟨j, a1, c1, m1, hj, rfl, rfl, hall, ho, hgr⟩ := hrel
    have hpl := pfx_len l j
    have hml : m1 = (numB l.length 4 ++ (l.take j).flatMap SAct.bytes).length := by
      have := ho.1
      rw [bytesV_len] at this
      omega
    have hmb : m1 ≤ 30000004 := by rw [hml, List.length_append]; omega
    have HML := Lib.hid hml
    clear hml hpl
    by_cases hlt : j < l.length
    · obtain ⟨b, o, rfl, hc⟩ := HR.out.at' (by omega)
      have x0 := hgr.cell (hc _ _ (ractsV_get l j 0 hlt (by omega))) (by simp)
      have x1 := hgr.cell (hc _ _ (ractsV_get l j 1 hlt (by omega))) (by simp)
      have x2 := hgr.cell (hc _ _ (ractsV_get l j 2 hlt (by omega))) (by simp)
      have x3 := hgr.cell (hc _ _ (ractsV_get l j 3 hlt (by omega))) (by simp)
      have x4 := hgr.cell (hc _ _ (ractsV_get l j 4 hlt (by omega))) (by simp)
      simp only [← Nat.add_assoc, Nat.add_zero] at x0 x1 x2 x3 x4
      have hgd := HG.out _ (sact_mem l j hlt)
      have hmem := sact_mem l j hlt
      have htk := sact_take l j hlt
      obtain ⟨x, hx⟩ : ∃ x, l.getD j default = x := ⟨_, rfl⟩
      rw [hx] at x0 x1 x2 x3 x4 hgd hmem htk
      have HGD := Lib.hid hgd
      have HMEM := Lib.hid hmem
      have HTK := Lib.hid htk
      have HO := Lib.hid ho
      have HALL := Lib.hid hall
      have HG1 := Lib.hid hgr
      clear hc hx hgd hmem htk ho hall hgr
      obtain ⟨k, key, val, n, ns, ka, va, na, kc, vc, nc⟩ := x
      dsimp only at x0 x1 x2 x3 x4
      have hji : (j : Int) < (l.length : Int) := by omega
      go_wp2_with fail
      refine (rright_any k n key val na ns.length nc _).mono ?_
      rintro e w3 ⟨rfl, g3⟩
      have hblk := (Blk.new wr 38 [.int .i64 k, .string (strN key), .string (strN val), .int .i64 n, .slice na ns.length nc]).grown g3 (by simp)
      have hgn := grownBy_trans (World.grownBy_alloc wr (.cells #[.int .i64 k, .string (strN key), .string (strN val), .int .i64 n, .slice na ns.length nc] 38) none) g3
      have HO := Lib.hid (owns_grown HO.out hgn)
      have HG1 := Lib.hid (grownBy_trans HG1.out hgn)
      obtain ⟨X, hX⟩ : ∃ X, wr.heap.size = X := ⟨_, rfl⟩
      rw [hX] at hblk ⊢
      have z0 := hblk.cell (j := 0) rfl
      have z1 := hblk.cell (j := 1) rfl
      have z2 := hblk.cell (j := 2) rfl
      have z3 := hblk.cell (j := 3) rfl
      have z4 := hblk.cell (j := 4) rfl
      have HX := Lib.hid hblk
      clear hgn g3 x0 x1 x2 x3 x4 hX hblk
      cases hri : rightB k key.length val.length ns.length n
      · have hpo : packOf l = ([], 17) := if_neg (fun h => by
          have := List.all_eq_true.1 h _ HMEM.out
          unfold SAct.right at this
          dsimp only at this
          rw [hri] at this
          cases this)
        have HPO := Lib.hid hpo
        clear hpo
        go_wp2_with fail
        go_ret2
        rw [HPO.out]
        exact ⟨none, 0, rfl, World.ownsRow_nil _ _ _ _, HG1.out⟩
      · obtain ⟨r1, r2, r3⟩ := right_k (x := ⟨k, key, val, n, ns, ka, va, na, kc, vc, nc⟩) hri
        dsimp only at r1 r2 r3
        have HRI := Lib.hid hri
        have hisk : isK k = true := by
          unfold rightB at hri
          simp only [Bool.and_eq_true] at hri
          exact hri.1.1.1.1.1.1.1
        have hkk := isK_iff.1 hisk
        clear hri hisk
        obtain ⟨kn, rfl⟩ := Int.eq_ofNat_of_zero_le hkk.1
        have hk8 : IntKind.u8.wrap (kn : Int) = kn := by rw [IntKind.wrap_u8]; omega
        have hn8 : IntKind.u8.wrap (ns.length : Int) = ns.length := by rw [IntKind.wrap_u8]; omega
        have hcn := wrap_uI n
        have hun1 := uI_lt n
        have HA : Hid (actB (kn : Int) key val n ns = actB (kn : Int) key val n ns) := Lib.hid rfl
        rw [show (actB (kn : Int) key val n ns = actB (kn : Int) key val n ns) = (actB (kn : Int) key val n ns = numB (uI kn) 1 ++ (if (formX kn).key = true then numB key.length 2 ++ key else []) ++ (if (formX kn).value = true then numB val.length 2 ++ val else []) ++ (if (formX kn).num = true then numB (uI n) 8 else []) ++ (if (0 < (formX kn).nums ∧ (formX kn).just = false) then numB ns.length 1 else []) ++ numsB ns) from rfl] at HA
        rw [show numB (uI (kn : Int)) 1 = [kn] by
          have : uI (kn : Int) = kn := by unfold uI; omega
          rw [this]
          show [kn / 256 ^ 0 % 256] = [kn]
          rw [Nat.pow_zero, Nat.div_one, Nat.mod_eq_of_lt (by omega)]] at HA
        rw [show numB ns.length 1 = [ns.length] by
          show [ns.length / 256 ^ 0 % 256] = [ns.length]
          rw [Nat.pow_zero, Nat.div_one, Nat.mod_eq_of_lt (by omega)]] at HA
        obtain ⟨un, hun⟩ : ∃ m, uI n = m := ⟨_, rfl⟩
        rw [hun] at hcn hun1 HA
        have hso := sort_7 (kn : Int)
        have HHS := Lib.hid (fun W => rhas_any (kn : Int) W)
        obtain ⟨f, hf⟩ : ∃ f, formX (kn : Int) = f := ⟨_, rfl⟩
        rw [hf] at hso HA HHS
        have HSO := Lib.hid hso
        obtain ⟨zs, hzs⟩ : ∃ zs, numB l.length 4 ++ (l.take j).flatMap SAct.bytes = zs := ⟨_, rfl⟩
        rw [hzs] at HO HML
        have HZ0 := Lib.hid hzs
        clear hun hf hso hzs HML
        obtain ⟨nm, fk, fv, fn, fns, fj⟩ := f
        dsimp only at HA HHS
        unfold sort7 at HSO
        dsimp only at HSO
        go_wp2_with fail
        refine (HHS.out _).mono ?_
        rintro e w4 ⟨rfl, g4⟩
        have HO := Lib.hid ((owns_grown HO.out g4).alloc (.cells #[.bool fk, .bool fv, .bool fn] 60))
        have HG1 := Lib.hid (grownBy_trans HG1.out (grownBy_trans g4 (World.grownBy_alloc w4 (.cells #[.bool fk, .bool fv, .bool fn] 60) none)))
        have HX := Lib.hid ((HX.out.grown g4 (by simp)).alloc (.cells #[.bool fk, .bool fv, .bool fn] 60))
        have hhb := Blk.new w4 60 [.bool fk, .bool fv, .bool fn]
        have z0 := HX.out.cell (j := 0) rfl
        clear g4 z1 z2 z3 z4 HHS
        have hbk := Rds.of_blk (sz := 1) (n := 1) (c := 1) (Blk.new (w4.alloc (.cells #[.bool fk, .bool fv, .bool fn] 60)) 5 [.int .u8 (kn : Int)]) rfl (by unfold maxLen; omega)
        rw [World.size_alloc] at hbk
        have HBK := Lib.hid hbk
        have HO := Lib.hid (HO.out.alloc (.cells #[.int .u8 (kn : Int)] 5))
        have HG1 := Lib.hid (grownBy_trans HG1.out (World.grownBy_alloc _ (.cells #[.int .u8 (kn : Int)] 5) none))
        have HX := Lib.hid (HX.out.alloc (.cells #[.int .u8 (kn : Int)] 5))
        have HY := Lib.hid (hhb.alloc (.cells #[.int .u8 (kn : Int)] 5))
        have HSZ := Lib.hid HG1.out.size
        have HNS := Lib.hid HGD.out.ns
        have HKS := Lib.hid HGD.out.key
        have HVS := Lib.hid HGD.out.val
        dsimp only at HNS HKS HVS
        clear hhb hbk HGD HMEM
        rcases HSO.out with h | h | h | h | h | h <;> obtain ⟨h1, h2, h3, h4, h5, h6⟩ := h <;> subst h1 h2 h3 h4 h5
        · clear HSO
          have K7 : ((kn : Int) == 7) = false := beq_eq_false_iff_ne.2 h6
          clear h6
          have z1 := HX.out.cell (j := 1) rfl; have z2 := HX.out.cell (j := 2) rfl; have z3 := HX.out.cell (j := 3) rfl; have z4 := HX.out.cell (j := 4) rfl; have y0 := HY.out.cell (j := 0) rfl; have y1 := HY.out.cell (j := 1) rfl; have y2 := HY.out.cell (j := 2) rfl
          go_wp2_with (at_builtin; refine wpList_append_rds_at rfl _ _ 24 rfl w.heap.size 5 i0 (.int .u8 0) 1 1 Try.underlying24 hi hz0 hz1 hz2 rfl (by decide) (v := .slice a1 m1 c1) (n := m1) (sv := .slice (some ⟨w4.heap.size + 1, 0, none⟩) 1 1) rfl HO.out rfl HBK.out (bytesV_one [kn]) (by unfold maxLen; omega) (by omega) HSZ.out ?_; intro v3 w11 h1 h2 h3; (obtain ⟨a11, c11, rfl⟩ := (Rds.of_owns h1).slice); (obtain ⟨m11, hm3⟩ : ∃ y, m1 + 1 = y := ⟨_, rfl⟩); (obtain ⟨ys11, hys⟩ : ∃ ys, zs ++ [kn] = ys := ⟨_, rfl⟩); have h1 : w11.ownsRow w.heap.size 5 1 (.slice a11 m11 c11) m11 (bytesV ys11) := (by rw [← hm3, ← hys, bytesV_app]; exact h1); rw [hm3]; have hmb11 : m11 ≤ 30000005 := (by omega); have HG11 := Lib.hid (grownBy_own2 HG1.out HO.out (Nat.le_refl _) h2); have HX11 := Lib.hid (Blk.grown HX.out h2 (fun e => not_row HX.out HO.out (by decide) e.symm)); have HY11 := Lib.hid (Blk.grown HY.out h2 (fun e => not_row HY.out HO.out (by decide) e.symm)); have HO11 := Lib.hid h1; have HZ11 := Lib.hid hys; have HS11 := Lib.hid HG11.out.size; clear h1 h2 h3 hm3 hys hmb HO HG1 HX HY z0 z1 z2 z3 z4 y0 y1 y2 HBK; have z0 := HX11.out.cell (j := 0) rfl; have z1 := HX11.out.cell (j := 1) rfl; have z2 := HX11.out.cell (j := 2) rfl; have z3 := HX11.out.cell (j := 3) rfl; have z4 := HX11.out.cell (j := 4) rfl; have y0 := HY11.out.cell (j := 0) rfl; have y1 := HY11.out.cell (j := 1) rfl; have y2 := HY11.out.cell (j := 2) rfl)
          refine (dtext_any key HKS.out r1 _).mono ?_
          rintro e wt ⟨a5, c5, rfl, o5, g5⟩
          have HO11 := Lib.hid (owns_grown HO11.out g5)
          have HG11 := Lib.hid (grownBy_trans HG11.out g5)
          have HX11 := Lib.hid (HX11.out.grown g5 (by simp))
          have HY11 := Lib.hid (HY11.out.grown g5 (by simp))
          have HS11 := Lib.hid HG11.out.size
          have HR5 := Lib.hid (Rds.of_owns o5)
          clear o5 g5 z0 z1 z2 z3 z4 y0 y1 y2
          have z0 := HX11.out.cell (j := 0) rfl
          have z1 := HX11.out.cell (j := 1) rfl
          have z2 := HX11.out.cell (j := 2) rfl
          have z3 := HX11.out.cell (j := 3) rfl
          have z4 := HX11.out.cell (j := 4) rfl
          have y0 := HY11.out.cell (j := 0) rfl
          have y1 := HY11.out.cell (j := 1) rfl
          have y2 := HY11.out.cell (j := 2) rfl
          go_wp2_with (at_builtin; refine wpList_append_rds_at rfl _ _ 24 rfl w.heap.size 5 i0 (.int .u8 0) 1 1 Try.underlying24 hi hz0 hz1 hz2 rfl (by decide) (v := .slice a11 m11 c11) (n := m11) (sv := .slice a5 (2 + key.length) c5) rfl HO11.out rfl HR5.out (bytesV_one _) (by unfold maxLen; omega) (by omega) HS11.out ?_; intro v3 w12 h1 h2 h3; (obtain ⟨a12, c12, rfl⟩ := (Rds.of_owns h1).slice); (obtain ⟨m12, hm3⟩ : ∃ y, m11 + (2 + key.length) = y := ⟨_, rfl⟩); (obtain ⟨ys12, hys⟩ : ∃ ys, ys11 ++ (numB key.length 2 ++ key) = ys := ⟨_, rfl⟩); have h1 : w12.ownsRow w.heap.size 5 1 (.slice a12 m12 c12) m12 (bytesV ys12) := (by rw [← hm3, ← hys, bytesV_app]; exact h1); rw [hm3]; have hmb12 : m12 ≤ 30065542 := (by omega); have HG12 := Lib.hid (grownBy_own2 HG11.out HO11.out (Nat.le_refl _) h2); have HX12 := Lib.hid (Blk.grown HX11.out h2 (fun e => not_row HX11.out HO11.out (by decide) e.symm)); have HY12 := Lib.hid (Blk.grown HY11.out h2 (fun e => not_row HY11.out HO11.out (by decide) e.symm)); have HO12 := Lib.hid h1; have HZ12 := Lib.hid hys; have HS12 := Lib.hid HG12.out.size; clear h1 h2 h3 hm3 hys hmb11 HO11 HG11 HX11 HY11 z0 z1 z2 z3 z4 y0 y1 y2 HR5; have z0 := HX12.out.cell (j := 0) rfl; have z1 := HX12.out.cell (j := 1) rfl; have z2 := HX12.out.cell (j := 2) rfl; have z3 := HX12.out.cell (j := 3) rfl; have z4 := HX12.out.cell (j := 4) rfl; have y0 := HY12.out.cell (j := 0) rfl; have y1 := HY12.out.cell (j := 1) rfl; have y2 := HY12.out.cell (j := 2) rfl)
          have HE : Hid (ys12 ++ numsB ns = zs ++ actB (kn : Int) key val n ns) := Lib.hid (by rw [HA.out, ← HZ12.out, ← HZ11.out]; simp)
          clear HA z0 z1 z2 z3 z4 y0 y1 y2 HY12
          go_loopw [4, 8] (fun o i wr => ∃ (p : Nat) (a6 : Option Addr) (c6 m6 : Nat), p ≤ ns.length ∧ i = .int .i64 p ∧ o = .slice a6 m6 c6 ∧ m6 ≤ 30065542 + 8 * p ∧ wr.ownsRow w.heap.size 5 1 (.slice a6 m6 c6) m6 (bytesV (ys12 ++ numsB (ns.take p))) ∧ w.grownBy wr none ∧ Blk wr X 38 [.int .i64 (kn : Int), .string (strN key), .string (strN val), .int .i64 n, .slice na ns.length nc]) (fun _ i _ => ns.length - (intOf i).toNat)
          case atStart => exact ⟨0, _, _, _, by omega, rfl, rfl, by omega, by simpa [numsB] using HO12.out, HG12.out, HX12.out⟩
          case round =>
            clear HO12 HG12 HX12 HS12 hmb12
            obtain ⟨p, a6, c6, m6, hp, rfl, rfl, hm6, ho6, hg6, hx6⟩ := hrel
            have x4 := hx6.cell (j := 4) rfl
            by_cases hlp : p < ns.length
            · obtain ⟨nb, no, rfl, hc⟩ := (HNS.out.grown hg6 (by simp)).at' (by omega)
              have x0 := hc p (.int .i64 (ns.getD p 0)) (by simp [intsV, hlp, List.getD])
              have HT := Lib.hid (numsB_take ns p hlp)
              obtain ⟨z, hz⟩ : ∃ z, ns.getD p 0 = z := ⟨_, rfl⟩
              rw [hz] at x0 HT
              have hcz := wrap_uI z
              obtain ⟨uz, huz⟩ : ∃ m, uI z = m := ⟨_, rfl⟩
              have huz1 := uI_lt z
              rw [huz] at hcz huz1 HT
              have HO6 := Lib.hid ho6
              have HG6 := Lib.hid hg6
              have HX6 := Lib.hid hx6
              clear hc hz huz ho6 hg6 hx6
              have hpi : (p : Int) < (ns.length : Int) := by omega
              go_wp2_with fail
              refine (rnumber_any uz 8 (by omega) (by omega) _).mono ?_
              rintro e w7 ⟨a7, c7, rfl, o7, g7⟩
              have HO6 := Lib.hid (owns_grown HO6.out g7)
              have HG6 := Lib.hid (grownBy_trans HG6.out g7)
              have HX6 := Lib.hid (HX6.out.grown g7 (by simp))
              have HR7 := Lib.hid (Rds.of_owns o7)
              have HS6 := Lib.hid HG6.out.size
              clear o7 g7 x4 x0
              go_wp2_with (at_builtin; refine wpList_append_rds_at rfl _ _ 24 rfl w.heap.size 5 i0 (.int .u8 0) 1 1 Try.underlying24 hi hz0 hz1 hz2 rfl (by decide) (v := .slice a6 m6 c6) (n := m6) (sv := .slice a7 8 c7) rfl HO6.out rfl HR7.out (bytesV_one _) (by unfold maxLen; omega) (by omega) HS6.out ?_; intro v3 w8 h1 h2 h3; (obtain ⟨a8, c8, rfl⟩ := (Rds.of_owns h1).slice); have HG8 := Lib.hid (grownBy_own2 HG6.out HO6.out (Nat.le_refl _) h2); have HX8 := Lib.hid (Blk.grown HX6.out h2 (fun e => not_row HX6.out HO6.out (by decide) e.symm)); have HO8 := Lib.hid h1; clear h1 h2 h3)
              exact ⟨⟨p + 1, a8, c8, m6 + 8, by omega, by go_num, rfl, by omega, by rw [HT.out, ← List.append_assoc, bytesV_app]; exact HO8.out, HG8.out, HX8.out⟩, by simp [intOf]; omega⟩
            · obtain rfl : p = ns.length := by omega
              rw [List.take_length, HE.out] at ho6
              have HO9 : Hid (wr.ownsRow w.heap.size 5 1 (.slice a6 m6 c6) m6 (bytesV (numB l.length 4 ++ (l.take (j + 1)).flatMap SAct.bytes))) := Lib.hid (by
                rw [HTK.out, List.flatMap_append, ← List.append_assoc, HZ0.out]
                simpa [SAct.bytes] using ho6)
              have HA9 : Hid ((l.take (j + 1)).all SAct.right = true) := Lib.hid (by rw [HTK.out, List.all_append, HALL.out]; simp [SAct.right, HRI.out])
              have HG9 := Lib.hid hg6
              clear ho6 hg6 hx6
              go_wp2_with fail
              exact ⟨⟨j + 1, a6, c6, m6, by omega, by go_num, rfl, HA9.out, HO9.out, HG9.out⟩, by simp [intOf]; omega⟩
        · clear HSO
          have K7 : ((kn : Int) == 7) = false := beq_eq_false_iff_ne.2 h6
          clear h6
          have z1 := HX.out.cell (j := 1) rfl; have z2 := HX.out.cell (j := 2) rfl; have z3 := HX.out.cell (j := 3) rfl; have z4 := HX.out.cell (j := 4) rfl; have y0 := HY.out.cell (j := 0) rfl; have y1 := HY.out.cell (j := 1) rfl; have y2 := HY.out.cell (j := 2) rfl
          go_wp2_with (at_builtin; refine wpList_append_rds_at rfl _ _ 24 rfl w.heap.size 5 i0 (.int .u8 0) 1 1 Try.underlying24 hi hz0 hz1 hz2 rfl (by decide) (v := .slice a1 m1 c1) (n := m1) (sv := .slice (some ⟨w4.heap.size + 1, 0, none⟩) 1 1) rfl HO.out rfl HBK.out (bytesV_one [kn]) (by unfold maxLen; omega) (by omega) HSZ.out ?_; intro v3 w11 h1 h2 h3; (obtain ⟨a11, c11, rfl⟩ := (Rds.of_owns h1).slice); (obtain ⟨m11, hm3⟩ : ∃ y, m1 + 1 = y := ⟨_, rfl⟩); (obtain ⟨ys11, hys⟩ : ∃ ys, zs ++ [kn] = ys := ⟨_, rfl⟩); have h1 : w11.ownsRow w.heap.size 5 1 (.slice a11 m11 c11) m11 (bytesV ys11) := (by rw [← hm3, ← hys, bytesV_app]; exact h1); rw [hm3]; have hmb11 : m11 ≤ 30000005 := (by omega); have HG11 := Lib.hid (grownBy_own2 HG1.out HO.out (Nat.le_refl _) h2); have HX11 := Lib.hid (Blk.grown HX.out h2 (fun e => not_row HX.out HO.out (by decide) e.symm)); have HY11 := Lib.hid (Blk.grown HY.out h2 (fun e => not_row HY.out HO.out (by decide) e.symm)); have HO11 := Lib.hid h1; have HZ11 := Lib.hid hys; have HS11 := Lib.hid HG11.out.size; clear h1 h2 h3 hm3 hys hmb HO HG1 HX HY z0 z1 z2 z3 z4 y0 y1 y2 HBK; have z0 := HX11.out.cell (j := 0) rfl; have z1 := HX11.out.cell (j := 1) rfl; have z2 := HX11.out.cell (j := 2) rfl; have z3 := HX11.out.cell (j := 3) rfl; have z4 := HX11.out.cell (j := 4) rfl; have y0 := HY11.out.cell (j := 0) rfl; have y1 := HY11.out.cell (j := 1) rfl; have y2 := HY11.out.cell (j := 2) rfl)
          refine (dtext_any key HKS.out r1 _).mono ?_
          rintro e wt ⟨a5, c5, rfl, o5, g5⟩
          have HO11 := Lib.hid (owns_grown HO11.out g5)
          have HG11 := Lib.hid (grownBy_trans HG11.out g5)
          have HX11 := Lib.hid (HX11.out.grown g5 (by simp))
          have HY11 := Lib.hid (HY11.out.grown g5 (by simp))
          have HS11 := Lib.hid HG11.out.size
          have HR5 := Lib.hid (Rds.of_owns o5)
          clear o5 g5 z0 z1 z2 z3 z4 y0 y1 y2
          have z0 := HX11.out.cell (j := 0) rfl
          have z1 := HX11.out.cell (j := 1) rfl
          have z2 := HX11.out.cell (j := 2) rfl
          have z3 := HX11.out.cell (j := 3) rfl
          have z4 := HX11.out.cell (j := 4) rfl
          have y0 := HY11.out.cell (j := 0) rfl
          have y1 := HY11.out.cell (j := 1) rfl
          have y2 := HY11.out.cell (j := 2) rfl
          go_wp2_with (at_builtin; refine wpList_append_rds_at rfl _ _ 24 rfl w.heap.size 5 i0 (.int .u8 0) 1 1 Try.underlying24 hi hz0 hz1 hz2 rfl (by decide) (v := .slice a11 m11 c11) (n := m11) (sv := .slice a5 (2 + key.length) c5) rfl HO11.out rfl HR5.out (bytesV_one _) (by unfold maxLen; omega) (by omega) HS11.out ?_; intro v3 w12 h1 h2 h3; (obtain ⟨a12, c12, rfl⟩ := (Rds.of_owns h1).slice); (obtain ⟨m12, hm3⟩ : ∃ y, m11 + (2 + key.length) = y := ⟨_, rfl⟩); (obtain ⟨ys12, hys⟩ : ∃ ys, ys11 ++ (numB key.length 2 ++ key) = ys := ⟨_, rfl⟩); have h1 : w12.ownsRow w.heap.size 5 1 (.slice a12 m12 c12) m12 (bytesV ys12) := (by rw [← hm3, ← hys, bytesV_app]; exact h1); rw [hm3]; have hmb12 : m12 ≤ 30065542 := (by omega); have HG12 := Lib.hid (grownBy_own2 HG11.out HO11.out (Nat.le_refl _) h2); have HX12 := Lib.hid (Blk.grown HX11.out h2 (fun e => not_row HX11.out HO11.out (by decide) e.symm)); have HY12 := Lib.hid (Blk.grown HY11.out h2 (fun e => not_row HY11.out HO11.out (by decide) e.symm)); have HO12 := Lib.hid h1; have HZ12 := Lib.hid hys; have HS12 := Lib.hid HG12.out.size; clear h1 h2 h3 hm3 hys hmb11 HO11 HG11 HX11 HY11 z0 z1 z2 z3 z4 y0 y1 y2 HR5; have z0 := HX12.out.cell (j := 0) rfl; have z1 := HX12.out.cell (j := 1) rfl; have z2 := HX12.out.cell (j := 2) rfl; have z3 := HX12.out.cell (j := 3) rfl; have z4 := HX12.out.cell (j := 4) rfl; have y0 := HY12.out.cell (j := 0) rfl; have y1 := HY12.out.cell (j := 1) rfl; have y2 := HY12.out.cell (j := 2) rfl)
          refine (dtext_any val HVS.out r2 _).mono ?_
          rintro e wt ⟨a5, c5, rfl, o5, g5⟩
          have HO12 := Lib.hid (owns_grown HO12.out g5)
          have HG12 := Lib.hid (grownBy_trans HG12.out g5)
          have HX12 := Lib.hid (HX12.out.grown g5 (by simp))
          have HY12 := Lib.hid (HY12.out.grown g5 (by simp))
          have HS12 := Lib.hid HG12.out.size
          have HR5 := Lib.hid (Rds.of_owns o5)
          clear o5 g5 z0 z1 z2 z3 z4 y0 y1 y2
          have z0 := HX12.out.cell (j := 0) rfl
          have z1 := HX12.out.cell (j := 1) rfl
          have z2 := HX12.out.cell (j := 2) rfl
          have z3 := HX12.out.cell (j := 3) rfl
          have z4 := HX12.out.cell (j := 4) rfl
          have y0 := HY12.out.cell (j := 0) rfl
          have y1 := HY12.out.cell (j := 1) rfl
          have y2 := HY12.out.cell (j := 2) rfl
          go_wp2_with (at_builtin; refine wpList_append_rds_at rfl _ _ 24 rfl w.heap.size 5 i0 (.int .u8 0) 1 1 Try.underlying24 hi hz0 hz1 hz2 rfl (by decide) (v := .slice a12 m12 c12) (n := m12) (sv := .slice a5 (2 + val.length) c5) rfl HO12.out rfl HR5.out (bytesV_one _) (by unfold maxLen; omega) (by omega) HS12.out ?_; intro v3 w13 h1 h2 h3; (obtain ⟨a13, c13, rfl⟩ := (Rds.of_owns h1).slice); (obtain ⟨m13, hm3⟩ : ∃ y, m12 + (2 + val.length) = y := ⟨_, rfl⟩); (obtain ⟨ys13, hys⟩ : ∃ ys, ys12 ++ (numB val.length 2 ++ val) = ys := ⟨_, rfl⟩); have h1 : w13.ownsRow w.heap.size 5 1 (.slice a13 m13 c13) m13 (bytesV ys13) := (by rw [← hm3, ← hys, bytesV_app]; exact h1); rw [hm3]; have hmb13 : m13 ≤ 30131079 := (by omega); have HG13 := Lib.hid (grownBy_own2 HG12.out HO12.out (Nat.le_refl _) h2); have HX13 := Lib.hid (Blk.grown HX12.out h2 (fun e => not_row HX12.out HO12.out (by decide) e.symm)); have HY13 := Lib.hid (Blk.grown HY12.out h2 (fun e => not_row HY12.out HO12.out (by decide) e.symm)); have HO13 := Lib.hid h1; have HZ13 := Lib.hid hys; have HS13 := Lib.hid HG13.out.size; clear h1 h2 h3 hm3 hys hmb12 HO12 HG12 HX12 HY12 z0 z1 z2 z3 z4 y0 y1 y2 HR5; have z0 := HX13.out.cell (j := 0) rfl; have z1 := HX13.out.cell (j := 1) rfl; have z2 := HX13.out.cell (j := 2) rfl; have z3 := HX13.out.cell (j := 3) rfl; have z4 := HX13.out.cell (j := 4) rfl; have y0 := HY13.out.cell (j := 0) rfl; have y1 := HY13.out.cell (j := 1) rfl; have y2 := HY13.out.cell (j := 2) rfl)
          refine (rnumber_any un 8 (by omega) (by omega) _).mono ?_
          rintro e wt ⟨a5, c5, rfl, o5, g5⟩
          have HO13 := Lib.hid (owns_grown HO13.out g5)
          have HG13 := Lib.hid (grownBy_trans HG13.out g5)
          have HX13 := Lib.hid (HX13.out.grown g5 (by simp))
          have HY13 := Lib.hid (HY13.out.grown g5 (by simp))
          have HS13 := Lib.hid HG13.out.size
          have HR5 := Lib.hid (Rds.of_owns o5)
          clear o5 g5 z0 z1 z2 z3 z4 y0 y1 y2
          have z0 := HX13.out.cell (j := 0) rfl
          have z1 := HX13.out.cell (j := 1) rfl
          have z2 := HX13.out.cell (j := 2) rfl
          have z3 := HX13.out.cell (j := 3) rfl
          have z4 := HX13.out.cell (j := 4) rfl
          have y0 := HY13.out.cell (j := 0) rfl
          have y1 := HY13.out.cell (j := 1) rfl
          have y2 := HY13.out.cell (j := 2) rfl
          go_wp2_with (at_builtin; refine wpList_append_rds_at rfl _ _ 24 rfl w.heap.size 5 i0 (.int .u8 0) 1 1 Try.underlying24 hi hz0 hz1 hz2 rfl (by decide) (v := .slice a13 m13 c13) (n := m13) (sv := .slice a5 8 c5) rfl HO13.out rfl HR5.out (bytesV_one _) (by unfold maxLen; omega) (by omega) HS13.out ?_; intro v3 w14 h1 h2 h3; (obtain ⟨a14, c14, rfl⟩ := (Rds.of_owns h1).slice); (obtain ⟨m14, hm3⟩ : ∃ y, m13 + 8 = y := ⟨_, rfl⟩); (obtain ⟨ys14, hys⟩ : ∃ ys, ys13 ++ numB un 8 = ys := ⟨_, rfl⟩); have h1 : w14.ownsRow w.heap.size 5 1 (.slice a14 m14 c14) m14 (bytesV ys14) := (by rw [← hm3, ← hys, bytesV_app]; exact h1); rw [hm3]; have hmb14 : m14 ≤ 30131087 := (by omega); have HG14 := Lib.hid (grownBy_own2 HG13.out HO13.out (Nat.le_refl _) h2); have HX14 := Lib.hid (Blk.grown HX13.out h2 (fun e => not_row HX13.out HO13.out (by decide) e.symm)); have HY14 := Lib.hid (Blk.grown HY13.out h2 (fun e => not_row HY13.out HO13.out (by decide) e.symm)); have HO14 := Lib.hid h1; have HZ14 := Lib.hid hys; have HS14 := Lib.hid HG14.out.size; clear h1 h2 h3 hm3 hys hmb13 HO13 HG13 HX13 HY13 z0 z1 z2 z3 z4 y0 y1 y2 HR5; have z0 := HX14.out.cell (j := 0) rfl; have z1 := HX14.out.cell (j := 1) rfl; have z2 := HX14.out.cell (j := 2) rfl; have z3 := HX14.out.cell (j := 3) rfl; have z4 := HX14.out.cell (j := 4) rfl; have y0 := HY14.out.cell (j := 0) rfl; have y1 := HY14.out.cell (j := 1) rfl; have y2 := HY14.out.cell (j := 2) rfl)
          have HE : Hid (ys14 ++ numsB ns = zs ++ actB (kn : Int) key val n ns) := Lib.hid (by rw [HA.out, ← HZ14.out, ← HZ13.out, ← HZ12.out, ← HZ11.out]; simp)
          clear HA z0 z1 z2 z3 z4 y0 y1 y2 HY14
          go_loopw [4, 8] (fun o i wr => ∃ (p : Nat) (a6 : Option Addr) (c6 m6 : Nat), p ≤ ns.length ∧ i = .int .i64 p ∧ o = .slice a6 m6 c6 ∧ m6 ≤ 30131087 + 8 * p ∧ wr.ownsRow w.heap.size 5 1 (.slice a6 m6 c6) m6 (bytesV (ys14 ++ numsB (ns.take p))) ∧ w.grownBy wr none ∧ Blk wr X 38 [.int .i64 (kn : Int), .string (strN key), .string (strN val), .int .i64 n, .slice na ns.length nc]) (fun _ i _ => ns.length - (intOf i).toNat)
          case atStart => exact ⟨0, _, _, _, by omega, rfl, rfl, by omega, by simpa [numsB] using HO14.out, HG14.out, HX14.out⟩
          case round =>
            clear HO14 HG14 HX14 HS14 hmb14
            obtain ⟨p, a6, c6, m6, hp, rfl, rfl, hm6, ho6, hg6, hx6⟩ := hrel
            have x4 := hx6.cell (j := 4) rfl
            by_cases hlp : p < ns.length
            · obtain ⟨nb, no, rfl, hc⟩ := (HNS.out.grown hg6 (by simp)).at' (by omega)
              have x0 := hc p (.int .i64 (ns.getD p 0)) (by simp [intsV, hlp, List.getD])
              have HT := Lib.hid (numsB_take ns p hlp)
              obtain ⟨z, hz⟩ : ∃ z, ns.getD p 0 = z := ⟨_, rfl⟩
              rw [hz] at x0 HT
              have hcz := wrap_uI z
              obtain ⟨uz, huz⟩ : ∃ m, uI z = m := ⟨_, rfl⟩
              have huz1 := uI_lt z
              rw [huz] at hcz huz1 HT
              have HO6 := Lib.hid ho6
              have HG6 := Lib.hid hg6
              have HX6 := Lib.hid hx6
              clear hc hz huz ho6 hg6 hx6
              have hpi : (p : Int) < (ns.length : Int) := by omega
              go_wp2_with fail
              refine (rnumber_any uz 8 (by omega) (by omega) _).mono ?_
              rintro e w7 ⟨a7, c7, rfl, o7, g7⟩
              have HO6 := Lib.hid (owns_grown HO6.out g7)
              have HG6 := Lib.hid (grownBy_trans HG6.out g7)
              have HX6 := Lib.hid (HX6.out.grown g7 (by simp))
              have HR7 := Lib.hid (Rds.of_owns o7)
              have HS6 := Lib.hid HG6.out.size
              clear o7 g7 x4 x0
              go_wp2_with (at_builtin; refine wpList_append_rds_at rfl _ _ 24 rfl w.heap.size 5 i0 (.int .u8 0) 1 1 Try.underlying24 hi hz0 hz1 hz2 rfl (by decide) (v := .slice a6 m6 c6) (n := m6) (sv := .slice a7 8 c7) rfl HO6.out rfl HR7.out (bytesV_one _) (by unfold maxLen; omega) (by omega) HS6.out ?_; intro v3 w8 h1 h2 h3; (obtain ⟨a8, c8, rfl⟩ := (Rds.of_owns h1).slice); have HG8 := Lib.hid (grownBy_own2 HG6.out HO6.out (Nat.le_refl _) h2); have HX8 := Lib.hid (Blk.grown HX6.out h2 (fun e => not_row HX6.out HO6.out (by decide) e.symm)); have HO8 := Lib.hid h1; clear h1 h2 h3)
              exact ⟨⟨p + 1, a8, c8, m6 + 8, by omega, by go_num, rfl, by omega, by rw [HT.out, ← List.append_assoc, bytesV_app]; exact HO8.out, HG8.out, HX8.out⟩, by simp [intOf]; omega⟩
            · obtain rfl : p = ns.length := by omega
              rw [List.take_length, HE.out] at ho6
              have HO9 : Hid (wr.ownsRow w.heap.size 5 1 (.slice a6 m6 c6) m6 (bytesV (numB l.length 4 ++ (l.take (j + 1)).flatMap SAct.bytes))) := Lib.hid (by
                rw [HTK.out, List.flatMap_append, ← List.append_assoc, HZ0.out]
                simpa [SAct.bytes] using ho6)
              have HA9 : Hid ((l.take (j + 1)).all SAct.right = true) := Lib.hid (by rw [HTK.out, List.all_append, HALL.out]; simp [SAct.right, HRI.out])
              have HG9 := Lib.hid hg6
              clear ho6 hg6 hx6
              go_wp2_with fail
              exact ⟨⟨j + 1, a6, c6, m6, by omega, by go_num, rfl, HA9.out, HO9.out, HG9.out⟩, by simp [intOf]; omega⟩
        · clear HSO
          have K7 : ((kn : Int) == 7) = false := beq_eq_false_iff_ne.2 h6
          clear h6
          have z1 := HX.out.cell (j := 1) rfl; have z2 := HX.out.cell (j := 2) rfl; have z3 := HX.out.cell (j := 3) rfl; have z4 := HX.out.cell (j := 4) rfl; have y0 := HY.out.cell (j := 0) rfl; have y1 := HY.out.cell (j := 1) rfl; have y2 := HY.out.cell (j := 2) rfl
          go_wp2_with (at_builtin; refine wpList_append_rds_at rfl _ _ 24 rfl w.heap.size 5 i0 (.int .u8 0) 1 1 Try.underlying24 hi hz0 hz1 hz2 rfl (by decide) (v := .slice a1 m1 c1) (n := m1) (sv := .slice (some ⟨w4.heap.size + 1, 0, none⟩) 1 1) rfl HO.out rfl HBK.out (bytesV_one [kn]) (by unfold maxLen; omega) (by omega) HSZ.out ?_; intro v3 w11 h1 h2 h3; (obtain ⟨a11, c11, rfl⟩ := (Rds.of_owns h1).slice); (obtain ⟨m11, hm3⟩ : ∃ y, m1 + 1 = y := ⟨_, rfl⟩); (obtain ⟨ys11, hys⟩ : ∃ ys, zs ++ [kn] = ys := ⟨_, rfl⟩); have h1 : w11.ownsRow w.heap.size 5 1 (.slice a11 m11 c11) m11 (bytesV ys11) := (by rw [← hm3, ← hys, bytesV_app]; exact h1); rw [hm3]; have hmb11 : m11 ≤ 30000005 := (by omega); have HG11 := Lib.hid (grownBy_own2 HG1.out HO.out (Nat.le_refl _) h2); have HX11 := Lib.hid (Blk.grown HX.out h2 (fun e => not_row HX.out HO.out (by decide) e.symm)); have HY11 := Lib.hid (Blk.grown HY.out h2 (fun e => not_row HY.out HO.out (by decide) e.symm)); have HO11 := Lib.hid h1; have HZ11 := Lib.hid hys; have HS11 := Lib.hid HG11.out.size; clear h1 h2 h3 hm3 hys hmb HO HG1 HX HY z0 z1 z2 z3 z4 y0 y1 y2 HBK; have z0 := HX11.out.cell (j := 0) rfl; have z1 := HX11.out.cell (j := 1) rfl; have z2 := HX11.out.cell (j := 2) rfl; have z3 := HX11.out.cell (j := 3) rfl; have z4 := HX11.out.cell (j := 4) rfl; have y0 := HY11.out.cell (j := 0) rfl; have y1 := HY11.out.cell (j := 1) rfl; have y2 := HY11.out.cell (j := 2) rfl)
          have HE : Hid (ys11 ++ numsB ns = zs ++ actB (kn : Int) key val n ns) := Lib.hid (by rw [HA.out, ← HZ11.out]; simp)
          clear HA z0 z1 z2 z3 z4 y0 y1 y2 HY11
          go_loopw [4, 8] (fun o i wr => ∃ (p : Nat) (a6 : Option Addr) (c6 m6 : Nat), p ≤ ns.length ∧ i = .int .i64 p ∧ o = .slice a6 m6 c6 ∧ m6 ≤ 30000005 + 8 * p ∧ wr.ownsRow w.heap.size 5 1 (.slice a6 m6 c6) m6 (bytesV (ys11 ++ numsB (ns.take p))) ∧ w.grownBy wr none ∧ Blk wr X 38 [.int .i64 (kn : Int), .string (strN key), .string (strN val), .int .i64 n, .slice na ns.length nc]) (fun _ i _ => ns.length - (intOf i).toNat)
          case atStart => exact ⟨0, _, _, _, by omega, rfl, rfl, by omega, by simpa [numsB] using HO11.out, HG11.out, HX11.out⟩
          case round =>
            clear HO11 HG11 HX11 HS11 hmb11
            obtain ⟨p, a6, c6, m6, hp, rfl, rfl, hm6, ho6, hg6, hx6⟩ := hrel
            have x4 := hx6.cell (j := 4) rfl
            by_cases hlp : p < ns.length
            · obtain ⟨nb, no, rfl, hc⟩ := (HNS.out.grown hg6 (by simp)).at' (by omega)
              have x0 := hc p (.int .i64 (ns.getD p 0)) (by simp [intsV, hlp, List.getD])
              have HT := Lib.hid (numsB_take ns p hlp)
              obtain ⟨z, hz⟩ : ∃ z, ns.getD p 0 = z := ⟨_, rfl⟩
              rw [hz] at x0 HT
              have hcz := wrap_uI z
              obtain ⟨uz, huz⟩ : ∃ m, uI z = m := ⟨_, rfl⟩
              have huz1 := uI_lt z
              rw [huz] at hcz huz1 HT
              have HO6 := Lib.hid ho6
              have HG6 := Lib.hid hg6
              have HX6 := Lib.hid hx6
              clear hc hz huz ho6 hg6 hx6
              have hpi : (p : Int) < (ns.length : Int) := by omega
              go_wp2_with fail
              refine (rnumber_any uz 8 (by omega) (by omega) _).mono ?_
              rintro e w7 ⟨a7, c7, rfl, o7, g7⟩
              have HO6 := Lib.hid (owns_grown HO6.out g7)
              have HG6 := Lib.hid (grownBy_trans HG6.out g7)
              have HX6 := Lib.hid (HX6.out.grown g7 (by simp))
              have HR7 := Lib.hid (Rds.of_owns o7)
              have HS6 := Lib.hid HG6.out.size
              clear o7 g7 x4 x0
              go_wp2_with (at_builtin; refine wpList_append_rds_at rfl _ _ 24 rfl w.heap.size 5 i0 (.int .u8 0) 1 1 Try.underlying24 hi hz0 hz1 hz2 rfl (by decide) (v := .slice a6 m6 c6) (n := m6) (sv := .slice a7 8 c7) rfl HO6.out rfl HR7.out (bytesV_one _) (by unfold maxLen; omega) (by omega) HS6.out ?_; intro v3 w8 h1 h2 h3; (obtain ⟨a8, c8, rfl⟩ := (Rds.of_owns h1).slice); have HG8 := Lib.hid (grownBy_own2 HG6.out HO6.out (Nat.le_refl _) h2); have HX8 := Lib.hid (Blk.grown HX6.out h2 (fun e => not_row HX6.out HO6.out (by decide) e.symm)); have HO8 := Lib.hid h1; clear h1 h2 h3)
              exact ⟨⟨p + 1, a8, c8, m6 + 8, by omega, by go_num, rfl, by omega, by rw [HT.out, ← List.append_assoc, bytesV_app]; exact HO8.out, HG8.out, HX8.out⟩, by simp [intOf]; omega⟩
            · obtain rfl : p = ns.length := by omega
              rw [List.take_length, HE.out] at ho6
              have HO9 : Hid (wr.ownsRow w.heap.size 5 1 (.slice a6 m6 c6) m6 (bytesV (numB l.length 4 ++ (l.take (j + 1)).flatMap SAct.bytes))) := Lib.hid (by
                rw [HTK.out, List.flatMap_append, ← List.append_assoc, HZ0.out]
                simpa [SAct.bytes] using ho6)
              have HA9 : Hid ((l.take (j + 1)).all SAct.right = true) := Lib.hid (by rw [HTK.out, List.all_append, HALL.out]; simp [SAct.right, HRI.out])
              have HG9 := Lib.hid hg6
              clear ho6 hg6 hx6
              go_wp2_with fail
              exact ⟨⟨j + 1, a6, c6, m6, by omega, by go_num, rfl, HA9.out, HO9.out, HG9.out⟩, by simp [intOf]; omega⟩
        · clear HSO
          have K7 : ((kn : Int) == 7) = false := beq_eq_false_iff_ne.2 h6
          clear h6
          have z1 := HX.out.cell (j := 1) rfl; have z2 := HX.out.cell (j := 2) rfl; have z3 := HX.out.cell (j := 3) rfl; have z4 := HX.out.cell (j := 4) rfl; have y0 := HY.out.cell (j := 0) rfl; have y1 := HY.out.cell (j := 1) rfl; have y2 := HY.out.cell (j := 2) rfl
          go_wp2_with (at_builtin; refine wpList_append_rds_at rfl _ _ 24 rfl w.heap.size 5 i0 (.int .u8 0) 1 1 Try.underlying24 hi hz0 hz1 hz2 rfl (by decide) (v := .slice a1 m1 c1) (n := m1) (sv := .slice (some ⟨w4.heap.size + 1, 0, none⟩) 1 1) rfl HO.out rfl HBK.out (bytesV_one [kn]) (by unfold maxLen; omega) (by omega) HSZ.out ?_; intro v3 w11 h1 h2 h3; (obtain ⟨a11, c11, rfl⟩ := (Rds.of_owns h1).slice); (obtain ⟨m11, hm3⟩ : ∃ y, m1 + 1 = y := ⟨_, rfl⟩); (obtain ⟨ys11, hys⟩ : ∃ ys, zs ++ [kn] = ys := ⟨_, rfl⟩); have h1 : w11.ownsRow w.heap.size 5 1 (.slice a11 m11 c11) m11 (bytesV ys11) := (by rw [← hm3, ← hys, bytesV_app]; exact h1); rw [hm3]; have hmb11 : m11 ≤ 30000005 := (by omega); have HG11 := Lib.hid (grownBy_own2 HG1.out HO.out (Nat.le_refl _) h2); have HX11 := Lib.hid (Blk.grown HX.out h2 (fun e => not_row HX.out HO.out (by decide) e.symm)); have HY11 := Lib.hid (Blk.grown HY.out h2 (fun e => not_row HY.out HO.out (by decide) e.symm)); have HO11 := Lib.hid h1; have HZ11 := Lib.hid hys; have HS11 := Lib.hid HG11.out.size; clear h1 h2 h3 hm3 hys hmb HO HG1 HX HY z0 z1 z2 z3 z4 y0 y1 y2 HBK; have z0 := HX11.out.cell (j := 0) rfl; have z1 := HX11.out.cell (j := 1) rfl; have z2 := HX11.out.cell (j := 2) rfl; have z3 := HX11.out.cell (j := 3) rfl; have z4 := HX11.out.cell (j := 4) rfl; have y0 := HY11.out.cell (j := 0) rfl; have y1 := HY11.out.cell (j := 1) rfl; have y2 := HY11.out.cell (j := 2) rfl)
          refine (rnumber_any un 8 (by omega) (by omega) _).mono ?_
          rintro e wt ⟨a5, c5, rfl, o5, g5⟩
          have HO11 := Lib.hid (owns_grown HO11.out g5)
          have HG11 := Lib.hid (grownBy_trans HG11.out g5)
          have HX11 := Lib.hid (HX11.out.grown g5 (by simp))
          have HY11 := Lib.hid (HY11.out.grown g5 (by simp))
          have HS11 := Lib.hid HG11.out.size
          have HR5 := Lib.hid (Rds.of_owns o5)
          clear o5 g5 z0 z1 z2 z3 z4 y0 y1 y2
          have z0 := HX11.out.cell (j := 0) rfl
          have z1 := HX11.out.cell (j := 1) rfl
          have z2 := HX11.out.cell (j := 2) rfl
          have z3 := HX11.out.cell (j := 3) rfl
          have z4 := HX11.out.cell (j := 4) rfl
          have y0 := HY11.out.cell (j := 0) rfl
          have y1 := HY11.out.cell (j := 1) rfl
          have y2 := HY11.out.cell (j := 2) rfl
          go_wp2_with (at_builtin; refine wpList_append_rds_at rfl _ _ 24 rfl w.heap.size 5 i0 (.int .u8 0) 1 1 Try.underlying24 hi hz0 hz1 hz2 rfl (by decide) (v := .slice a11 m11 c11) (n := m11) (sv := .slice a5 8 c5) rfl HO11.out rfl HR5.out (bytesV_one _) (by unfold maxLen; omega) (by omega) HS11.out ?_; intro v3 w12 h1 h2 h3; (obtain ⟨a12, c12, rfl⟩ := (Rds.of_owns h1).slice); (obtain ⟨m12, hm3⟩ : ∃ y, m11 + 8 = y := ⟨_, rfl⟩); (obtain ⟨ys12, hys⟩ : ∃ ys, ys11 ++ numB un 8 = ys := ⟨_, rfl⟩); have h1 : w12.ownsRow w.heap.size 5 1 (.slice a12 m12 c12) m12 (bytesV ys12) := (by rw [← hm3, ← hys, bytesV_app]; exact h1); rw [hm3]; have hmb12 : m12 ≤ 30000013 := (by omega); have HG12 := Lib.hid (grownBy_own2 HG11.out HO11.out (Nat.le_refl _) h2); have HX12 := Lib.hid (Blk.grown HX11.out h2 (fun e => not_row HX11.out HO11.out (by decide) e.symm)); have HY12 := Lib.hid (Blk.grown HY11.out h2 (fun e => not_row HY11.out HO11.out (by decide) e.symm)); have HO12 := Lib.hid h1; have HZ12 := Lib.hid hys; have HS12 := Lib.hid HG12.out.size; clear h1 h2 h3 hm3 hys hmb11 HO11 HG11 HX11 HY11 z0 z1 z2 z3 z4 y0 y1 y2 HR5; have z0 := HX12.out.cell (j := 0) rfl; have z1 := HX12.out.cell (j := 1) rfl; have z2 := HX12.out.cell (j := 2) rfl; have z3 := HX12.out.cell (j := 3) rfl; have z4 := HX12.out.cell (j := 4) rfl; have y0 := HY12.out.cell (j := 0) rfl; have y1 := HY12.out.cell (j := 1) rfl; have y2 := HY12.out.cell (j := 2) rfl)
          have HE : Hid (ys12 ++ numsB ns = zs ++ actB (kn : Int) key val n ns) := Lib.hid (by rw [HA.out, ← HZ12.out, ← HZ11.out]; simp)
          clear HA z0 z1 z2 z3 z4 y0 y1 y2 HY12
          go_loopw [4, 8] (fun o i wr => ∃ (p : Nat) (a6 : Option Addr) (c6 m6 : Nat), p ≤ ns.length ∧ i = .int .i64 p ∧ o = .slice a6 m6 c6 ∧ m6 ≤ 30000013 + 8 * p ∧ wr.ownsRow w.heap.size 5 1 (.slice a6 m6 c6) m6 (bytesV (ys12 ++ numsB (ns.take p))) ∧ w.grownBy wr none ∧ Blk wr X 38 [.int .i64 (kn : Int), .string (strN key), .string (strN val), .int .i64 n, .slice na ns.length nc]) (fun _ i _ => ns.length - (intOf i).toNat)
          case atStart => exact ⟨0, _, _, _, by omega, rfl, rfl, by omega, by simpa [numsB] using HO12.out, HG12.out, HX12.out⟩
          case round =>
            clear HO12 HG12 HX12 HS12 hmb12
            obtain ⟨p, a6, c6, m6, hp, rfl, rfl, hm6, ho6, hg6, hx6⟩ := hrel
            have x4 := hx6.cell (j := 4) rfl
            by_cases hlp : p < ns.length
            · obtain ⟨nb, no, rfl, hc⟩ := (HNS.out.grown hg6 (by simp)).at' (by omega)
              have x0 := hc p (.int .i64 (ns.getD p 0)) (by simp [intsV, hlp, List.getD])
              have HT := Lib.hid (numsB_take ns p hlp)
              obtain ⟨z, hz⟩ : ∃ z, ns.getD p 0 = z := ⟨_, rfl⟩
              rw [hz] at x0 HT
              have hcz := wrap_uI z
              obtain ⟨uz, huz⟩ : ∃ m, uI z = m := ⟨_, rfl⟩
              have huz1 := uI_lt z
              rw [huz] at hcz huz1 HT
              have HO6 := Lib.hid ho6
              have HG6 := Lib.hid hg6
              have HX6 := Lib.hid hx6
              clear hc hz huz ho6 hg6 hx6
              have hpi : (p : Int) < (ns.length : Int) := by omega
              go_wp2_with fail
              refine (rnumber_any uz 8 (by omega) (by omega) _).mono ?_
              rintro e w7 ⟨a7, c7, rfl, o7, g7⟩
              have HO6 := Lib.hid (owns_grown HO6.out g7)
              have HG6 := Lib.hid (grownBy_trans HG6.out g7)
              have HX6 := Lib.hid (HX6.out.grown g7 (by simp))
              have HR7 := Lib.hid (Rds.of_owns o7)
              have HS6 := Lib.hid HG6.out.size
              clear o7 g7 x4 x0
              go_wp2_with (at_builtin; refine wpList_append_rds_at rfl _ _ 24 rfl w.heap.size 5 i0 (.int .u8 0) 1 1 Try.underlying24 hi hz0 hz1 hz2 rfl (by decide) (v := .slice a6 m6 c6) (n := m6) (sv := .slice a7 8 c7) rfl HO6.out rfl HR7.out (bytesV_one _) (by unfold maxLen; omega) (by omega) HS6.out ?_; intro v3 w8 h1 h2 h3; (obtain ⟨a8, c8, rfl⟩ := (Rds.of_owns h1).slice); have HG8 := Lib.hid (grownBy_own2 HG6.out HO6.out (Nat.le_refl _) h2); have HX8 := Lib.hid (Blk.grown HX6.out h2 (fun e => not_row HX6.out HO6.out (by decide) e.symm)); have HO8 := Lib.hid h1; clear h1 h2 h3)
              exact ⟨⟨p + 1, a8, c8, m6 + 8, by omega, by go_num, rfl, by omega, by rw [HT.out, ← List.append_assoc, bytesV_app]; exact HO8.out, HG8.out, HX8.out⟩, by simp [intOf]; omega⟩
            · obtain rfl : p = ns.length := by omega
              rw [List.take_length, HE.out] at ho6
              have HO9 : Hid (wr.ownsRow w.heap.size 5 1 (.slice a6 m6 c6) m6 (bytesV (numB l.length 4 ++ (l.take (j + 1)).flatMap SAct.bytes))) := Lib.hid (by
                rw [HTK.out, List.flatMap_append, ← List.append_assoc, HZ0.out]
                simpa [SAct.bytes] using ho6)
              have HA9 : Hid ((l.take (j + 1)).all SAct.right = true) := Lib.hid (by rw [HTK.out, List.all_append, HALL.out]; simp [SAct.right, HRI.out])
              have HG9 := Lib.hid hg6
              clear ho6 hg6 hx6
              go_wp2_with fail
              exact ⟨⟨j + 1, a6, c6, m6, by omega, by go_num, rfl, HA9.out, HO9.out, HG9.out⟩, by simp [intOf]; omega⟩
        · clear HSO
          have K7 : ((kn : Int) == 7) = true := beq_iff_eq.2 h6
          clear h6
          have z1 := HX.out.cell (j := 1) rfl; have z2 := HX.out.cell (j := 2) rfl; have z3 := HX.out.cell (j := 3) rfl; have z4 := HX.out.cell (j := 4) rfl; have y0 := HY.out.cell (j := 0) rfl; have y1 := HY.out.cell (j := 1) rfl; have y2 := HY.out.cell (j := 2) rfl
          go_wp2_with (first | (at_builtin; refine wpList_append_rds_at rfl _ _ 24 rfl w.heap.size 5 i0 (.int .u8 0) 1 1 Try.underlying24 hi hz0 hz1 hz2 rfl (by decide) (v := .slice a1 m1 c1) (n := m1) (sv := .slice (some ⟨w4.heap.size + 1, 0, none⟩) 1 1) rfl HO.out rfl HBK.out (bytesV_one [kn]) (by unfold maxLen; omega) (by omega) HSZ.out ?_; intro v3 w11 h1 h2 h3; (obtain ⟨a11, c11, rfl⟩ := (Rds.of_owns h1).slice); (obtain ⟨m11, hm3⟩ : ∃ y, m1 + 1 = y := ⟨_, rfl⟩); (obtain ⟨ys11, hys⟩ : ∃ ys, zs ++ [kn] = ys := ⟨_, rfl⟩); have h1 : w11.ownsRow w.heap.size 5 1 (.slice a11 m11 c11) m11 (bytesV ys11) := (by rw [← hm3, ← hys, bytesV_app]; exact h1); rw [hm3]; have hmb11 : m11 ≤ 30000005 := (by omega); have HG11 := Lib.hid (grownBy_own2 HG1.out HO.out (Nat.le_refl _) h2); have HX11 := Lib.hid (Blk.grown HX.out h2 (fun e => not_row HX.out HO.out (by decide) e.symm)); have HY11 := Lib.hid (Blk.grown HY.out h2 (fun e => not_row HY.out HO.out (by decide) e.symm)); have HO11 := Lib.hid h1; have HZ11 := Lib.hid hys; have HS11 := Lib.hid HG11.out.size; clear h1 h2 h3 hm3 hys hmb HO HG1 HX HY z0 z1 z2 z3 z4 y0 y1 y2 HBK; have z0 := HX11.out.cell (j := 0) rfl; have z1 := HX11.out.cell (j := 1) rfl; have z2 := HX11.out.cell (j := 2) rfl; have z3 := HX11.out.cell (j := 3) rfl; have z4 := HX11.out.cell (j := 4) rfl; have y0 := HY11.out.cell (j := 0) rfl; have y1 := HY11.out.cell (j := 1) rfl; have y2 := HY11.out.cell (j := 2) rfl) | (at_builtin; (have hbk2 := Rds.of_blk (sz := 1) (n := 1) (c := 1) (Blk.new w11 5 [.int .u8 (ns.length : Int)]) rfl (by unfold maxLen; omega)); have HO11 := Lib.hid (HO11.out.alloc (.cells #[.int .u8 (ns.length : Int)] 5)); have HG11 := Lib.hid (grownBy_trans HG11.out (World.grownBy_alloc _ (.cells #[.int .u8 (ns.length : Int)] 5) none)); have HX11 := Lib.hid (HX11.out.alloc (.cells #[.int .u8 (ns.length : Int)] 5)); have HY11 := Lib.hid (HY11.out.alloc (.cells #[.int .u8 (ns.length : Int)] 5)); have HS11 := Lib.hid HG11.out.size; refine wpList_append_rds_at rfl _ _ 24 rfl w.heap.size 5 i0 (.int .u8 0) 1 1 Try.underlying24 hi hz0 hz1 hz2 rfl (by decide) (v := .slice a11 m11 c11) (n := m11) (sv := .slice (some ⟨w11.heap.size, 0, none⟩) 1 1) rfl HO11.out rfl hbk2 (bytesV_one [ns.length]) (by unfold maxLen; omega) (by omega) HS11.out ?_; intro v3 w12 h1 h2 h3; (obtain ⟨a12, c12, rfl⟩ := (Rds.of_owns h1).slice); (obtain ⟨m12, hm3⟩ : ∃ y, m11 + 1 = y := ⟨_, rfl⟩); (obtain ⟨ys12, hys⟩ : ∃ ys, ys11 ++ [ns.length] = ys := ⟨_, rfl⟩); have h1 : w12.ownsRow w.heap.size 5 1 (.slice a12 m12 c12) m12 (bytesV ys12) := (by rw [← hm3, ← hys, bytesV_app]; exact h1); rw [hm3]; have hmb12 : m12 ≤ 30000006 := (by omega); have HG12 := Lib.hid (grownBy_own2 HG11.out HO11.out (Nat.le_refl _) h2); have HX12 := Lib.hid (Blk.grown HX11.out h2 (fun e => not_row HX11.out HO11.out (by decide) e.symm)); have HY12 := Lib.hid (Blk.grown HY11.out h2 (fun e => not_row HY11.out HO11.out (by decide) e.symm)); have HO12 := Lib.hid h1; have HZ12 := Lib.hid hys; have HS12 := Lib.hid HG12.out.size; clear h1 h2 h3 hm3 hys hmb11 HO11 HG11 HX11 HY11 z0 z1 z2 z3 z4 y0 y1 y2 hbk2; have z0 := HX12.out.cell (j := 0) rfl; have z1 := HX12.out.cell (j := 1) rfl; have z2 := HX12.out.cell (j := 2) rfl; have z3 := HX12.out.cell (j := 3) rfl; have z4 := HX12.out.cell (j := 4) rfl; have y0 := HY12.out.cell (j := 0) rfl; have y1 := HY12.out.cell (j := 1) rfl; have y2 := HY12.out.cell (j := 2) rfl))
          have HE : Hid (ys12 ++ numsB ns = zs ++ actB (kn : Int) key val n ns) := Lib.hid (by rw [HA.out, ← HZ12.out, ← HZ11.out]; simp)
          clear HA z0 z1 z2 z3 z4 y0 y1 y2 HY12
          go_loopw [4, 8] (fun o i wr => ∃ (p : Nat) (a6 : Option Addr) (c6 m6 : Nat), p ≤ ns.length ∧ i = .int .i64 p ∧ o = .slice a6 m6 c6 ∧ m6 ≤ 30000006 + 8 * p ∧ wr.ownsRow w.heap.size 5 1 (.slice a6 m6 c6) m6 (bytesV (ys12 ++ numsB (ns.take p))) ∧ w.grownBy wr none ∧ Blk wr X 38 [.int .i64 (kn : Int), .string (strN key), .string (strN val), .int .i64 n, .slice na ns.length nc]) (fun _ i _ => ns.length - (intOf i).toNat)
          case atStart => exact ⟨0, _, _, _, by omega, rfl, rfl, by omega, by simpa [numsB] using HO12.out, HG12.out, HX12.out⟩
          case round =>
            clear HO12 HG12 HX12 HS12 hmb12
            obtain ⟨p, a6, c6, m6, hp, rfl, rfl, hm6, ho6, hg6, hx6⟩ := hrel
            have x4 := hx6.cell (j := 4) rfl
            by_cases hlp : p < ns.length
            · obtain ⟨nb, no, rfl, hc⟩ := (HNS.out.grown hg6 (by simp)).at' (by omega)
              have x0 := hc p (.int .i64 (ns.getD p 0)) (by simp [intsV, hlp, List.getD])
              have HT := Lib.hid (numsB_take ns p hlp)
              obtain ⟨z, hz⟩ : ∃ z, ns.getD p 0 = z := ⟨_, rfl⟩
              rw [hz] at x0 HT
              have hcz := wrap_uI z
              obtain ⟨uz, huz⟩ : ∃ m, uI z = m := ⟨_, rfl⟩
              have huz1 := uI_lt z
              rw [huz] at hcz huz1 HT
              have HO6 := Lib.hid ho6
              have HG6 := Lib.hid hg6
              have HX6 := Lib.hid hx6
              clear hc hz huz ho6 hg6 hx6
              have hpi : (p : Int) < (ns.length : Int) := by omega
              go_wp2_with fail
              refine (rnumber_any uz 8 (by omega) (by omega) _).mono ?_
              rintro e w7 ⟨a7, c7, rfl, o7, g7⟩
              have HO6 := Lib.hid (owns_grown HO6.out g7)
              have HG6 := Lib.hid (grownBy_trans HG6.out g7)
              have HX6 := Lib.hid (HX6.out.grown g7 (by simp))
              have HR7 := Lib.hid (Rds.of_owns o7)
              have HS6 := Lib.hid HG6.out.size
              clear o7 g7 x4 x0
              go_wp2_with (at_builtin; refine wpList_append_rds_at rfl _ _ 24 rfl w.heap.size 5 i0 (.int .u8 0) 1 1 Try.underlying24 hi hz0 hz1 hz2 rfl (by decide) (v := .slice a6 m6 c6) (n := m6) (sv := .slice a7 8 c7) rfl HO6.out rfl HR7.out (bytesV_one _) (by unfold maxLen; omega) (by omega) HS6.out ?_; intro v3 w8 h1 h2 h3; (obtain ⟨a8, c8, rfl⟩ := (Rds.of_owns h1).slice); have HG8 := Lib.hid (grownBy_own2 HG6.out HO6.out (Nat.le_refl _) h2); have HX8 := Lib.hid (Blk.grown HX6.out h2 (fun e => not_row HX6.out HO6.out (by decide) e.symm)); have HO8 := Lib.hid h1; clear h1 h2 h3)
              exact ⟨⟨p + 1, a8, c8, m6 + 8, by omega, by go_num, rfl, by omega, by rw [HT.out, ← List.append_assoc, bytesV_app]; exact HO8.out, HG8.out, HX8.out⟩, by simp [intOf]; omega⟩
            · obtain rfl : p = ns.length := by omega
              rw [List.take_length, HE.out] at ho6
              have HO9 : Hid (wr.ownsRow w.heap.size 5 1 (.slice a6 m6 c6) m6 (bytesV (numB l.length 4 ++ (l.take (j + 1)).flatMap SAct.bytes))) := Lib.hid (by
                rw [HTK.out, List.flatMap_append, ← List.append_assoc, HZ0.out]
                simpa [SAct.bytes] using ho6)
              have HA9 : Hid ((l.take (j + 1)).all SAct.right = true) := Lib.hid (by rw [HTK.out, List.all_append, HALL.out]; simp [SAct.right, HRI.out])
              have HG9 := Lib.hid hg6
              clear ho6 hg6 hx6
              go_wp2_with fail
              exact ⟨⟨j + 1, a6, c6, m6, by omega, by go_num, rfl, HA9.out, HO9.out, HG9.out⟩, by simp [intOf]; omega⟩
        · clear HSO
          have K7 : ((kn : Int) == 7) = false := beq_eq_false_iff_ne.2 h6
          clear h6
          have z1 := HX.out.cell (j := 1) rfl; have z2 := HX.out.cell (j := 2) rfl; have z3 := HX.out.cell (j := 3) rfl; have z4 := HX.out.cell (j := 4) rfl; have y0 := HY.out.cell (j := 0) rfl; have y1 := HY.out.cell (j := 1) rfl; have y2 := HY.out.cell (j := 2) rfl
          go_wp2_with (at_builtin; refine wpList_append_rds_at rfl _ _ 24 rfl w.heap.size 5 i0 (.int .u8 0) 1 1 Try.underlying24 hi hz0 hz1 hz2 rfl (by decide) (v := .slice a1 m1 c1) (n := m1) (sv := .slice (some ⟨w4.heap.size + 1, 0, none⟩) 1 1) rfl HO.out rfl HBK.out (bytesV_one [kn]) (by unfold maxLen; omega) (by omega) HSZ.out ?_; intro v3 w11 h1 h2 h3; (obtain ⟨a11, c11, rfl⟩ := (Rds.of_owns h1).slice); (obtain ⟨m11, hm3⟩ : ∃ y, m1 + 1 = y := ⟨_, rfl⟩); (obtain ⟨ys11, hys⟩ : ∃ ys, zs ++ [kn] = ys := ⟨_, rfl⟩); have h1 : w11.ownsRow w.heap.size 5 1 (.slice a11 m11 c11) m11 (bytesV ys11) := (by rw [← hm3, ← hys, bytesV_app]; exact h1); rw [hm3]; have hmb11 : m11 ≤ 30000005 := (by omega); have HG11 := Lib.hid (grownBy_own2 HG1.out HO.out (Nat.le_refl _) h2); have HX11 := Lib.hid (Blk.grown HX.out h2 (fun e => not_row HX.out HO.out (by decide) e.symm)); have HY11 := Lib.hid (Blk.grown HY.out h2 (fun e => not_row HY.out HO.out (by decide) e.symm)); have HO11 := Lib.hid h1; have HZ11 := Lib.hid hys; have HS11 := Lib.hid HG11.out.size; clear h1 h2 h3 hm3 hys hmb HO HG1 HX HY z0 z1 z2 z3 z4 y0 y1 y2 HBK; have z0 := HX11.out.cell (j := 0) rfl; have z1 := HX11.out.cell (j := 1) rfl; have z2 := HX11.out.cell (j := 2) rfl; have z3 := HX11.out.cell (j := 3) rfl; have z4 := HX11.out.cell (j := 4) rfl; have y0 := HY11.out.cell (j := 0) rfl; have y1 := HY11.out.cell (j := 1) rfl; have y2 := HY11.out.cell (j := 2) rfl)
          have HE : Hid (ys11 ++ numsB ns = zs ++ actB (kn : Int) key val n ns) := Lib.hid (by rw [HA.out, ← HZ11.out]; simp)
          clear HA z0 z1 z2 z3 z4 y0 y1 y2 HY11
          go_loopw [4, 8] (fun o i wr => ∃ (p : Nat) (a6 : Option Addr) (c6 m6 : Nat), p ≤ ns.length ∧ i = .int .i64 p ∧ o = .slice a6 m6 c6 ∧ m6 ≤ 30000005 + 8 * p ∧ wr.ownsRow w.heap.size 5 1 (.slice a6 m6 c6) m6 (bytesV (ys11 ++ numsB (ns.take p))) ∧ w.grownBy wr none ∧ Blk wr X 38 [.int .i64 (kn : Int), .string (strN key), .string (strN val), .int .i64 n, .slice na ns.length nc]) (fun _ i _ => ns.length - (intOf i).toNat)
          case atStart => exact ⟨0, _, _, _, by omega, rfl, rfl, by omega, by simpa [numsB] using HO11.out, HG11.out, HX11.out⟩
          case round =>
            clear HO11 HG11 HX11 HS11 hmb11
            obtain ⟨p, a6, c6, m6, hp, rfl, rfl, hm6, ho6, hg6, hx6⟩ := hrel
            have x4 := hx6.cell (j := 4) rfl
            by_cases hlp : p < ns.length
            · obtain ⟨nb, no, rfl, hc⟩ := (HNS.out.grown hg6 (by simp)).at' (by omega)
              have x0 := hc p (.int .i64 (ns.getD p 0)) (by simp [intsV, hlp, List.getD])
              have HT := Lib.hid (numsB_take ns p hlp)
              obtain ⟨z, hz⟩ : ∃ z, ns.getD p 0 = z := ⟨_, rfl⟩
              rw [hz] at x0 HT
              have hcz := wrap_uI z
              obtain ⟨uz, huz⟩ : ∃ m, uI z = m := ⟨_, rfl⟩
              have huz1 := uI_lt z
              rw [huz] at hcz huz1 HT
              have HO6 := Lib.hid ho6
              have HG6 := Lib.hid hg6
              have HX6 := Lib.hid hx6
              clear hc hz huz ho6 hg6 hx6
              have hpi : (p : Int) < (ns.length : Int) := by omega
              go_wp2_with fail
              refine (rnumber_any uz 8 (by omega) (by omega) _).mono ?_
              rintro e w7 ⟨a7, c7, rfl, o7, g7⟩
              have HO6 := Lib.hid (owns_grown HO6.out g7)
              have HG6 := Lib.hid (grownBy_trans HG6.out g7)
              have HX6 := Lib.hid (HX6.out.grown g7 (by simp))
              have HR7 := Lib.hid (Rds.of_owns o7)
              have HS6 := Lib.hid HG6.out.size
              clear o7 g7 x4 x0
              go_wp2_with (at_builtin; refine wpList_append_rds_at rfl _ _ 24 rfl w.heap.size 5 i0 (.int .u8 0) 1 1 Try.underlying24 hi hz0 hz1 hz2 rfl (by decide) (v := .slice a6 m6 c6) (n := m6) (sv := .slice a7 8 c7) rfl HO6.out rfl HR7.out (bytesV_one _) (by unfold maxLen; omega) (by omega) HS6.out ?_; intro v3 w8 h1 h2 h3; (obtain ⟨a8, c8, rfl⟩ := (Rds.of_owns h1).slice); have HG8 := Lib.hid (grownBy_own2 HG6.out HO6.out (Nat.le_refl _) h2); have HX8 := Lib.hid (Blk.grown HX6.out h2 (fun e => not_row HX6.out HO6.out (by decide) e.symm)); have HO8 := Lib.hid h1; clear h1 h2 h3)
              exact ⟨⟨p + 1, a8, c8, m6 + 8, by omega, by go_num, rfl, by omega, by rw [HT.out, ← List.append_assoc, bytesV_app]; exact HO8.out, HG8.out, HX8.out⟩, by simp [intOf]; omega⟩
            · obtain rfl : p = ns.length := by omega
              rw [List.take_length, HE.out] at ho6
              have HO9 : Hid (wr.ownsRow w.heap.size 5 1 (.slice a6 m6 c6) m6 (bytesV (numB l.length 4 ++ (l.take (j + 1)).flatMap SAct.bytes))) := Lib.hid (by
                rw [HTK.out, List.flatMap_append, ← List.append_assoc, HZ0.out]
                simpa [SAct.bytes] using ho6)
              have HA9 : Hid ((l.take (j + 1)).all SAct.right = true) := Lib.hid (by rw [HTK.out, List.all_append, HALL.out]; simp [SAct.right, HRI.out])
              have HG9 := Lib.hid hg6
              clear ho6 hg6 hx6
              go_wp2_with fail
              exact ⟨⟨j + 1, a6, c6, m6, by omega, by go_num, rfl, HA9.out, HO9.out, HG9.out⟩, by simp [intOf]; omega⟩
    · obtain rfl : j = l.length := by omega
      rw [List.take_length] at hall ho
      have hpo : packOf l = (numB l.length 4 ++ l.flatMap SAct.bytes, 0) := if_pos hall
      obtain ⟨bs, hbs⟩ : ∃ bs, numB l.length 4 ++ l.flatMap SAct.bytes = bs := ⟨_, rfl⟩
      rw [hbs] at hpo ho
      have hml : m1 = bs.length := by
        have := ho.1
        rw [bytesV_len] at this
        omega
      subst hml
      have HPO := Lib.hid hpo
      have HGR := Lib.hid hgr
      have HOE := Lib.hid ho
      clear hpo hall ho hgr hbs HML
      go_wp2_with fail
      go_ret2
      rw [HPO.out]
      exact ⟨a1, c1, rfl, HOE.out, HGR.out⟩

end Go.Proofs.Ytbjpjnkaaiajlaa
