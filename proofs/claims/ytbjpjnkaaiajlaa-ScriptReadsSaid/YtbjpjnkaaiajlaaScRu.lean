/- Layer 20, the document: Unpack. -/
import Derived.Test.YtbjpjnkaaiajlaaScRk
import Derived.Test.YtbjpjnkaaiajlaaScUn
namespace Go.Proofs.Ytbjpjnkaaiajlaa
open Go.RowKit

theorem nP_bad0 {ys : List Nat} {n k : Nat} (hk : 1 ≤ k) (h : (nP k (ys.drop n, false)).2 = ([], true)) : (nP k (ys.drop n, false)).1 = 0 := by
  by_cases ho : ys.length < n + k
  · rw [nP_over ho hk]
  · rw [nP_in (by omega) hk] at h
    simp at h
theorem UnR.mk {ys : List Nat} {m : Nat} {p : PS} (hn : nP 4 (ys, false) = (m, p)) {l : List SAct} {er : Int}
    (hR : (65536 < m ∧ l = [] ∧ er = 9) ∨ (m ≤ 65536 ∧ ¬ ((∀ j, j < m → goodP p j = true) ∧ stP p m = ([], false)) ∧ l = [] ∧ er = 5) ∨ (m ≤ 65536 ∧ ((∀ j, j < m → goodP p j = true) ∧ stP p m = ([], false)) ∧ er = 0 ∧ l.map SAct.data = (List.range m).map (xP p))) : UnR ys l er := by
  unfold UnR okU
  rw [hn]
  exact hR
/-- An act of the document: its numbers' row. -/
structure SAct.rmine (w : World) (x : SAct) : Prop where
  rds : Rds w 1 (.slice x.na x.ns.length x.nc) x.ns.length (intsV x.ns)
  kind : KindT w 3 (.slice x.na x.ns.length x.nc)
theorem SAct.rmine.grown {w w' : World} {x : SAct} (h : x.rmine w) (hg : w.grownBy w' none) : x.rmine w' := ⟨h.rds.grown hg (by simp), h.kind.grown hg⟩
theorem SAct.rmine.step {w w' : World} {x : SAct} {u : Value} (h : x.rmine w) (hg : w.grownBy w' u.ownBlock) (hu : KindT w 38 u) : x.rmine w' :=
  ⟨h.rds.grown hg (h.kind.ne hu (by decide)), h.kind.step hg hu (by decide)⟩
def UnRPost (w : World) (ys : List Nat) (e : Ending) (w' : World) : Prop :=
  ∃ (l : List SAct) (a' : Option Addr) (c' : Nat) (er : Int), e = .returned (.tuple #[.slice a' l.length c', .int .i64 er]) ∧ UnR ys l er ∧ Rds w' 5 (.slice a' l.length c') l.length (ractsV l) ∧ (∀ x ∈ l, Rds w' 1 (.slice x.na x.ns.length x.nc) x.ns.length (intsV x.ns)) ∧ w.grownBy w' none
theorem strN_nil : strN [] = ⟨#[]⟩ := rfl
theorem infoRActU : (Try.prog.info? 38).map (fun i => (i.zero, i.size, i.bytes)) = some (some (.agg #[.int .i64 0, .string ⟨#[]⟩, .string ⟨#[]⟩, .int .i64 0, .slice none 0 0]), 5, 72) := by kernel_rfl
theorem infoIntU : (Try.prog.info? 3).map (fun i => (i.zero, i.size, i.bytes)) = some (some (.int .i64 0), 1, 8) := infoInt
theorem rcells_one (x : SAct) : ∀ v ∈ x.rcells, v.oneCell' = true := by
  unfold SAct.rcells
  simp [Value.oneCell']

set_option maxRecDepth 100000 in
set_option maxHeartbeats 16000000 in
theorem runpack_any (ys : List Nat) (a : Option Addr) (c : Nat) (w : World) (hl : ys.length ≤ 30000000) (hs : ∀ y ∈ ys, y < 256) (hr : Rds w 1 (.slice a ys.length c) ys.length (bytesV ys)) (hc : ys.length ≤ c) :
    Calls Try.prog 19 #[.slice a ys.length c] w (UnRPost w ys) := by
  obtain ⟨i1, hi', hz0', hz1', hz2'⟩ := info_parts infoIntU
  obtain ⟨i2, hi2, hy0, hy1, hy2⟩ := info_parts infoRActU
  have HTK := Lib.hid (fun (p : PS) (q : Int) (k : Nat) (W : World) (hk : 1 ≤ k ∧ k ≤ 8) (hg : w.grownBy W none) (h : AtP ys p q) => rtk_any ys a c p q k W hk (by omega) hs (hr.grown hg (by simp)) hc h)
  have HTX := Lib.hid (fun (p : PS) (q : Int) (W : World) (hg : w.grownBy W none) (h : AtP ys p q) => rtxt_any ys a c p q W (by omega) hs (hr.grown hg (by simp)) hc h)
  have H4 := Lib.hid (HTK.out (ys, false) 0 4 w (by omega) (grownBy_refl _ _) (AtP.begin ys))
  have hbad0 := nP_bad0 (ys := ys) (n := 0) (k := 4) (by omega)
  rw [List.drop_zero] at hbad0
  have HS := Lib.hid hs
  have HPO : Hid (∀ e w', UnRPost w ys e w' → UnRPost w ys e w') := Lib.hid (fun _ _ h => h)
  unfold UnRPost at HPO
  obtain ⟨mp, hmp⟩ : ∃ mp, nP 4 (ys, false) = mp := ⟨_, rfl⟩
  rw [hmp] at H4 hbad0
  obtain ⟨m, p0⟩ := mp
  dsimp only at H4 hbad0
  have HNP := Lib.hid hmp
  have HB0 := Lib.hid hbad0
  clear hr hs hc hmp hbad0
  go_enter Try.func19, Try.ntmps19
  go_wp2_with fail
  refine H4.out.mono ?_
  rintro e w1 ⟨q0, rfl, hat, rfl⟩
  have HAT := Lib.hid hat
  clear hat H4
  by_cases hq : q0 < 0
  · have HE : Hid (UnR ys [] 5) := Lib.hid (by
      have hp : p0 = ([], true) := by
        rcases HAT.out with h | h
        · omega
        · exact h.2
      have hm := HB0.out hp
      subst hm hp
      exact UnR.mk HNP.out (.inr (.inl ⟨by omega, (fun h => by have := h.2; simp [stP] at this), rfl, rfl⟩)))
    clear HAT
    go_wp2_with fail
    go_ret2
    exact HPO.out _ _ ⟨[], none, 0, 5, rfl, HE.out, Rds.nil _ _, fun x hx => (by simp at hx), grownBy_refl _ _⟩
  by_cases hbig : 65536 < m
  · have HE : Hid (UnR ys [] 9) := Lib.hid (UnR.mk HNP.out (.inl ⟨hbig, rfl, rfl⟩))
    have hbi : (65536 : Int) < (m : Int) := by omega
    clear HAT
    go_wp2_with fail
    go_ret2
    exact HPO.out _ _ ⟨[], none, 0, 9, rfl, HE.out, Rds.nil _ _, fun x hx => (by simp at hx), grownBy_refl _ _⟩
  have hle : m ≤ 65536 := by omega
  have hbi : ¬ (65536 : Int) < (m : Int) := by omega
  have hwm : wrap64 (m : Int) = m := by unfold wrap64; omega
  have HE5 : Hid (∀ j, j < m → goodP p0 j = false → UnR ys [] 5) := Lib.hid (fun j hj hg => UnR.mk HNP.out (.inr (.inl ⟨by omega, (fun h => by have := h.1 j hj; rw [hg] at this; cases this), rfl, rfl⟩)))
  go_wp2_with fail
  go_loopw [5, 6, 7] (fun t o i wr => ∃ (j : Nat) (l' : List SAct) (a1 : Option Addr) (c1 : Nat) (q : Int), j ≤ m ∧ i = .int .i64 j ∧ o = .slice a1 l'.length c1 ∧ t = .int .i64 q ∧ l'.map SAct.data = (List.range j).map (xP p0) ∧ (∀ i, i < j → goodP p0 i = true) ∧ AtP ys (stP p0 j) q ∧ (∀ x ∈ l', x.rmine wr) ∧ wr.ownsRow w.heap.size 38 5 (.slice a1 l'.length c1) l'.length (ractsV l') ∧ w.grownBy wr none) (fun _ _ i _ => m - (intOf i).toNat)
  case atStart => exact ⟨0, [], none, 0, q0, by omega, rfl, rfl, rfl, rfl, fun i hi => by omega, HAT.out, fun x hx => by simp at hx, World.ownsRow_nil _ _ _ _, grownBy_refl _ _⟩
  case round =>
    clear HAT hq
    obtain ⟨j, l', a1, c1, q, hj, rfl, rfl, rfl, hda, hgo, hat, hmi, ho, hgr⟩ := hrel
    obtain ⟨wo, rfl⟩ : ∃ wo : World, wo = wr := ⟨_, rfl⟩
    have hlj : l'.length = j := by have := congrArg List.length hda; simpa using this
    have HDA := Lib.hid hda
    have HGO := Lib.hid hgo
    have HAT := Lib.hid hat
    have HMI := Lib.hid hmi
    have HO := Lib.hid ho
    have HGR := Lib.hid hgr
    have HLJ := Lib.hid hlj
    have hl' : l'.length ≤ 65536 := by omega
    clear hda hgo hat hmi ho hgr hlj
    by_cases hlt : j < m
    · have hji : (j : Int) < (m : Int) := by omega
      have HGD : Hid (∀ (x : SAct) (r : PS) (q' : Int), readA (stP p0 j) = (x, r) → AtP ys r q' → goodP p0 j = (!decide (q' < 0) && x.right) ∧ xP p0 j = x ∧ stP p0 (j + 1) = r) := Lib.hid (fun x r q' h ha => by
        have h1 : stP p0 (j + 1) = r := by rw [stP, h]
        have h2 : xP p0 j = x := by unfold xP; rw [h]
        refine ⟨?_, h2, h1⟩
        unfold goodP
        rw [h1, h2, ha.bad_iff])
      have hk256 := nP1_lt (stP p0 j) (HAT.out.small HS.out)
      obtain ⟨pj, hpj⟩ : ∃ pj, stP p0 j = pj := ⟨_, rfl⟩
      rw [hpj] at HAT HGD hk256
      have HRA : Hid (readA pj = (⟨((nP 1 pj).1 : Int), (readF (formX ((nP 1 pj).1 : Int)) (nP 1 pj).2).key.1, (readF (formX ((nP 1 pj).1 : Int)) (nP 1 pj).2).val.1, (readF (formX ((nP 1 pj).1 : Int)) (nP 1 pj).2).num.1, (readF (formX ((nP 1 pj).1 : Int)) (nP 1 pj).2).ns.1, none, none, none, 0, 0, 0⟩, (readF (formX ((nP 1 pj).1 : Int)) (nP 1 pj).2).ns.2)) := Lib.hid rfl
      have hga := World.grownBy_alloc wo (.cells #[.int .i64 0, .string ⟨#[]⟩, .string ⟨#[]⟩, .int .i64 0, .slice none 0 0] 38) none
      have HT1 := Lib.hid (HTK.out pj q 1 _ (by omega) (grownBy_trans HGR.out hga) HAT.out)
      obtain ⟨kk, hkk⟩ : ∃ kk, nP 1 pj = kk := ⟨_, rfl⟩
      rw [hkk] at hk256 HRA HT1
      clear hkk hpj
      obtain ⟨kn, p1⟩ := kk
      dsimp only at hk256 HRA HT1
      have hwk : wrap64 (kn : Int) = kn := by unfold wrap64; omega
      have HK256 := Lib.hid hk256
      clear hk256
      go_wp2_with fail
      obtain ⟨X, hX⟩ : ∃ X, wo.heap.size = X := ⟨_, rfl⟩
      obtain ⟨wa, hwa⟩ : ∃ wa, wo.alloc (.cells #[.int .i64 0, .string ⟨#[]⟩, .string ⟨#[]⟩, .int .i64 0, .slice none 0 0] 38) = wa := ⟨_, rfl⟩
      have hxb : Blk wa X 38 [.int .i64 0, .string ⟨#[]⟩, .string ⟨#[]⟩, .int .i64 0, .slice none 0 0] := by rw [← hwa, ← hX]; exact Blk.new wo _ _
      rw [hwa] at hga HT1
      rw [hX, hwa]
      have HXS : Hid (wo.heap.size = X) := Lib.hid hX
      have HG := Lib.hid hga
      have HX := Lib.hid hxb
      clear hga hxb hX hwa
      refine HT1.out.mono ?_
      rintro e wc ⟨q1, rfl, hat1, rfl⟩
      have HAT := Lib.hid hat1
      clear hat1 HT1
      have x0 := HX.out.cell (j := 0) rfl; have x1 := HX.out.cell (j := 1) rfl; have x2 := HX.out.cell (j := 2) rfl; have x3 := HX.out.cell (j := 3) rfl; have x4 := HX.out.cell (j := 4) rfl; have f0 := HX.out.frozen 0; have f1 := HX.out.frozen 1; have f2 := HX.out.frozen 2; have f3 := HX.out.frozen 3; have f4 := HX.out.frozen 4
      go_wp2_with fail
      clear x0 x1 x2 x3 x4 f0 f1 f2 f3 f4
      obtain ⟨ws2, hws⟩ : ∃ ws, wa.setCell ⟨X, 0, none⟩ (.int .i64 (kn : Int)) = ws := ⟨_, rfl⟩
      have hgs : wa.grownBy ws2 (some X) := by rw [← hws]; exact grownBy_setCell _ _ _
      have HG := Lib.hid (grownBy_base2 HG.out hgs (by rw [HXS.out]; exact Nat.le_refl _))
      have HX : Hid (Blk ws2 X 38 [.int .i64 (kn : Int), .string ⟨#[]⟩, .string ⟨#[]⟩, .int .i64 0, .slice none 0 0]) := Lib.hid (by rw [← hws]; exact HX.out.setCell 0 (.int .i64 (kn : Int)))
      rw [hws]
      clear hws hgs
      refine (rhas_any (kn : Int) _).mono ?_
      rintro e wc ⟨rfl, gc⟩
      have HX := Lib.hid (HX.out.grown gc (by simp))
      have HG := Lib.hid (grownBy_trans HG.out gc)
      clear gc
      have hso := sort_7 (kn : Int)
      have hk78 : ((kn : Int) = 8) = ((formX (kn : Int)).just = true) := by
        have hk256 := HK256.out
        by_cases h : kn < 10
        · rcases (show kn = 0 ∨ kn = 1 ∨ kn = 2 ∨ kn = 3 ∨ kn = 4 ∨ kn = 5 ∨ kn = 6 ∨ kn = 7 ∨ kn = 8 ∨ kn = 9 by omega) with rfl | rfl | rfl | rfl | rfl | rfl | rfl | rfl | rfl | rfl <;> decide
        · have hk : formX (kn : Int) = noForm := by
            unfold formX
            rw [if_neg (fun h' => by have := isK_iff.1 h'; omega)]
          rw [hk]
          simp [noForm]
          omega
      obtain ⟨f, hf⟩ : ∃ f, formX (kn : Int) = f := ⟨_, rfl⟩
      rw [hf] at hso hk78 HRA
      rw [hf]
      have HSO := Lib.hid hso
      clear hso hf
      obtain ⟨nm, fk, fv, fn, fns, fj⟩ := f
      dsimp only at hk78 HRA ⊢
      unfold sort7 at HSO
      dsimp only at HSO
      rcases HSO.out with h | h | h | h | h | h <;> obtain ⟨h1, h2, h3, h4, h5, h6⟩ := h <;> subst h1 h2 h3 h4 h5
      · have hk8 : ((kn : Int) == 8) = false := by simpa using hk78
        have hk7 : ((kn : Int) == 7) = false := by simp [h6]
        clear hk78 h6
        have x0 := (HX.out.alloc (.cells #[.bool true, .bool false, .bool false] 60)).cell (j := 0) rfl
        go_wp2_with fail
        clear x0
        obtain ⟨Y, hY⟩ : ∃ Y, wc.heap.size = Y := ⟨_, rfl⟩
        have HYS : Hid (X < Y) := Lib.hid (by rw [← hY]; exact HX.out.lt)
        have hxyn : X ≠ Y := by have := HYS.out; omega
        have HXY := Lib.hid hxyn
        clear hxyn
        obtain ⟨wy, hwy⟩ : ∃ wy, wc.alloc (.cells #[.bool true, .bool false, .bool false] 60) = wy := ⟨_, rfl⟩
        have hgy : wc.grownBy wy none := by rw [← hwy]; exact World.grownBy_alloc _ _ none
        have HY : Hid (Blk wy Y 60 [.bool true, .bool false, .bool false]) := Lib.hid (by rw [← hwy, ← hY]; exact Blk.new wc _ _)
        have HX := Lib.hid (HX.out.grown hgy (by simp))
        have HG := Lib.hid (grownBy_trans HG.out hgy)
        rw [hY, hwy]
        clear hY hwy hgy
        refine (HTX.out p1 q1 _ (grownBy_trans HGR.out HG.out) HAT.out).mono ?_
        rintro e wd ⟨qq2, rfl, hat1, rfl⟩
        obtain ⟨t2, ht2⟩ : ∃ t, tP p1 = t := ⟨_, rfl⟩
        rw [ht2] at hat1
        rw [ht2]
        obtain ⟨key, pp2⟩ := t2
        dsimp only at hat1 ⊢
        have HT2 := Lib.hid ht2
        have HAT := Lib.hid hat1
        clear hat1 ht2
        have x0 := HX.out.cell (j := 0) rfl; have x1 := HX.out.cell (j := 1) rfl; have x2 := HX.out.cell (j := 2) rfl; have x3 := HX.out.cell (j := 3) rfl; have x4 := HX.out.cell (j := 4) rfl; have f0 := HX.out.frozen 0; have f1 := HX.out.frozen 1; have f2 := HX.out.frozen 2; have f3 := HX.out.frozen 3; have f4 := HX.out.frozen 4
        have y0 := HY.out.cell (j := 0) rfl; have y1 := HY.out.cell (j := 1) rfl; have y2 := HY.out.cell (j := 2) rfl
        have hsx := HX.out.setCell 1 (.string (strN key))
        have hsy := HY.out.setCell_other (p := ⟨X, 1, none⟩) (by exact HXY.out.symm) (.string (strN key))
        have sx0 := hsx.cell (j := 0) rfl
        have sx1 := hsx.cell (j := 1) rfl
        have sx2 := hsx.cell (j := 2) rfl
        have sx3 := hsx.cell (j := 3) rfl
        have sx4 := hsx.cell (j := 4) rfl
        have sy0 := hsy.cell (j := 0) rfl
        have sy1 := hsy.cell (j := 1) rfl
        have sy2 := hsy.cell (j := 2) rfl
        clear hsx hsy
        go_wp2_with fail
        clear sx0 sx1 sx2 sx3 sx4 sy0 sy1 sy2
        clear x0 x1 x2 x3 x4 f0 f1 f2 f3 f4; clear y0 y1 y2
        obtain ⟨ws3, hws⟩ : ∃ ws, wy.setCell ⟨X, 1, none⟩ (.string (strN key)) = ws := ⟨_, rfl⟩
        have hgs : wy.grownBy ws3 (some X) := by rw [← hws]; exact grownBy_setCell _ _ _
        have HG := Lib.hid (grownBy_base2 HG.out hgs (by rw [HXS.out]; exact Nat.le_refl _))
        have HX : Hid (Blk ws3 X 38 [.int .i64 (kn : Int), .string (strN key), .string ⟨#[]⟩, .int .i64 0, .slice none 0 0]) := Lib.hid (by rw [← hws]; exact HX.out.setCell 1 (.string (strN key)))
        have HY := Lib.hid (HY.out.grown hgs (fun e => HXY.out (by cases e; rfl)))
        rw [hws]
        clear hws hgs
        (try clear x0 x1 x2 x3 x4 f0 f1 f2 f3 f4 y0 y1 y2)
        go_loopw [5, 9, 12] (fun t n i wr => ∃ (p : Nat) (qk : Int) (a6 : Option Addr) (c6 : Nat), p ≤ 0 ∧ i = .int .i64 p ∧ t = .int .i64 qk ∧ AtP ys (nsP p pp2).2 qk ∧ wr.ownsRow X 3 1 (.slice a6 p c6) p (intsV (nsP p pp2).1) ∧ Blk wr X 38 [.int .i64 (kn : Int), .string (strN key), .string ⟨#[]⟩, .int .i64 0, .slice a6 p c6] ∧ wo.grownBy wr none) (fun _ _ i _ => 0 - (intOf i).toNat)
        case atStart => exact ⟨0, _, none, 0, by omega, rfl, rfl, HAT.out, World.ownsRow_nil _ _ _ _, HX.out, HG.out⟩
        case round =>
          clear HX HG HAT HY
          obtain ⟨p, qk, a6, c6, hp, rfl, rfl, hat, ho, hx, hg⟩ := hrel
          obtain ⟨nj, hnj⟩ : ∃ r, nsP p pp2 = r := ⟨_, rfl⟩
          rw [hnj] at hat ho
          obtain ⟨ls, sj⟩ := nj
          dsimp only at hat ho
          have HNJ := Lib.hid hnj
          have hll : ls.length = p := by have := nsP_len pp2 p; rw [hnj] at this; exact this
          have HAT := Lib.hid hat
          have HOW := Lib.hid ho
          have HX := Lib.hid hx
          have HG := Lib.hid hg
          have HLL := Lib.hid hll
          clear hnj hat ho hx hg hll
          by_cases hlp : p < 0
          · exact absurd hlp (Nat.not_lt_zero _)
          · obtain rfl : p = 0 := by omega
            have hpi : ¬ ((0 : Nat) : Int) < ((0 : Nat) : Int) := by omega
            have hRA : readA pj = (⟨(kn : Int), key, [], 0, ls, none, none, none, 0, 0, 0⟩, sj) := by
              rw [HRA.out]
              simp [readF, HT2.out, HNJ.out]
            obtain ⟨hgd, hxp, hst⟩ := HGD.out _ _ qk hRA HAT.out
            unfold SAct.right at hgd
            dsimp only at hgd
            rw [HLL.out] at hgd
            have HRR := Lib.hid (rright_any (kn : Int) 0 key [] a6 0 c6 wr)
            obtain ⟨rb, hrb⟩ : ∃ rb, rightB (kn : Int) (key : List Nat).length ([] : List Nat).length 0 0 = rb := ⟨_, rfl⟩
            rw [hrb] at hgd HRR
            (try rw [strN_nil] at HRR)
            have HGD2 := Lib.hid hgd
            have HXP := Lib.hid hxp
            have HST := Lib.hid hst
            clear hgd hxp hst hRA hrb
            have x0 := HX.out.cell (j := 0) rfl; have x1 := HX.out.cell (j := 1) rfl; have x2 := HX.out.cell (j := 2) rfl; have x3 := HX.out.cell (j := 3) rfl; have x4 := HX.out.cell (j := 4) rfl
            by_cases hq0 : qk < 0
            · have HE := Lib.hid (HE5.out j hlt (by rw [HGD2.out, decide_eq_true hq0]; rfl))
              go_wp2_with fail
              go_ret2
              exact HPO.out _ _ ⟨[], none, 0, 5, rfl, HE.out, Rds.nil _ _, fun x hx => (by simp at hx), grownBy_trans HGR.out HG.out⟩
            · rw [decide_eq_false hq0] at HGD2
              have hq0' : decide (qk < 0) = false := decide_eq_false hq0
              go_wp2_with fail
              refine HRR.out.mono ?_
              rintro e we ⟨rfl, ge⟩
              have HX := Lib.hid (HX.out.grown ge (by simp))
              have HOW := Lib.hid (owns_grown HOW.out ge)
              have HG := Lib.hid (grownBy_trans HG.out ge)
              clear ge x0 x1 x2 x3 x4 HRR
              have x0 := HX.out.cell (j := 0) rfl; have x1 := HX.out.cell (j := 1) rfl; have x2 := HX.out.cell (j := 2) rfl; have x3 := HX.out.cell (j := 3) rfl; have x4 := HX.out.cell (j := 4) rfl
              cases rb
              · have HE := Lib.hid (HE5.out j hlt (by rw [HGD2.out]; rfl))
                go_wp2_with fail
                go_ret2
                exact HPO.out _ _ ⟨[], none, 0, 5, rfl, HE.out, Rds.nil _ _, fun x hx => (by simp at hx), grownBy_trans HGR.out HG.out⟩
              · have HGA := Lib.hid (grownBy_trans HG.out (World.grownBy_alloc we (.cells #[.int .i64 (kn : Int), .string (strN key), .string ⟨#[]⟩, .int .i64 0, .slice a6 0 c6] 38) none))
                have HO1 := Lib.hid (owns_grown HO.out HGA.out)
                have HS1 := Lib.hid (Rds.of_blk (sz := 5) (n := 1) (c := 1) (Blk.new we 38 [.int .i64 (kn : Int), .string (strN key), .string ⟨#[]⟩, .int .i64 0, .slice a6 0 c6]) rfl (by unfold maxLen; omega))
                have HOW1 := Lib.hid (HOW.out.alloc (.cells #[.int .i64 (kn : Int), .string (strN key), .string ⟨#[]⟩, .int .i64 0, .slice a6 0 c6] 38))
                have HGW := Lib.hid (grownBy_trans HGR.out HGA.out)
                go_wp2_with (at_builtin; refine wpList_append_rds rfl _ _ 22 rfl w.heap.size 38 i2 _ 5 72 Try.underlying22 hi2 hy0 hy1 hy2 rfl (by decide) (v := .slice a1 l'.length c1) (n := l'.length) (sv := .slice (some ⟨we.heap.size, 0, none⟩) 1 1) rfl HO1.out rfl HS1.out (by simp [Value.oneCell']) (by unfold maxLen; omega) (by omega) HGW.out.size ?_; intro v9 w9 h1 h2 _; (obtain ⟨a9, c9, rfl⟩ := (Rds.of_owns h1).slice); have HG9 := Lib.hid (grownBy_own2 HGW.out HO1.out (Nat.le_refl _) h2); have HO9 := Lib.hid h1; have HH2 := Lib.hid h2; clear h1 h2)
                have HL2 : Hid ((l' ++ [(⟨(kn : Int), key, [], 0, ls, none, none, a6, 0, 0, c6⟩ : SAct)]).map SAct.data = (List.range (j + 1)).map (xP p0)) := Lib.hid (by rw [List.map_append, HDA.out, List.range_succ, List.map_append, List.map_singleton, List.map_singleton, HXP.out]; rfl)
                have HO2 : Hid (w9.ownsRow w.heap.size 38 5 (.slice a9 (l' ++ [(⟨(kn : Int), key, [], 0, ls, none, none, a6, 0, 0, c6⟩ : SAct)]).length c9) (l' ++ [(⟨(kn : Int), key, [], 0, ls, none, none, a6, 0, 0, c6⟩ : SAct)]).length (ractsV (l' ++ [(⟨(kn : Int), key, [], 0, ls, none, none, a6, 0, 0, c6⟩ : SAct)]))) := Lib.hid (by
                  have := HO9.out
                  rw [List.length_append, List.length_singleton]
                  simpa [ractsV, SAct.rcells, HLL.out, strN_nil] using this)
                have HM2 : Hid (∀ y ∈ l' ++ [(⟨(kn : Int), key, [], 0, ls, none, none, a6, 0, 0, c6⟩ : SAct)], y.rmine w9) := Lib.hid (fun y hy => by
                  rcases List.mem_append.1 hy with h | h
                  · exact ((HMI.out y h).grown HGA.out).step HH2.out (KindT.of_owns HO1.out)
                  · rw [List.mem_singleton.1 h]
                    refine SAct.rmine.step ⟨?_, ?_⟩ HH2.out (KindT.of_owns HO1.out)
                    · dsimp only
                      rw [HLL.out]
                      exact Rds.of_owns HOW1.out
                    · dsimp only
                      rw [HLL.out]
                      exact KindT.of_owns HOW1.out)
                have HGO2 : Hid (∀ i, i < j + 1 → goodP p0 i = true) := Lib.hid (fun i hi => by
                  by_cases h : i < j
                  · exact HGO.out i h
                  · obtain rfl : i = j := by omega
                    rw [HGD2.out]; rfl)
                have HAT2 : Hid (AtP ys (stP p0 (j + 1)) qk) := Lib.hid (by rw [HST.out]; exact HAT.out)
                clear x0 x1 x2 x3 x4
                go_wp2_with fail
                exact ⟨⟨j + 1, l' ++ [(⟨(kn : Int), key, [], 0, ls, none, none, a6, 0, 0, c6⟩ : SAct)], a9, c9, qk, by omega, by go_num, by rw [List.length_append, List.length_singleton], rfl, HL2.out, HGO2.out, HAT2.out, HM2.out, HO2.out, HG9.out⟩, by simp [intOf]; omega⟩
      · have hk8 : ((kn : Int) == 8) = false := by simpa using hk78
        have hk7 : ((kn : Int) == 7) = false := by simp [h6]
        clear hk78 h6
        have x0 := (HX.out.alloc (.cells #[.bool true, .bool true, .bool true] 60)).cell (j := 0) rfl
        go_wp2_with fail
        clear x0
        obtain ⟨Y, hY⟩ : ∃ Y, wc.heap.size = Y := ⟨_, rfl⟩
        have HYS : Hid (X < Y) := Lib.hid (by rw [← hY]; exact HX.out.lt)
        have hxyn : X ≠ Y := by have := HYS.out; omega
        have HXY := Lib.hid hxyn
        clear hxyn
        obtain ⟨wy, hwy⟩ : ∃ wy, wc.alloc (.cells #[.bool true, .bool true, .bool true] 60) = wy := ⟨_, rfl⟩
        have hgy : wc.grownBy wy none := by rw [← hwy]; exact World.grownBy_alloc _ _ none
        have HY : Hid (Blk wy Y 60 [.bool true, .bool true, .bool true]) := Lib.hid (by rw [← hwy, ← hY]; exact Blk.new wc _ _)
        have HX := Lib.hid (HX.out.grown hgy (by simp))
        have HG := Lib.hid (grownBy_trans HG.out hgy)
        rw [hY, hwy]
        clear hY hwy hgy
        refine (HTX.out p1 q1 _ (grownBy_trans HGR.out HG.out) HAT.out).mono ?_
        rintro e wd ⟨qq2, rfl, hat1, rfl⟩
        obtain ⟨t2, ht2⟩ : ∃ t, tP p1 = t := ⟨_, rfl⟩
        rw [ht2] at hat1
        rw [ht2]
        obtain ⟨key, pp2⟩ := t2
        dsimp only at hat1 ⊢
        have HT2 := Lib.hid ht2
        have HAT := Lib.hid hat1
        clear hat1 ht2
        have x0 := HX.out.cell (j := 0) rfl; have x1 := HX.out.cell (j := 1) rfl; have x2 := HX.out.cell (j := 2) rfl; have x3 := HX.out.cell (j := 3) rfl; have x4 := HX.out.cell (j := 4) rfl; have f0 := HX.out.frozen 0; have f1 := HX.out.frozen 1; have f2 := HX.out.frozen 2; have f3 := HX.out.frozen 3; have f4 := HX.out.frozen 4
        have y0 := HY.out.cell (j := 0) rfl; have y1 := HY.out.cell (j := 1) rfl; have y2 := HY.out.cell (j := 2) rfl
        have hsx := HX.out.setCell 1 (.string (strN key))
        have hsy := HY.out.setCell_other (p := ⟨X, 1, none⟩) (by exact HXY.out.symm) (.string (strN key))
        have sx0 := hsx.cell (j := 0) rfl
        have sx1 := hsx.cell (j := 1) rfl
        have sx2 := hsx.cell (j := 2) rfl
        have sx3 := hsx.cell (j := 3) rfl
        have sx4 := hsx.cell (j := 4) rfl
        have sy0 := hsy.cell (j := 0) rfl
        have sy1 := hsy.cell (j := 1) rfl
        have sy2 := hsy.cell (j := 2) rfl
        clear hsx hsy
        go_wp2_with fail
        clear sx0 sx1 sx2 sx3 sx4 sy0 sy1 sy2
        clear x0 x1 x2 x3 x4 f0 f1 f2 f3 f4; clear y0 y1 y2
        obtain ⟨ws3, hws⟩ : ∃ ws, wy.setCell ⟨X, 1, none⟩ (.string (strN key)) = ws := ⟨_, rfl⟩
        have hgs : wy.grownBy ws3 (some X) := by rw [← hws]; exact grownBy_setCell _ _ _
        have HG := Lib.hid (grownBy_base2 HG.out hgs (by rw [HXS.out]; exact Nat.le_refl _))
        have HX : Hid (Blk ws3 X 38 [.int .i64 (kn : Int), .string (strN key), .string ⟨#[]⟩, .int .i64 0, .slice none 0 0]) := Lib.hid (by rw [← hws]; exact HX.out.setCell 1 (.string (strN key)))
        have HY := Lib.hid (HY.out.grown hgs (fun e => HXY.out (by cases e; rfl)))
        rw [hws]
        clear hws hgs
        refine (HTX.out pp2 qq2 _ (grownBy_trans HGR.out HG.out) HAT.out).mono ?_
        rintro e wd ⟨qq4, rfl, hat1, rfl⟩
        obtain ⟨t4, ht4⟩ : ∃ t, tP pp2 = t := ⟨_, rfl⟩
        rw [ht4] at hat1
        rw [ht4]
        obtain ⟨val, pp4⟩ := t4
        dsimp only at hat1 ⊢
        have HT4 := Lib.hid ht4
        have HAT := Lib.hid hat1
        clear hat1 ht4
        have x0 := HX.out.cell (j := 0) rfl; have x1 := HX.out.cell (j := 1) rfl; have x2 := HX.out.cell (j := 2) rfl; have x3 := HX.out.cell (j := 3) rfl; have x4 := HX.out.cell (j := 4) rfl; have f0 := HX.out.frozen 0; have f1 := HX.out.frozen 1; have f2 := HX.out.frozen 2; have f3 := HX.out.frozen 3; have f4 := HX.out.frozen 4
        have y0 := HY.out.cell (j := 0) rfl; have y1 := HY.out.cell (j := 1) rfl; have y2 := HY.out.cell (j := 2) rfl
        have hsx := HX.out.setCell 2 (.string (strN val))
        have hsy := HY.out.setCell_other (p := ⟨X, 2, none⟩) (by exact HXY.out.symm) (.string (strN val))
        have sx0 := hsx.cell (j := 0) rfl
        have sx1 := hsx.cell (j := 1) rfl
        have sx2 := hsx.cell (j := 2) rfl
        have sx3 := hsx.cell (j := 3) rfl
        have sx4 := hsx.cell (j := 4) rfl
        have sy0 := hsy.cell (j := 0) rfl
        have sy1 := hsy.cell (j := 1) rfl
        have sy2 := hsy.cell (j := 2) rfl
        clear hsx hsy
        go_wp2_with fail
        clear sx0 sx1 sx2 sx3 sx4 sy0 sy1 sy2
        clear x0 x1 x2 x3 x4 f0 f1 f2 f3 f4; clear y0 y1 y2
        obtain ⟨ws5, hws⟩ : ∃ ws, ws3.setCell ⟨X, 2, none⟩ (.string (strN val)) = ws := ⟨_, rfl⟩
        have hgs : ws3.grownBy ws5 (some X) := by rw [← hws]; exact grownBy_setCell _ _ _
        have HG := Lib.hid (grownBy_base2 HG.out hgs (by rw [HXS.out]; exact Nat.le_refl _))
        have HX : Hid (Blk ws5 X 38 [.int .i64 (kn : Int), .string (strN key), .string (strN val), .int .i64 0, .slice none 0 0]) := Lib.hid (by rw [← hws]; exact HX.out.setCell 2 (.string (strN val)))
        have HY := Lib.hid (HY.out.grown hgs (fun e => HXY.out (by cases e; rfl)))
        rw [hws]
        clear hws hgs
        refine (HTK.out pp4 qq4 8 _ (by omega) (grownBy_trans HGR.out HG.out) HAT.out).mono ?_
        rintro e wd ⟨qq6, rfl, hat1, rfl⟩
        obtain ⟨t6, ht6⟩ : ∃ t, nP 8 pp4 = t := ⟨_, rfl⟩
        rw [ht6] at hat1
        rw [ht6]
        obtain ⟨un, pp6⟩ := t6
        dsimp only at hat1 ⊢
        have HT6 := Lib.hid ht6
        have HAT := Lib.hid hat1
        clear hat1 ht6
        have hsi : wrap64 (un : Int) = sI un := rfl
        obtain ⟨sn, hsn⟩ : ∃ s, sI un = s := ⟨_, rfl⟩
        rw [hsn] at hsi
        have HSN := Lib.hid hsn
        clear hsn
        have x0 := HX.out.cell (j := 0) rfl; have x1 := HX.out.cell (j := 1) rfl; have x2 := HX.out.cell (j := 2) rfl; have x3 := HX.out.cell (j := 3) rfl; have x4 := HX.out.cell (j := 4) rfl; have f0 := HX.out.frozen 0; have f1 := HX.out.frozen 1; have f2 := HX.out.frozen 2; have f3 := HX.out.frozen 3; have f4 := HX.out.frozen 4
        have y0 := HY.out.cell (j := 0) rfl; have y1 := HY.out.cell (j := 1) rfl; have y2 := HY.out.cell (j := 2) rfl
        have hsx := HX.out.setCell 3 (.int .i64 sn)
        have hsy := HY.out.setCell_other (p := ⟨X, 3, none⟩) (by exact HXY.out.symm) (.int .i64 sn)
        have sx0 := hsx.cell (j := 0) rfl
        have sx1 := hsx.cell (j := 1) rfl
        have sx2 := hsx.cell (j := 2) rfl
        have sx3 := hsx.cell (j := 3) rfl
        have sx4 := hsx.cell (j := 4) rfl
        have sy0 := hsy.cell (j := 0) rfl
        have sy1 := hsy.cell (j := 1) rfl
        have sy2 := hsy.cell (j := 2) rfl
        clear hsx hsy
        go_wp2_with fail
        clear sx0 sx1 sx2 sx3 sx4 sy0 sy1 sy2
        clear x0 x1 x2 x3 x4 f0 f1 f2 f3 f4; clear y0 y1 y2
        obtain ⟨ws7, hws⟩ : ∃ ws, ws5.setCell ⟨X, 3, none⟩ (.int .i64 sn) = ws := ⟨_, rfl⟩
        have hgs : ws5.grownBy ws7 (some X) := by rw [← hws]; exact grownBy_setCell _ _ _
        have HG := Lib.hid (grownBy_base2 HG.out hgs (by rw [HXS.out]; exact Nat.le_refl _))
        have HX : Hid (Blk ws7 X 38 [.int .i64 (kn : Int), .string (strN key), .string (strN val), .int .i64 sn, .slice none 0 0]) := Lib.hid (by rw [← hws]; exact HX.out.setCell 3 (.int .i64 sn))
        have HY := Lib.hid (HY.out.grown hgs (fun e => HXY.out (by cases e; rfl)))
        rw [hws]
        clear hws hgs
        clear hsi
        (try clear x0 x1 x2 x3 x4 f0 f1 f2 f3 f4 y0 y1 y2)
        go_loopw [5, 9, 12] (fun t n i wr => ∃ (p : Nat) (qk : Int) (a6 : Option Addr) (c6 : Nat), p ≤ 0 ∧ i = .int .i64 p ∧ t = .int .i64 qk ∧ AtP ys (nsP p pp6).2 qk ∧ wr.ownsRow X 3 1 (.slice a6 p c6) p (intsV (nsP p pp6).1) ∧ Blk wr X 38 [.int .i64 (kn : Int), .string (strN key), .string (strN val), .int .i64 sn, .slice a6 p c6] ∧ wo.grownBy wr none) (fun _ _ i _ => 0 - (intOf i).toNat)
        case atStart => exact ⟨0, _, none, 0, by omega, rfl, rfl, HAT.out, World.ownsRow_nil _ _ _ _, HX.out, HG.out⟩
        case round =>
          clear HX HG HAT HY
          obtain ⟨p, qk, a6, c6, hp, rfl, rfl, hat, ho, hx, hg⟩ := hrel
          obtain ⟨nj, hnj⟩ : ∃ r, nsP p pp6 = r := ⟨_, rfl⟩
          rw [hnj] at hat ho
          obtain ⟨ls, sj⟩ := nj
          dsimp only at hat ho
          have HNJ := Lib.hid hnj
          have hll : ls.length = p := by have := nsP_len pp6 p; rw [hnj] at this; exact this
          have HAT := Lib.hid hat
          have HOW := Lib.hid ho
          have HX := Lib.hid hx
          have HG := Lib.hid hg
          have HLL := Lib.hid hll
          clear hnj hat ho hx hg hll
          by_cases hlp : p < 0
          · exact absurd hlp (Nat.not_lt_zero _)
          · obtain rfl : p = 0 := by omega
            have hpi : ¬ ((0 : Nat) : Int) < ((0 : Nat) : Int) := by omega
            have hRA : readA pj = (⟨(kn : Int), key, val, sn, ls, none, none, none, 0, 0, 0⟩, sj) := by
              rw [HRA.out]
              simp [readF, HT2.out, HT4.out, HT6.out, HNJ.out, HSN.out]
            obtain ⟨hgd, hxp, hst⟩ := HGD.out _ _ qk hRA HAT.out
            unfold SAct.right at hgd
            dsimp only at hgd
            rw [HLL.out] at hgd
            have HRR := Lib.hid (rright_any (kn : Int) sn key val a6 0 c6 wr)
            obtain ⟨rb, hrb⟩ : ∃ rb, rightB (kn : Int) (key : List Nat).length (val : List Nat).length 0 sn = rb := ⟨_, rfl⟩
            rw [hrb] at hgd HRR
            (try rw [strN_nil] at HRR)
            have HGD2 := Lib.hid hgd
            have HXP := Lib.hid hxp
            have HST := Lib.hid hst
            clear hgd hxp hst hRA hrb
            have x0 := HX.out.cell (j := 0) rfl; have x1 := HX.out.cell (j := 1) rfl; have x2 := HX.out.cell (j := 2) rfl; have x3 := HX.out.cell (j := 3) rfl; have x4 := HX.out.cell (j := 4) rfl
            by_cases hq0 : qk < 0
            · have HE := Lib.hid (HE5.out j hlt (by rw [HGD2.out, decide_eq_true hq0]; rfl))
              go_wp2_with fail
              go_ret2
              exact HPO.out _ _ ⟨[], none, 0, 5, rfl, HE.out, Rds.nil _ _, fun x hx => (by simp at hx), grownBy_trans HGR.out HG.out⟩
            · rw [decide_eq_false hq0] at HGD2
              have hq0' : decide (qk < 0) = false := decide_eq_false hq0
              go_wp2_with fail
              refine HRR.out.mono ?_
              rintro e we ⟨rfl, ge⟩
              have HX := Lib.hid (HX.out.grown ge (by simp))
              have HOW := Lib.hid (owns_grown HOW.out ge)
              have HG := Lib.hid (grownBy_trans HG.out ge)
              clear ge x0 x1 x2 x3 x4 HRR
              have x0 := HX.out.cell (j := 0) rfl; have x1 := HX.out.cell (j := 1) rfl; have x2 := HX.out.cell (j := 2) rfl; have x3 := HX.out.cell (j := 3) rfl; have x4 := HX.out.cell (j := 4) rfl
              cases rb
              · have HE := Lib.hid (HE5.out j hlt (by rw [HGD2.out]; rfl))
                go_wp2_with fail
                go_ret2
                exact HPO.out _ _ ⟨[], none, 0, 5, rfl, HE.out, Rds.nil _ _, fun x hx => (by simp at hx), grownBy_trans HGR.out HG.out⟩
              · have HGA := Lib.hid (grownBy_trans HG.out (World.grownBy_alloc we (.cells #[.int .i64 (kn : Int), .string (strN key), .string (strN val), .int .i64 sn, .slice a6 0 c6] 38) none))
                have HO1 := Lib.hid (owns_grown HO.out HGA.out)
                have HS1 := Lib.hid (Rds.of_blk (sz := 5) (n := 1) (c := 1) (Blk.new we 38 [.int .i64 (kn : Int), .string (strN key), .string (strN val), .int .i64 sn, .slice a6 0 c6]) rfl (by unfold maxLen; omega))
                have HOW1 := Lib.hid (HOW.out.alloc (.cells #[.int .i64 (kn : Int), .string (strN key), .string (strN val), .int .i64 sn, .slice a6 0 c6] 38))
                have HGW := Lib.hid (grownBy_trans HGR.out HGA.out)
                go_wp2_with (at_builtin; refine wpList_append_rds rfl _ _ 22 rfl w.heap.size 38 i2 _ 5 72 Try.underlying22 hi2 hy0 hy1 hy2 rfl (by decide) (v := .slice a1 l'.length c1) (n := l'.length) (sv := .slice (some ⟨we.heap.size, 0, none⟩) 1 1) rfl HO1.out rfl HS1.out (by simp [Value.oneCell']) (by unfold maxLen; omega) (by omega) HGW.out.size ?_; intro v9 w9 h1 h2 _; (obtain ⟨a9, c9, rfl⟩ := (Rds.of_owns h1).slice); have HG9 := Lib.hid (grownBy_own2 HGW.out HO1.out (Nat.le_refl _) h2); have HO9 := Lib.hid h1; have HH2 := Lib.hid h2; clear h1 h2)
                have HL2 : Hid ((l' ++ [(⟨(kn : Int), key, val, sn, ls, none, none, a6, 0, 0, c6⟩ : SAct)]).map SAct.data = (List.range (j + 1)).map (xP p0)) := Lib.hid (by rw [List.map_append, HDA.out, List.range_succ, List.map_append, List.map_singleton, List.map_singleton, HXP.out]; rfl)
                have HO2 : Hid (w9.ownsRow w.heap.size 38 5 (.slice a9 (l' ++ [(⟨(kn : Int), key, val, sn, ls, none, none, a6, 0, 0, c6⟩ : SAct)]).length c9) (l' ++ [(⟨(kn : Int), key, val, sn, ls, none, none, a6, 0, 0, c6⟩ : SAct)]).length (ractsV (l' ++ [(⟨(kn : Int), key, val, sn, ls, none, none, a6, 0, 0, c6⟩ : SAct)]))) := Lib.hid (by
                  have := HO9.out
                  rw [List.length_append, List.length_singleton]
                  simpa [ractsV, SAct.rcells, HLL.out, strN_nil] using this)
                have HM2 : Hid (∀ y ∈ l' ++ [(⟨(kn : Int), key, val, sn, ls, none, none, a6, 0, 0, c6⟩ : SAct)], y.rmine w9) := Lib.hid (fun y hy => by
                  rcases List.mem_append.1 hy with h | h
                  · exact ((HMI.out y h).grown HGA.out).step HH2.out (KindT.of_owns HO1.out)
                  · rw [List.mem_singleton.1 h]
                    refine SAct.rmine.step ⟨?_, ?_⟩ HH2.out (KindT.of_owns HO1.out)
                    · dsimp only
                      rw [HLL.out]
                      exact Rds.of_owns HOW1.out
                    · dsimp only
                      rw [HLL.out]
                      exact KindT.of_owns HOW1.out)
                have HGO2 : Hid (∀ i, i < j + 1 → goodP p0 i = true) := Lib.hid (fun i hi => by
                  by_cases h : i < j
                  · exact HGO.out i h
                  · obtain rfl : i = j := by omega
                    rw [HGD2.out]; rfl)
                have HAT2 : Hid (AtP ys (stP p0 (j + 1)) qk) := Lib.hid (by rw [HST.out]; exact HAT.out)
                clear x0 x1 x2 x3 x4
                go_wp2_with fail
                exact ⟨⟨j + 1, l' ++ [(⟨(kn : Int), key, val, sn, ls, none, none, a6, 0, 0, c6⟩ : SAct)], a9, c9, qk, by omega, by go_num, by rw [List.length_append, List.length_singleton], rfl, HL2.out, HGO2.out, HAT2.out, HM2.out, HO2.out, HG9.out⟩, by simp [intOf]; omega⟩
      · have hk8 : ((kn : Int) == 8) = false := by simpa using hk78
        have hk7 : ((kn : Int) == 7) = false := by simp [h6]
        clear hk78 h6
        have x0 := (HX.out.alloc (.cells #[.bool false, .bool false, .bool false] 60)).cell (j := 0) rfl
        go_wp2_with fail
        clear x0
        obtain ⟨Y, hY⟩ : ∃ Y, wc.heap.size = Y := ⟨_, rfl⟩
        have HYS : Hid (X < Y) := Lib.hid (by rw [← hY]; exact HX.out.lt)
        have hxyn : X ≠ Y := by have := HYS.out; omega
        have HXY := Lib.hid hxyn
        clear hxyn
        obtain ⟨wy, hwy⟩ : ∃ wy, wc.alloc (.cells #[.bool false, .bool false, .bool false] 60) = wy := ⟨_, rfl⟩
        have hgy : wc.grownBy wy none := by rw [← hwy]; exact World.grownBy_alloc _ _ none
        have HY : Hid (Blk wy Y 60 [.bool false, .bool false, .bool false]) := Lib.hid (by rw [← hwy, ← hY]; exact Blk.new wc _ _)
        have HX := Lib.hid (HX.out.grown hgy (by simp))
        have HG := Lib.hid (grownBy_trans HG.out hgy)
        rw [hY, hwy]
        clear hY hwy hgy
        (try clear x0 x1 x2 x3 x4 f0 f1 f2 f3 f4 y0 y1 y2)
        go_loopw [5, 9, 12] (fun t n i wr => ∃ (p : Nat) (qk : Int) (a6 : Option Addr) (c6 : Nat), p ≤ 0 ∧ i = .int .i64 p ∧ t = .int .i64 qk ∧ AtP ys (nsP p p1).2 qk ∧ wr.ownsRow X 3 1 (.slice a6 p c6) p (intsV (nsP p p1).1) ∧ Blk wr X 38 [.int .i64 (kn : Int), .string ⟨#[]⟩, .string ⟨#[]⟩, .int .i64 0, .slice a6 p c6] ∧ wo.grownBy wr none) (fun _ _ i _ => 0 - (intOf i).toNat)
        case atStart => exact ⟨0, _, none, 0, by omega, rfl, rfl, HAT.out, World.ownsRow_nil _ _ _ _, HX.out, HG.out⟩
        case round =>
          clear HX HG HAT HY
          obtain ⟨p, qk, a6, c6, hp, rfl, rfl, hat, ho, hx, hg⟩ := hrel
          obtain ⟨nj, hnj⟩ : ∃ r, nsP p p1 = r := ⟨_, rfl⟩
          rw [hnj] at hat ho
          obtain ⟨ls, sj⟩ := nj
          dsimp only at hat ho
          have HNJ := Lib.hid hnj
          have hll : ls.length = p := by have := nsP_len p1 p; rw [hnj] at this; exact this
          have HAT := Lib.hid hat
          have HOW := Lib.hid ho
          have HX := Lib.hid hx
          have HG := Lib.hid hg
          have HLL := Lib.hid hll
          clear hnj hat ho hx hg hll
          by_cases hlp : p < 0
          · exact absurd hlp (Nat.not_lt_zero _)
          · obtain rfl : p = 0 := by omega
            have hpi : ¬ ((0 : Nat) : Int) < ((0 : Nat) : Int) := by omega
            have hRA : readA pj = (⟨(kn : Int), [], [], 0, ls, none, none, none, 0, 0, 0⟩, sj) := by
              rw [HRA.out]
              simp [readF, HNJ.out]
            obtain ⟨hgd, hxp, hst⟩ := HGD.out _ _ qk hRA HAT.out
            unfold SAct.right at hgd
            dsimp only at hgd
            rw [HLL.out] at hgd
            have HRR := Lib.hid (rright_any (kn : Int) 0 [] [] a6 0 c6 wr)
            obtain ⟨rb, hrb⟩ : ∃ rb, rightB (kn : Int) ([] : List Nat).length ([] : List Nat).length 0 0 = rb := ⟨_, rfl⟩
            rw [hrb] at hgd HRR
            (try rw [strN_nil] at HRR)
            have HGD2 := Lib.hid hgd
            have HXP := Lib.hid hxp
            have HST := Lib.hid hst
            clear hgd hxp hst hRA hrb
            have x0 := HX.out.cell (j := 0) rfl; have x1 := HX.out.cell (j := 1) rfl; have x2 := HX.out.cell (j := 2) rfl; have x3 := HX.out.cell (j := 3) rfl; have x4 := HX.out.cell (j := 4) rfl
            by_cases hq0 : qk < 0
            · have HE := Lib.hid (HE5.out j hlt (by rw [HGD2.out, decide_eq_true hq0]; rfl))
              go_wp2_with fail
              go_ret2
              exact HPO.out _ _ ⟨[], none, 0, 5, rfl, HE.out, Rds.nil _ _, fun x hx => (by simp at hx), grownBy_trans HGR.out HG.out⟩
            · rw [decide_eq_false hq0] at HGD2
              have hq0' : decide (qk < 0) = false := decide_eq_false hq0
              go_wp2_with fail
              refine HRR.out.mono ?_
              rintro e we ⟨rfl, ge⟩
              have HX := Lib.hid (HX.out.grown ge (by simp))
              have HOW := Lib.hid (owns_grown HOW.out ge)
              have HG := Lib.hid (grownBy_trans HG.out ge)
              clear ge x0 x1 x2 x3 x4 HRR
              have x0 := HX.out.cell (j := 0) rfl; have x1 := HX.out.cell (j := 1) rfl; have x2 := HX.out.cell (j := 2) rfl; have x3 := HX.out.cell (j := 3) rfl; have x4 := HX.out.cell (j := 4) rfl
              cases rb
              · have HE := Lib.hid (HE5.out j hlt (by rw [HGD2.out]; rfl))
                go_wp2_with fail
                go_ret2
                exact HPO.out _ _ ⟨[], none, 0, 5, rfl, HE.out, Rds.nil _ _, fun x hx => (by simp at hx), grownBy_trans HGR.out HG.out⟩
              · have HGA := Lib.hid (grownBy_trans HG.out (World.grownBy_alloc we (.cells #[.int .i64 (kn : Int), .string ⟨#[]⟩, .string ⟨#[]⟩, .int .i64 0, .slice a6 0 c6] 38) none))
                have HO1 := Lib.hid (owns_grown HO.out HGA.out)
                have HS1 := Lib.hid (Rds.of_blk (sz := 5) (n := 1) (c := 1) (Blk.new we 38 [.int .i64 (kn : Int), .string ⟨#[]⟩, .string ⟨#[]⟩, .int .i64 0, .slice a6 0 c6]) rfl (by unfold maxLen; omega))
                have HOW1 := Lib.hid (HOW.out.alloc (.cells #[.int .i64 (kn : Int), .string ⟨#[]⟩, .string ⟨#[]⟩, .int .i64 0, .slice a6 0 c6] 38))
                have HGW := Lib.hid (grownBy_trans HGR.out HGA.out)
                go_wp2_with (at_builtin; refine wpList_append_rds rfl _ _ 22 rfl w.heap.size 38 i2 _ 5 72 Try.underlying22 hi2 hy0 hy1 hy2 rfl (by decide) (v := .slice a1 l'.length c1) (n := l'.length) (sv := .slice (some ⟨we.heap.size, 0, none⟩) 1 1) rfl HO1.out rfl HS1.out (by simp [Value.oneCell']) (by unfold maxLen; omega) (by omega) HGW.out.size ?_; intro v9 w9 h1 h2 _; (obtain ⟨a9, c9, rfl⟩ := (Rds.of_owns h1).slice); have HG9 := Lib.hid (grownBy_own2 HGW.out HO1.out (Nat.le_refl _) h2); have HO9 := Lib.hid h1; have HH2 := Lib.hid h2; clear h1 h2)
                have HL2 : Hid ((l' ++ [(⟨(kn : Int), [], [], 0, ls, none, none, a6, 0, 0, c6⟩ : SAct)]).map SAct.data = (List.range (j + 1)).map (xP p0)) := Lib.hid (by rw [List.map_append, HDA.out, List.range_succ, List.map_append, List.map_singleton, List.map_singleton, HXP.out]; rfl)
                have HO2 : Hid (w9.ownsRow w.heap.size 38 5 (.slice a9 (l' ++ [(⟨(kn : Int), [], [], 0, ls, none, none, a6, 0, 0, c6⟩ : SAct)]).length c9) (l' ++ [(⟨(kn : Int), [], [], 0, ls, none, none, a6, 0, 0, c6⟩ : SAct)]).length (ractsV (l' ++ [(⟨(kn : Int), [], [], 0, ls, none, none, a6, 0, 0, c6⟩ : SAct)]))) := Lib.hid (by
                  have := HO9.out
                  rw [List.length_append, List.length_singleton]
                  simpa [ractsV, SAct.rcells, HLL.out, strN_nil] using this)
                have HM2 : Hid (∀ y ∈ l' ++ [(⟨(kn : Int), [], [], 0, ls, none, none, a6, 0, 0, c6⟩ : SAct)], y.rmine w9) := Lib.hid (fun y hy => by
                  rcases List.mem_append.1 hy with h | h
                  · exact ((HMI.out y h).grown HGA.out).step HH2.out (KindT.of_owns HO1.out)
                  · rw [List.mem_singleton.1 h]
                    refine SAct.rmine.step ⟨?_, ?_⟩ HH2.out (KindT.of_owns HO1.out)
                    · dsimp only
                      rw [HLL.out]
                      exact Rds.of_owns HOW1.out
                    · dsimp only
                      rw [HLL.out]
                      exact KindT.of_owns HOW1.out)
                have HGO2 : Hid (∀ i, i < j + 1 → goodP p0 i = true) := Lib.hid (fun i hi => by
                  by_cases h : i < j
                  · exact HGO.out i h
                  · obtain rfl : i = j := by omega
                    rw [HGD2.out]; rfl)
                have HAT2 : Hid (AtP ys (stP p0 (j + 1)) qk) := Lib.hid (by rw [HST.out]; exact HAT.out)
                clear x0 x1 x2 x3 x4
                go_wp2_with fail
                exact ⟨⟨j + 1, l' ++ [(⟨(kn : Int), [], [], 0, ls, none, none, a6, 0, 0, c6⟩ : SAct)], a9, c9, qk, by omega, by go_num, by rw [List.length_append, List.length_singleton], rfl, HL2.out, HGO2.out, HAT2.out, HM2.out, HO2.out, HG9.out⟩, by simp [intOf]; omega⟩
      · have hk8 : ((kn : Int) == 8) = false := by simpa using hk78
        have hk7 : ((kn : Int) == 7) = false := by simp [h6]
        clear hk78 h6
        have x0 := (HX.out.alloc (.cells #[.bool false, .bool false, .bool true] 60)).cell (j := 0) rfl
        go_wp2_with fail
        clear x0
        obtain ⟨Y, hY⟩ : ∃ Y, wc.heap.size = Y := ⟨_, rfl⟩
        have HYS : Hid (X < Y) := Lib.hid (by rw [← hY]; exact HX.out.lt)
        have hxyn : X ≠ Y := by have := HYS.out; omega
        have HXY := Lib.hid hxyn
        clear hxyn
        obtain ⟨wy, hwy⟩ : ∃ wy, wc.alloc (.cells #[.bool false, .bool false, .bool true] 60) = wy := ⟨_, rfl⟩
        have hgy : wc.grownBy wy none := by rw [← hwy]; exact World.grownBy_alloc _ _ none
        have HY : Hid (Blk wy Y 60 [.bool false, .bool false, .bool true]) := Lib.hid (by rw [← hwy, ← hY]; exact Blk.new wc _ _)
        have HX := Lib.hid (HX.out.grown hgy (by simp))
        have HG := Lib.hid (grownBy_trans HG.out hgy)
        rw [hY, hwy]
        clear hY hwy hgy
        refine (HTK.out p1 q1 8 _ (by omega) (grownBy_trans HGR.out HG.out) HAT.out).mono ?_
        rintro e wd ⟨qq2, rfl, hat1, rfl⟩
        obtain ⟨t2, ht2⟩ : ∃ t, nP 8 p1 = t := ⟨_, rfl⟩
        rw [ht2] at hat1
        rw [ht2]
        obtain ⟨un, pp2⟩ := t2
        dsimp only at hat1 ⊢
        have HT2 := Lib.hid ht2
        have HAT := Lib.hid hat1
        clear hat1 ht2
        have hsi : wrap64 (un : Int) = sI un := rfl
        obtain ⟨sn, hsn⟩ : ∃ s, sI un = s := ⟨_, rfl⟩
        rw [hsn] at hsi
        have HSN := Lib.hid hsn
        clear hsn
        have x0 := HX.out.cell (j := 0) rfl; have x1 := HX.out.cell (j := 1) rfl; have x2 := HX.out.cell (j := 2) rfl; have x3 := HX.out.cell (j := 3) rfl; have x4 := HX.out.cell (j := 4) rfl; have f0 := HX.out.frozen 0; have f1 := HX.out.frozen 1; have f2 := HX.out.frozen 2; have f3 := HX.out.frozen 3; have f4 := HX.out.frozen 4
        have y0 := HY.out.cell (j := 0) rfl; have y1 := HY.out.cell (j := 1) rfl; have y2 := HY.out.cell (j := 2) rfl
        have hsx := HX.out.setCell 3 (.int .i64 sn)
        have hsy := HY.out.setCell_other (p := ⟨X, 3, none⟩) (by exact HXY.out.symm) (.int .i64 sn)
        have sx0 := hsx.cell (j := 0) rfl
        have sx1 := hsx.cell (j := 1) rfl
        have sx2 := hsx.cell (j := 2) rfl
        have sx3 := hsx.cell (j := 3) rfl
        have sx4 := hsx.cell (j := 4) rfl
        have sy0 := hsy.cell (j := 0) rfl
        have sy1 := hsy.cell (j := 1) rfl
        have sy2 := hsy.cell (j := 2) rfl
        clear hsx hsy
        go_wp2_with fail
        clear sx0 sx1 sx2 sx3 sx4 sy0 sy1 sy2
        clear x0 x1 x2 x3 x4 f0 f1 f2 f3 f4; clear y0 y1 y2
        obtain ⟨ws3, hws⟩ : ∃ ws, wy.setCell ⟨X, 3, none⟩ (.int .i64 sn) = ws := ⟨_, rfl⟩
        have hgs : wy.grownBy ws3 (some X) := by rw [← hws]; exact grownBy_setCell _ _ _
        have HG := Lib.hid (grownBy_base2 HG.out hgs (by rw [HXS.out]; exact Nat.le_refl _))
        have HX : Hid (Blk ws3 X 38 [.int .i64 (kn : Int), .string ⟨#[]⟩, .string ⟨#[]⟩, .int .i64 sn, .slice none 0 0]) := Lib.hid (by rw [← hws]; exact HX.out.setCell 3 (.int .i64 sn))
        have HY := Lib.hid (HY.out.grown hgs (fun e => HXY.out (by cases e; rfl)))
        rw [hws]
        clear hws hgs
        clear hsi
        (try clear x0 x1 x2 x3 x4 f0 f1 f2 f3 f4 y0 y1 y2)
        go_loopw [5, 9, 12] (fun t n i wr => ∃ (p : Nat) (qk : Int) (a6 : Option Addr) (c6 : Nat), p ≤ 0 ∧ i = .int .i64 p ∧ t = .int .i64 qk ∧ AtP ys (nsP p pp2).2 qk ∧ wr.ownsRow X 3 1 (.slice a6 p c6) p (intsV (nsP p pp2).1) ∧ Blk wr X 38 [.int .i64 (kn : Int), .string ⟨#[]⟩, .string ⟨#[]⟩, .int .i64 sn, .slice a6 p c6] ∧ wo.grownBy wr none) (fun _ _ i _ => 0 - (intOf i).toNat)
        case atStart => exact ⟨0, _, none, 0, by omega, rfl, rfl, HAT.out, World.ownsRow_nil _ _ _ _, HX.out, HG.out⟩
        case round =>
          clear HX HG HAT HY
          obtain ⟨p, qk, a6, c6, hp, rfl, rfl, hat, ho, hx, hg⟩ := hrel
          obtain ⟨nj, hnj⟩ : ∃ r, nsP p pp2 = r := ⟨_, rfl⟩
          rw [hnj] at hat ho
          obtain ⟨ls, sj⟩ := nj
          dsimp only at hat ho
          have HNJ := Lib.hid hnj
          have hll : ls.length = p := by have := nsP_len pp2 p; rw [hnj] at this; exact this
          have HAT := Lib.hid hat
          have HOW := Lib.hid ho
          have HX := Lib.hid hx
          have HG := Lib.hid hg
          have HLL := Lib.hid hll
          clear hnj hat ho hx hg hll
          by_cases hlp : p < 0
          · exact absurd hlp (Nat.not_lt_zero _)
          · obtain rfl : p = 0 := by omega
            have hpi : ¬ ((0 : Nat) : Int) < ((0 : Nat) : Int) := by omega
            have hRA : readA pj = (⟨(kn : Int), [], [], sn, ls, none, none, none, 0, 0, 0⟩, sj) := by
              rw [HRA.out]
              simp [readF, HT2.out, HNJ.out, HSN.out]
            obtain ⟨hgd, hxp, hst⟩ := HGD.out _ _ qk hRA HAT.out
            unfold SAct.right at hgd
            dsimp only at hgd
            rw [HLL.out] at hgd
            have HRR := Lib.hid (rright_any (kn : Int) sn [] [] a6 0 c6 wr)
            obtain ⟨rb, hrb⟩ : ∃ rb, rightB (kn : Int) ([] : List Nat).length ([] : List Nat).length 0 sn = rb := ⟨_, rfl⟩
            rw [hrb] at hgd HRR
            (try rw [strN_nil] at HRR)
            have HGD2 := Lib.hid hgd
            have HXP := Lib.hid hxp
            have HST := Lib.hid hst
            clear hgd hxp hst hRA hrb
            have x0 := HX.out.cell (j := 0) rfl; have x1 := HX.out.cell (j := 1) rfl; have x2 := HX.out.cell (j := 2) rfl; have x3 := HX.out.cell (j := 3) rfl; have x4 := HX.out.cell (j := 4) rfl
            by_cases hq0 : qk < 0
            · have HE := Lib.hid (HE5.out j hlt (by rw [HGD2.out, decide_eq_true hq0]; rfl))
              go_wp2_with fail
              go_ret2
              exact HPO.out _ _ ⟨[], none, 0, 5, rfl, HE.out, Rds.nil _ _, fun x hx => (by simp at hx), grownBy_trans HGR.out HG.out⟩
            · rw [decide_eq_false hq0] at HGD2
              have hq0' : decide (qk < 0) = false := decide_eq_false hq0
              go_wp2_with fail
              refine HRR.out.mono ?_
              rintro e we ⟨rfl, ge⟩
              have HX := Lib.hid (HX.out.grown ge (by simp))
              have HOW := Lib.hid (owns_grown HOW.out ge)
              have HG := Lib.hid (grownBy_trans HG.out ge)
              clear ge x0 x1 x2 x3 x4 HRR
              have x0 := HX.out.cell (j := 0) rfl; have x1 := HX.out.cell (j := 1) rfl; have x2 := HX.out.cell (j := 2) rfl; have x3 := HX.out.cell (j := 3) rfl; have x4 := HX.out.cell (j := 4) rfl
              cases rb
              · have HE := Lib.hid (HE5.out j hlt (by rw [HGD2.out]; rfl))
                go_wp2_with fail
                go_ret2
                exact HPO.out _ _ ⟨[], none, 0, 5, rfl, HE.out, Rds.nil _ _, fun x hx => (by simp at hx), grownBy_trans HGR.out HG.out⟩
              · have HGA := Lib.hid (grownBy_trans HG.out (World.grownBy_alloc we (.cells #[.int .i64 (kn : Int), .string ⟨#[]⟩, .string ⟨#[]⟩, .int .i64 sn, .slice a6 0 c6] 38) none))
                have HO1 := Lib.hid (owns_grown HO.out HGA.out)
                have HS1 := Lib.hid (Rds.of_blk (sz := 5) (n := 1) (c := 1) (Blk.new we 38 [.int .i64 (kn : Int), .string ⟨#[]⟩, .string ⟨#[]⟩, .int .i64 sn, .slice a6 0 c6]) rfl (by unfold maxLen; omega))
                have HOW1 := Lib.hid (HOW.out.alloc (.cells #[.int .i64 (kn : Int), .string ⟨#[]⟩, .string ⟨#[]⟩, .int .i64 sn, .slice a6 0 c6] 38))
                have HGW := Lib.hid (grownBy_trans HGR.out HGA.out)
                go_wp2_with (at_builtin; refine wpList_append_rds rfl _ _ 22 rfl w.heap.size 38 i2 _ 5 72 Try.underlying22 hi2 hy0 hy1 hy2 rfl (by decide) (v := .slice a1 l'.length c1) (n := l'.length) (sv := .slice (some ⟨we.heap.size, 0, none⟩) 1 1) rfl HO1.out rfl HS1.out (by simp [Value.oneCell']) (by unfold maxLen; omega) (by omega) HGW.out.size ?_; intro v9 w9 h1 h2 _; (obtain ⟨a9, c9, rfl⟩ := (Rds.of_owns h1).slice); have HG9 := Lib.hid (grownBy_own2 HGW.out HO1.out (Nat.le_refl _) h2); have HO9 := Lib.hid h1; have HH2 := Lib.hid h2; clear h1 h2)
                have HL2 : Hid ((l' ++ [(⟨(kn : Int), [], [], sn, ls, none, none, a6, 0, 0, c6⟩ : SAct)]).map SAct.data = (List.range (j + 1)).map (xP p0)) := Lib.hid (by rw [List.map_append, HDA.out, List.range_succ, List.map_append, List.map_singleton, List.map_singleton, HXP.out]; rfl)
                have HO2 : Hid (w9.ownsRow w.heap.size 38 5 (.slice a9 (l' ++ [(⟨(kn : Int), [], [], sn, ls, none, none, a6, 0, 0, c6⟩ : SAct)]).length c9) (l' ++ [(⟨(kn : Int), [], [], sn, ls, none, none, a6, 0, 0, c6⟩ : SAct)]).length (ractsV (l' ++ [(⟨(kn : Int), [], [], sn, ls, none, none, a6, 0, 0, c6⟩ : SAct)]))) := Lib.hid (by
                  have := HO9.out
                  rw [List.length_append, List.length_singleton]
                  simpa [ractsV, SAct.rcells, HLL.out, strN_nil] using this)
                have HM2 : Hid (∀ y ∈ l' ++ [(⟨(kn : Int), [], [], sn, ls, none, none, a6, 0, 0, c6⟩ : SAct)], y.rmine w9) := Lib.hid (fun y hy => by
                  rcases List.mem_append.1 hy with h | h
                  · exact ((HMI.out y h).grown HGA.out).step HH2.out (KindT.of_owns HO1.out)
                  · rw [List.mem_singleton.1 h]
                    refine SAct.rmine.step ⟨?_, ?_⟩ HH2.out (KindT.of_owns HO1.out)
                    · dsimp only
                      rw [HLL.out]
                      exact Rds.of_owns HOW1.out
                    · dsimp only
                      rw [HLL.out]
                      exact KindT.of_owns HOW1.out)
                have HGO2 : Hid (∀ i, i < j + 1 → goodP p0 i = true) := Lib.hid (fun i hi => by
                  by_cases h : i < j
                  · exact HGO.out i h
                  · obtain rfl : i = j := by omega
                    rw [HGD2.out]; rfl)
                have HAT2 : Hid (AtP ys (stP p0 (j + 1)) qk) := Lib.hid (by rw [HST.out]; exact HAT.out)
                clear x0 x1 x2 x3 x4
                go_wp2_with fail
                exact ⟨⟨j + 1, l' ++ [(⟨(kn : Int), [], [], sn, ls, none, none, a6, 0, 0, c6⟩ : SAct)], a9, c9, qk, by omega, by go_num, by rw [List.length_append, List.length_singleton], rfl, HL2.out, HGO2.out, HAT2.out, HM2.out, HO2.out, HG9.out⟩, by simp [intOf]; omega⟩
      · have hk8 : ((kn : Int) == 8) = false := by simpa using hk78
        have hk7 : ((kn : Int) == 7) = true := by simp [h6]
        clear hk78 h6
        have x0 := (HX.out.alloc (.cells #[.bool false, .bool false, .bool false] 60)).cell (j := 0) rfl
        go_wp2_with fail
        clear x0
        obtain ⟨Y, hY⟩ : ∃ Y, wc.heap.size = Y := ⟨_, rfl⟩
        have HYS : Hid (X < Y) := Lib.hid (by rw [← hY]; exact HX.out.lt)
        have hxyn : X ≠ Y := by have := HYS.out; omega
        have HXY := Lib.hid hxyn
        clear hxyn
        obtain ⟨wy, hwy⟩ : ∃ wy, wc.alloc (.cells #[.bool false, .bool false, .bool false] 60) = wy := ⟨_, rfl⟩
        have hgy : wc.grownBy wy none := by rw [← hwy]; exact World.grownBy_alloc _ _ none
        have HY : Hid (Blk wy Y 60 [.bool false, .bool false, .bool false]) := Lib.hid (by rw [← hwy, ← hY]; exact Blk.new wc _ _)
        have HX := Lib.hid (HX.out.grown hgy (by simp))
        have HG := Lib.hid (grownBy_trans HG.out hgy)
        rw [hY, hwy]
        clear hY hwy hgy
        have hcl := nP1_lt p1 (HAT.out.small HS.out)
        refine (HTK.out p1 q1 1 _ (by omega) (grownBy_trans HGR.out HG.out) HAT.out).mono ?_
        rintro e wd ⟨qq2, rfl, hat1, rfl⟩
        obtain ⟨t2, ht2⟩ : ∃ t, nP 1 p1 = t := ⟨_, rfl⟩
        rw [ht2] at hat1 hcl
        rw [ht2]
        obtain ⟨cn, pp2⟩ := t2
        dsimp only at hat1 hcl ⊢
        have HT2 := Lib.hid ht2
        have HAT := Lib.hid hat1
        clear hat1 ht2
        have hsc : wrap64 (cn : Int) = cn := by unfold wrap64; omega
        have HCL := Lib.hid hcl
        clear hcl
        have x0 := HX.out.cell (j := 0) rfl; have x1 := HX.out.cell (j := 1) rfl; have x2 := HX.out.cell (j := 2) rfl; have x3 := HX.out.cell (j := 3) rfl; have x4 := HX.out.cell (j := 4) rfl; have f0 := HX.out.frozen 0; have f1 := HX.out.frozen 1; have f2 := HX.out.frozen 2; have f3 := HX.out.frozen 3; have f4 := HX.out.frozen 4
        have y0 := HY.out.cell (j := 0) rfl; have y1 := HY.out.cell (j := 1) rfl; have y2 := HY.out.cell (j := 2) rfl
        go_wp2_with fail
        (try clear x0 x1 x2 x3 x4 f0 f1 f2 f3 f4 y0 y1 y2)
        go_loopw [5, 9, 12] (fun t n i wr => ∃ (p : Nat) (qk : Int) (a6 : Option Addr) (c6 : Nat), p ≤ cn ∧ i = .int .i64 p ∧ t = .int .i64 qk ∧ AtP ys (nsP p pp2).2 qk ∧ wr.ownsRow X 3 1 (.slice a6 p c6) p (intsV (nsP p pp2).1) ∧ Blk wr X 38 [.int .i64 (kn : Int), .string ⟨#[]⟩, .string ⟨#[]⟩, .int .i64 0, .slice a6 p c6] ∧ wo.grownBy wr none) (fun _ _ i _ => cn - (intOf i).toNat)
        case atStart => exact ⟨0, _, none, 0, by omega, rfl, rfl, HAT.out, World.ownsRow_nil _ _ _ _, HX.out, HG.out⟩
        case round =>
          clear HX HG HAT HY
          obtain ⟨p, qk, a6, c6, hp, rfl, rfl, hat, ho, hx, hg⟩ := hrel
          obtain ⟨nj, hnj⟩ : ∃ r, nsP p pp2 = r := ⟨_, rfl⟩
          rw [hnj] at hat ho
          obtain ⟨ls, sj⟩ := nj
          dsimp only at hat ho
          have HNJ := Lib.hid hnj
          have hll : ls.length = p := by have := nsP_len pp2 p; rw [hnj] at this; exact this
          have HAT := Lib.hid hat
          have HOW := Lib.hid ho
          have HX := Lib.hid hx
          have HG := Lib.hid hg
          have HLL := Lib.hid hll
          clear hnj hat ho hx hg hll
          by_cases hlp : p < cn
          · have hpi : (p : Int) < (cn : Int) := by omega
            have hp6 : p ≤ 65536 := by have := HCL.out; omega
            go_wp2_with fail
            refine (HTK.out sj qk 8 _ (by omega) (grownBy_trans HGR.out HG.out) HAT.out).mono ?_
            rintro e wd ⟨qe, rfl, hat1, rfl⟩
            obtain ⟨tj, htj⟩ : ∃ t, nP 8 sj = t := ⟨_, rfl⟩
            rw [htj] at hat1
            rw [htj]
            obtain ⟨uj, pe⟩ := tj
            dsimp only at hat1 ⊢
            have HTJ := Lib.hid htj
            have HAT := Lib.hid hat1
            clear hat1 htj
            have hsi : wrap64 (uj : Int) = sI uj := rfl
            obtain ⟨sn', hsn⟩ : ∃ s, sI uj = s := ⟨_, rfl⟩
            rw [hsn] at hsi
            have HSJ := Lib.hid hsn
            clear hsn
            have x4 := HX.out.cell (j := 4) rfl
            have HO1 := Lib.hid (HOW.out.alloc (.cells #[.int .i64 sn'] 3))
            have HX1 := Lib.hid (HX.out.alloc (.cells #[.int .i64 sn'] 3))
            have HG1 := Lib.hid (grownBy_trans HG.out (World.grownBy_alloc wr (.cells #[.int .i64 sn'] 3) none))
            have HS1 := Lib.hid (Rds.of_blk (sz := 1) (n := 1) (c := 1) (Blk.new wr 3 [.int .i64 sn']) rfl (by unfold maxLen; omega))
            have HZ1 : Hid (X ≤ (wr.alloc (.cells #[.int .i64 sn'] 3)).heap.size) := Lib.hid (by rw [← HXS.out]; exact HG1.out.size)
            go_wp2_with (at_builtin; refine wpList_append_rds rfl _ _ 33 rfl X 3 i1 (.int .i64 0) 1 8 Try.underlying33 hi' hz0' hz1' hz2' rfl (by decide) (v := .slice a6 p c6) (n := p) (sv := .slice (some ⟨wr.heap.size, 0, none⟩) 1 1) rfl HO1.out rfl HS1.out (by simp [Value.oneCell']) (by unfold maxLen; omega) (by omega) HZ1.out ?_; intro v8 w8 h1 h2 _; (obtain ⟨a8, c8, rfl⟩ := (Rds.of_owns h1).slice); have HX8 := Lib.hid (Blk.grown HX1.out h2 (fun e => not_row HX1.out HO1.out (by decide) e.symm)); have HG8 := Lib.hid (grownBy_own2 HG1.out HO1.out (by rw [HXS.out]; exact Nat.le_refl _) h2); have HO8 := Lib.hid h1; clear h1 h2; have z4 := HX8.out.cell (j := 4) rfl; have zf := HX8.out.frozen 4)
            have hgs := grownBy_setCell w8 ⟨X, 4, none⟩ (.slice a8 (p + 1) c8)
            have HO9 : Hid (World.ownsRow _ X 3 1 (.slice a8 (p + 1) c8) (p + 1) (intsV (ls ++ [sn']))) := Lib.hid (by have := HO8.out.kept hgs (.inr (not_row HX8.out HO8.out (by decide))); simpa [intsV] using this)
            have HX9 : Hid (Blk (w8.setCell ⟨X, 4, none⟩ (.slice a8 (p + 1) c8)) X 38 [.int .i64 (kn : Int), .string ⟨#[]⟩, .string ⟨#[]⟩, .int .i64 0, .slice a8 (p + 1) c8]) := Lib.hid (HX8.out.setCell 4 (.slice a8 (p + 1) c8))
            have HG9 := Lib.hid (grownBy_base2 HG8.out hgs (by rw [HXS.out]; exact Nat.le_refl _))
            have HN2 : Hid (nsP (p + 1) pp2 = (ls ++ [sn'], pe)) := Lib.hid (by rw [nsP, HNJ.out, HTJ.out, HSJ.out])
            clear hgs z4 zf x4 hsi
            go_wp2_with fail
            exact ⟨⟨p + 1, qe, a8, c8, by omega, by go_num, rfl, by rw [HN2.out]; exact HAT.out, by rw [HN2.out]; exact HO9.out, HX9.out, HG9.out⟩, by simp [intOf]; omega⟩
          · obtain rfl : p = cn := by omega
            have hpi : ¬ (p : Int) < (p : Int) := by omega
            have hRA : readA pj = (⟨(kn : Int), [], [], 0, ls, none, none, none, 0, 0, 0⟩, sj) := by
              rw [HRA.out]
              simp [readF, HT2.out, HNJ.out]
            obtain ⟨hgd, hxp, hst⟩ := HGD.out _ _ qk hRA HAT.out
            unfold SAct.right at hgd
            dsimp only at hgd
            rw [HLL.out] at hgd
            have HRR := Lib.hid (rright_any (kn : Int) 0 [] [] a6 p c6 wr)
            obtain ⟨rb, hrb⟩ : ∃ rb, rightB (kn : Int) ([] : List Nat).length ([] : List Nat).length p 0 = rb := ⟨_, rfl⟩
            rw [hrb] at hgd HRR
            (try rw [strN_nil] at HRR)
            have HGD2 := Lib.hid hgd
            have HXP := Lib.hid hxp
            have HST := Lib.hid hst
            clear hgd hxp hst hRA hrb
            have x0 := HX.out.cell (j := 0) rfl; have x1 := HX.out.cell (j := 1) rfl; have x2 := HX.out.cell (j := 2) rfl; have x3 := HX.out.cell (j := 3) rfl; have x4 := HX.out.cell (j := 4) rfl
            by_cases hq0 : qk < 0
            · have HE := Lib.hid (HE5.out j hlt (by rw [HGD2.out, decide_eq_true hq0]; rfl))
              go_wp2_with fail
              go_ret2
              exact HPO.out _ _ ⟨[], none, 0, 5, rfl, HE.out, Rds.nil _ _, fun x hx => (by simp at hx), grownBy_trans HGR.out HG.out⟩
            · rw [decide_eq_false hq0] at HGD2
              have hq0' : decide (qk < 0) = false := decide_eq_false hq0
              go_wp2_with fail
              refine HRR.out.mono ?_
              rintro e we ⟨rfl, ge⟩
              have HX := Lib.hid (HX.out.grown ge (by simp))
              have HOW := Lib.hid (owns_grown HOW.out ge)
              have HG := Lib.hid (grownBy_trans HG.out ge)
              clear ge x0 x1 x2 x3 x4 HRR
              have x0 := HX.out.cell (j := 0) rfl; have x1 := HX.out.cell (j := 1) rfl; have x2 := HX.out.cell (j := 2) rfl; have x3 := HX.out.cell (j := 3) rfl; have x4 := HX.out.cell (j := 4) rfl
              cases rb
              · have HE := Lib.hid (HE5.out j hlt (by rw [HGD2.out]; rfl))
                go_wp2_with fail
                go_ret2
                exact HPO.out _ _ ⟨[], none, 0, 5, rfl, HE.out, Rds.nil _ _, fun x hx => (by simp at hx), grownBy_trans HGR.out HG.out⟩
              · have HGA := Lib.hid (grownBy_trans HG.out (World.grownBy_alloc we (.cells #[.int .i64 (kn : Int), .string ⟨#[]⟩, .string ⟨#[]⟩, .int .i64 0, .slice a6 p c6] 38) none))
                have HO1 := Lib.hid (owns_grown HO.out HGA.out)
                have HS1 := Lib.hid (Rds.of_blk (sz := 5) (n := 1) (c := 1) (Blk.new we 38 [.int .i64 (kn : Int), .string ⟨#[]⟩, .string ⟨#[]⟩, .int .i64 0, .slice a6 p c6]) rfl (by unfold maxLen; omega))
                have HOW1 := Lib.hid (HOW.out.alloc (.cells #[.int .i64 (kn : Int), .string ⟨#[]⟩, .string ⟨#[]⟩, .int .i64 0, .slice a6 p c6] 38))
                have HGW := Lib.hid (grownBy_trans HGR.out HGA.out)
                go_wp2_with (at_builtin; refine wpList_append_rds rfl _ _ 22 rfl w.heap.size 38 i2 _ 5 72 Try.underlying22 hi2 hy0 hy1 hy2 rfl (by decide) (v := .slice a1 l'.length c1) (n := l'.length) (sv := .slice (some ⟨we.heap.size, 0, none⟩) 1 1) rfl HO1.out rfl HS1.out (by simp [Value.oneCell']) (by unfold maxLen; omega) (by omega) HGW.out.size ?_; intro v9 w9 h1 h2 _; (obtain ⟨a9, c9, rfl⟩ := (Rds.of_owns h1).slice); have HG9 := Lib.hid (grownBy_own2 HGW.out HO1.out (Nat.le_refl _) h2); have HO9 := Lib.hid h1; have HH2 := Lib.hid h2; clear h1 h2)
                have HL2 : Hid ((l' ++ [(⟨(kn : Int), [], [], 0, ls, none, none, a6, 0, 0, c6⟩ : SAct)]).map SAct.data = (List.range (j + 1)).map (xP p0)) := Lib.hid (by rw [List.map_append, HDA.out, List.range_succ, List.map_append, List.map_singleton, List.map_singleton, HXP.out]; rfl)
                have HO2 : Hid (w9.ownsRow w.heap.size 38 5 (.slice a9 (l' ++ [(⟨(kn : Int), [], [], 0, ls, none, none, a6, 0, 0, c6⟩ : SAct)]).length c9) (l' ++ [(⟨(kn : Int), [], [], 0, ls, none, none, a6, 0, 0, c6⟩ : SAct)]).length (ractsV (l' ++ [(⟨(kn : Int), [], [], 0, ls, none, none, a6, 0, 0, c6⟩ : SAct)]))) := Lib.hid (by
                  have := HO9.out
                  rw [List.length_append, List.length_singleton]
                  simpa [ractsV, SAct.rcells, HLL.out, strN_nil] using this)
                have HM2 : Hid (∀ y ∈ l' ++ [(⟨(kn : Int), [], [], 0, ls, none, none, a6, 0, 0, c6⟩ : SAct)], y.rmine w9) := Lib.hid (fun y hy => by
                  rcases List.mem_append.1 hy with h | h
                  · exact ((HMI.out y h).grown HGA.out).step HH2.out (KindT.of_owns HO1.out)
                  · rw [List.mem_singleton.1 h]
                    refine SAct.rmine.step ⟨?_, ?_⟩ HH2.out (KindT.of_owns HO1.out)
                    · dsimp only
                      rw [HLL.out]
                      exact Rds.of_owns HOW1.out
                    · dsimp only
                      rw [HLL.out]
                      exact KindT.of_owns HOW1.out)
                have HGO2 : Hid (∀ i, i < j + 1 → goodP p0 i = true) := Lib.hid (fun i hi => by
                  by_cases h : i < j
                  · exact HGO.out i h
                  · obtain rfl : i = j := by omega
                    rw [HGD2.out]; rfl)
                have HAT2 : Hid (AtP ys (stP p0 (j + 1)) qk) := Lib.hid (by rw [HST.out]; exact HAT.out)
                clear x0 x1 x2 x3 x4
                go_wp2_with fail
                exact ⟨⟨j + 1, l' ++ [(⟨(kn : Int), [], [], 0, ls, none, none, a6, 0, 0, c6⟩ : SAct)], a9, c9, qk, by omega, by go_num, by rw [List.length_append, List.length_singleton], rfl, HL2.out, HGO2.out, HAT2.out, HM2.out, HO2.out, HG9.out⟩, by simp [intOf]; omega⟩
      · have hk8 : ((kn : Int) == 8) = true := by simpa using hk78
        have hk7 : ((kn : Int) == 7) = false := by simp [h6]
        clear hk78 h6
        have x0 := (HX.out.alloc (.cells #[.bool false, .bool false, .bool false] 60)).cell (j := 0) rfl
        go_wp2_with fail
        clear x0
        obtain ⟨Y, hY⟩ : ∃ Y, wc.heap.size = Y := ⟨_, rfl⟩
        have HYS : Hid (X < Y) := Lib.hid (by rw [← hY]; exact HX.out.lt)
        have hxyn : X ≠ Y := by have := HYS.out; omega
        have HXY := Lib.hid hxyn
        clear hxyn
        obtain ⟨wy, hwy⟩ : ∃ wy, wc.alloc (.cells #[.bool false, .bool false, .bool false] 60) = wy := ⟨_, rfl⟩
        have hgy : wc.grownBy wy none := by rw [← hwy]; exact World.grownBy_alloc _ _ none
        have HY : Hid (Blk wy Y 60 [.bool false, .bool false, .bool false]) := Lib.hid (by rw [← hwy, ← hY]; exact Blk.new wc _ _)
        have HX := Lib.hid (HX.out.grown hgy (by simp))
        have HG := Lib.hid (grownBy_trans HG.out hgy)
        rw [hY, hwy]
        clear hY hwy hgy
        (try clear x0 x1 x2 x3 x4 f0 f1 f2 f3 f4 y0 y1 y2)
        go_loopw [5, 9, 12] (fun t n i wr => ∃ (p : Nat) (qk : Int) (a6 : Option Addr) (c6 : Nat), p ≤ 3 ∧ i = .int .i64 p ∧ t = .int .i64 qk ∧ AtP ys (nsP p p1).2 qk ∧ wr.ownsRow X 3 1 (.slice a6 p c6) p (intsV (nsP p p1).1) ∧ Blk wr X 38 [.int .i64 (kn : Int), .string ⟨#[]⟩, .string ⟨#[]⟩, .int .i64 0, .slice a6 p c6] ∧ wo.grownBy wr none) (fun _ _ i _ => 3 - (intOf i).toNat)
        case atStart => exact ⟨0, _, none, 0, by omega, rfl, rfl, HAT.out, World.ownsRow_nil _ _ _ _, HX.out, HG.out⟩
        case round =>
          clear HX HG HAT HY
          obtain ⟨p, qk, a6, c6, hp, rfl, rfl, hat, ho, hx, hg⟩ := hrel
          obtain ⟨nj, hnj⟩ : ∃ r, nsP p p1 = r := ⟨_, rfl⟩
          rw [hnj] at hat ho
          obtain ⟨ls, sj⟩ := nj
          dsimp only at hat ho
          have HNJ := Lib.hid hnj
          have hll : ls.length = p := by have := nsP_len p1 p; rw [hnj] at this; exact this
          have HAT := Lib.hid hat
          have HOW := Lib.hid ho
          have HX := Lib.hid hx
          have HG := Lib.hid hg
          have HLL := Lib.hid hll
          clear hnj hat ho hx hg hll
          by_cases hlp : p < 3
          · have hpi : (p : Int) < (3 : Int) := by omega
            have hp6 : p ≤ 65536 := by omega
            go_wp2_with fail
            refine (HTK.out sj qk 8 _ (by omega) (grownBy_trans HGR.out HG.out) HAT.out).mono ?_
            rintro e wd ⟨qe, rfl, hat1, rfl⟩
            obtain ⟨tj, htj⟩ : ∃ t, nP 8 sj = t := ⟨_, rfl⟩
            rw [htj] at hat1
            rw [htj]
            obtain ⟨uj, pe⟩ := tj
            dsimp only at hat1 ⊢
            have HTJ := Lib.hid htj
            have HAT := Lib.hid hat1
            clear hat1 htj
            have hsi : wrap64 (uj : Int) = sI uj := rfl
            obtain ⟨sn', hsn⟩ : ∃ s, sI uj = s := ⟨_, rfl⟩
            rw [hsn] at hsi
            have HSJ := Lib.hid hsn
            clear hsn
            have x4 := HX.out.cell (j := 4) rfl
            have HO1 := Lib.hid (HOW.out.alloc (.cells #[.int .i64 sn'] 3))
            have HX1 := Lib.hid (HX.out.alloc (.cells #[.int .i64 sn'] 3))
            have HG1 := Lib.hid (grownBy_trans HG.out (World.grownBy_alloc wr (.cells #[.int .i64 sn'] 3) none))
            have HS1 := Lib.hid (Rds.of_blk (sz := 1) (n := 1) (c := 1) (Blk.new wr 3 [.int .i64 sn']) rfl (by unfold maxLen; omega))
            have HZ1 : Hid (X ≤ (wr.alloc (.cells #[.int .i64 sn'] 3)).heap.size) := Lib.hid (by rw [← HXS.out]; exact HG1.out.size)
            go_wp2_with (at_builtin; refine wpList_append_rds rfl _ _ 33 rfl X 3 i1 (.int .i64 0) 1 8 Try.underlying33 hi' hz0' hz1' hz2' rfl (by decide) (v := .slice a6 p c6) (n := p) (sv := .slice (some ⟨wr.heap.size, 0, none⟩) 1 1) rfl HO1.out rfl HS1.out (by simp [Value.oneCell']) (by unfold maxLen; omega) (by omega) HZ1.out ?_; intro v8 w8 h1 h2 _; (obtain ⟨a8, c8, rfl⟩ := (Rds.of_owns h1).slice); have HX8 := Lib.hid (Blk.grown HX1.out h2 (fun e => not_row HX1.out HO1.out (by decide) e.symm)); have HG8 := Lib.hid (grownBy_own2 HG1.out HO1.out (by rw [HXS.out]; exact Nat.le_refl _) h2); have HO8 := Lib.hid h1; clear h1 h2; have z4 := HX8.out.cell (j := 4) rfl; have zf := HX8.out.frozen 4)
            have hgs := grownBy_setCell w8 ⟨X, 4, none⟩ (.slice a8 (p + 1) c8)
            have HO9 : Hid (World.ownsRow _ X 3 1 (.slice a8 (p + 1) c8) (p + 1) (intsV (ls ++ [sn']))) := Lib.hid (by have := HO8.out.kept hgs (.inr (not_row HX8.out HO8.out (by decide))); simpa [intsV] using this)
            have HX9 : Hid (Blk (w8.setCell ⟨X, 4, none⟩ (.slice a8 (p + 1) c8)) X 38 [.int .i64 (kn : Int), .string ⟨#[]⟩, .string ⟨#[]⟩, .int .i64 0, .slice a8 (p + 1) c8]) := Lib.hid (HX8.out.setCell 4 (.slice a8 (p + 1) c8))
            have HG9 := Lib.hid (grownBy_base2 HG8.out hgs (by rw [HXS.out]; exact Nat.le_refl _))
            have HN2 : Hid (nsP (p + 1) p1 = (ls ++ [sn'], pe)) := Lib.hid (by rw [nsP, HNJ.out, HTJ.out, HSJ.out])
            clear hgs z4 zf x4 hsi
            go_wp2_with fail
            exact ⟨⟨p + 1, qe, a8, c8, by omega, by go_num, rfl, by rw [HN2.out]; exact HAT.out, by rw [HN2.out]; exact HO9.out, HX9.out, HG9.out⟩, by simp [intOf]; omega⟩
          · obtain rfl : p = 3 := by omega
            have hpi : ¬ ((3 : Nat) : Int) < ((3 : Nat) : Int) := by omega
            have hRA : readA pj = (⟨(kn : Int), [], [], 0, ls, none, none, none, 0, 0, 0⟩, sj) := by
              rw [HRA.out]
              simp [readF, HNJ.out]
            obtain ⟨hgd, hxp, hst⟩ := HGD.out _ _ qk hRA HAT.out
            unfold SAct.right at hgd
            dsimp only at hgd
            rw [HLL.out] at hgd
            have HRR := Lib.hid (rright_any (kn : Int) 0 [] [] a6 3 c6 wr)
            obtain ⟨rb, hrb⟩ : ∃ rb, rightB (kn : Int) ([] : List Nat).length ([] : List Nat).length 3 0 = rb := ⟨_, rfl⟩
            rw [hrb] at hgd HRR
            (try rw [strN_nil] at HRR)
            have HGD2 := Lib.hid hgd
            have HXP := Lib.hid hxp
            have HST := Lib.hid hst
            clear hgd hxp hst hRA hrb
            have x0 := HX.out.cell (j := 0) rfl; have x1 := HX.out.cell (j := 1) rfl; have x2 := HX.out.cell (j := 2) rfl; have x3 := HX.out.cell (j := 3) rfl; have x4 := HX.out.cell (j := 4) rfl
            by_cases hq0 : qk < 0
            · have HE := Lib.hid (HE5.out j hlt (by rw [HGD2.out, decide_eq_true hq0]; rfl))
              go_wp2_with fail
              go_ret2
              exact HPO.out _ _ ⟨[], none, 0, 5, rfl, HE.out, Rds.nil _ _, fun x hx => (by simp at hx), grownBy_trans HGR.out HG.out⟩
            · rw [decide_eq_false hq0] at HGD2
              have hq0' : decide (qk < 0) = false := decide_eq_false hq0
              go_wp2_with fail
              refine HRR.out.mono ?_
              rintro e we ⟨rfl, ge⟩
              have HX := Lib.hid (HX.out.grown ge (by simp))
              have HOW := Lib.hid (owns_grown HOW.out ge)
              have HG := Lib.hid (grownBy_trans HG.out ge)
              clear ge x0 x1 x2 x3 x4 HRR
              have x0 := HX.out.cell (j := 0) rfl; have x1 := HX.out.cell (j := 1) rfl; have x2 := HX.out.cell (j := 2) rfl; have x3 := HX.out.cell (j := 3) rfl; have x4 := HX.out.cell (j := 4) rfl
              cases rb
              · have HE := Lib.hid (HE5.out j hlt (by rw [HGD2.out]; rfl))
                go_wp2_with fail
                go_ret2
                exact HPO.out _ _ ⟨[], none, 0, 5, rfl, HE.out, Rds.nil _ _, fun x hx => (by simp at hx), grownBy_trans HGR.out HG.out⟩
              · have HGA := Lib.hid (grownBy_trans HG.out (World.grownBy_alloc we (.cells #[.int .i64 (kn : Int), .string ⟨#[]⟩, .string ⟨#[]⟩, .int .i64 0, .slice a6 3 c6] 38) none))
                have HO1 := Lib.hid (owns_grown HO.out HGA.out)
                have HS1 := Lib.hid (Rds.of_blk (sz := 5) (n := 1) (c := 1) (Blk.new we 38 [.int .i64 (kn : Int), .string ⟨#[]⟩, .string ⟨#[]⟩, .int .i64 0, .slice a6 3 c6]) rfl (by unfold maxLen; omega))
                have HOW1 := Lib.hid (HOW.out.alloc (.cells #[.int .i64 (kn : Int), .string ⟨#[]⟩, .string ⟨#[]⟩, .int .i64 0, .slice a6 3 c6] 38))
                have HGW := Lib.hid (grownBy_trans HGR.out HGA.out)
                go_wp2_with (at_builtin; refine wpList_append_rds rfl _ _ 22 rfl w.heap.size 38 i2 _ 5 72 Try.underlying22 hi2 hy0 hy1 hy2 rfl (by decide) (v := .slice a1 l'.length c1) (n := l'.length) (sv := .slice (some ⟨we.heap.size, 0, none⟩) 1 1) rfl HO1.out rfl HS1.out (by simp [Value.oneCell']) (by unfold maxLen; omega) (by omega) HGW.out.size ?_; intro v9 w9 h1 h2 _; (obtain ⟨a9, c9, rfl⟩ := (Rds.of_owns h1).slice); have HG9 := Lib.hid (grownBy_own2 HGW.out HO1.out (Nat.le_refl _) h2); have HO9 := Lib.hid h1; have HH2 := Lib.hid h2; clear h1 h2)
                have HL2 : Hid ((l' ++ [(⟨(kn : Int), [], [], 0, ls, none, none, a6, 0, 0, c6⟩ : SAct)]).map SAct.data = (List.range (j + 1)).map (xP p0)) := Lib.hid (by rw [List.map_append, HDA.out, List.range_succ, List.map_append, List.map_singleton, List.map_singleton, HXP.out]; rfl)
                have HO2 : Hid (w9.ownsRow w.heap.size 38 5 (.slice a9 (l' ++ [(⟨(kn : Int), [], [], 0, ls, none, none, a6, 0, 0, c6⟩ : SAct)]).length c9) (l' ++ [(⟨(kn : Int), [], [], 0, ls, none, none, a6, 0, 0, c6⟩ : SAct)]).length (ractsV (l' ++ [(⟨(kn : Int), [], [], 0, ls, none, none, a6, 0, 0, c6⟩ : SAct)]))) := Lib.hid (by
                  have := HO9.out
                  rw [List.length_append, List.length_singleton]
                  simpa [ractsV, SAct.rcells, HLL.out, strN_nil] using this)
                have HM2 : Hid (∀ y ∈ l' ++ [(⟨(kn : Int), [], [], 0, ls, none, none, a6, 0, 0, c6⟩ : SAct)], y.rmine w9) := Lib.hid (fun y hy => by
                  rcases List.mem_append.1 hy with h | h
                  · exact ((HMI.out y h).grown HGA.out).step HH2.out (KindT.of_owns HO1.out)
                  · rw [List.mem_singleton.1 h]
                    refine SAct.rmine.step ⟨?_, ?_⟩ HH2.out (KindT.of_owns HO1.out)
                    · dsimp only
                      rw [HLL.out]
                      exact Rds.of_owns HOW1.out
                    · dsimp only
                      rw [HLL.out]
                      exact KindT.of_owns HOW1.out)
                have HGO2 : Hid (∀ i, i < j + 1 → goodP p0 i = true) := Lib.hid (fun i hi => by
                  by_cases h : i < j
                  · exact HGO.out i h
                  · obtain rfl : i = j := by omega
                    rw [HGD2.out]; rfl)
                have HAT2 : Hid (AtP ys (stP p0 (j + 1)) qk) := Lib.hid (by rw [HST.out]; exact HAT.out)
                clear x0 x1 x2 x3 x4
                go_wp2_with fail
                exact ⟨⟨j + 1, l' ++ [(⟨(kn : Int), [], [], 0, ls, none, none, a6, 0, 0, c6⟩ : SAct)], a9, c9, qk, by omega, by go_num, by rw [List.length_append, List.length_singleton], rfl, HL2.out, HGO2.out, HAT2.out, HM2.out, HO2.out, HG9.out⟩, by simp [intOf]; omega⟩
    · obtain rfl : j = m := by omega
      have hji : ¬ (j : Int) < (j : Int) := by omega
      have hrd := Rds.of_owns HO.out
      by_cases hqe : q = ys.length
      · have HE : Hid (UnR ys l' 0) := Lib.hid (UnR.mk HNP.out (.inr (.inr ⟨hle, ⟨HGO.out, HAT.out.whole.2 hqe⟩, rfl, HDA.out⟩)))
        have HRD := Lib.hid hrd
        have hne : (q != (ys.length : Int)) = false := by simp [hqe]
        clear hqe hrd
        go_wp2_with fail
        go_ret2
        exact HPO.out _ _ ⟨l', a1, c1, 0, rfl, HE.out, HRD.out, fun x hx => (HMI.out x hx).rds, HGR.out⟩
      · have HE : Hid (UnR ys [] 5) := Lib.hid (UnR.mk HNP.out (.inr (.inl ⟨hle, fun h => hqe (HAT.out.whole.1 h.2), rfl, rfl⟩)))
        have hne : (q != (ys.length : Int)) = true := by simp [hqe]
        clear hrd
        go_wp2_with fail
        go_ret2
        exact HPO.out _ _ ⟨[], none, 0, 5, rfl, HE.out, Rds.nil _ _, fun x hx => (by simp at hx), HGR.out⟩

end Go.Proofs.Ytbjpjnkaaiajlaa
