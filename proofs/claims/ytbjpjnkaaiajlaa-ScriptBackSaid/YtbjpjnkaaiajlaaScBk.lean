/- Layer 20: ScriptBack. -/
import Derived.Test.YtbjpjnkaaiajlaaScLw2
import Derived.Test.YtbjpjnkaaiajlaaScTd
import Derived.Test.YtbjpjnkaaiajlaaScAr
import Derived.Test.YtbjpjnkaaiajlaaArgBc
namespace Go.Proofs.Ytbjpjnkaaiajlaa
open Go.RowKit Go.WideShapes Go.ChangeShapes Go.ChangeAt

theorem wdata_eq {x : SAct} (h : x.in64) : x.wdata = x.data := by
  unfold SAct.wdata SAct.data
  rw [wI_in x.n h.1]
  have : x.ns.map wI = x.ns := by
    conv => rhs; rw [← List.map_id x.ns]
    exact List.map_congr_left (fun y hy => wI_in y (h.2 y hy))
  rw [this]
theorem range_wdata {l : List SAct} (h : ∀ x ∈ l, x.in64) : (List.range l.length).map (fun j => (l.getD j default).wdata) = l.map SAct.data := by
  refine List.ext_getElem (by simp) (fun i h1 h2 => ?_)
  simp only [List.length_map, List.length_range] at h1
  simp only [List.getElem_map, List.getElem_range]
  rw [show l.getD i default = l[i] by simp [List.getD, h1], wdata_eq (h _ (List.getElem_mem h1))]
/-- The bytes that are packed are read as the acts. -/
theorem un_pack {l : List SAct} (hri : ∀ x ∈ l, x.right = true) (hin : ∀ x ∈ l, x.in64) (h60 : l.length ≤ 65536) {m : List SAct} {er : Int} (h : UnR (numB l.length 4 ++ flatA l) m er) : er = 0 ∧ m.map SAct.data = l.map SAct.data := by
  have hn := np4 l [] h60
  rw [List.append_nil] at hn
  have hsf := st_flat l hri [] l.length (Nat.le_refl _)
  rw [List.append_nil, List.drop_length] at hsf
  have hgf := good_flat l hri []
  rw [List.append_nil] at hgf
  have hok : okU (numB l.length 4 ++ flatA l) := by
    unfold okU
    rw [hn]
    refine ⟨hgf, ?_⟩
    dsimp only
    rw [hsf.1]
    rfl
  rcases h with h | h | h
  · rw [hn] at h; omega
  · exact absurd hok h.2.1
  · refine ⟨h.2.2.1, ?_⟩
    rw [h.2.2.2, hn, ← range_wdata hin]
    exact List.map_congr_left (fun j hj => hsf.2 j (List.mem_range.1 hj))
theorem flatA_len (l : List SAct) : l.length ≤ (flatA l).length := by
  induction l with
  | nil => simp
  | cons x l ih =>
    unfold flatA at ih ⊢
    rw [List.flatMap_cons, List.length_append, List.length_cons]
    have : 1 ≤ x.bytes.length := by
      unfold SAct.bytes actB
      simp only [List.length_append, numB_len]
      omega
    omega
/-- What is read of bytes is packed as them. -/
theorem pack_un {ys : List Nat} (hs : ∀ y ∈ ys, y < 256) {m : List SAct} {er : Int} (h : UnR ys m er) : (er ≠ 0 ∧ m = []) ∨ (er = 0 ∧ packOf m = (ys, 0) ∧ m.length ≤ ys.length ∧ (m.flatMap SAct.bytes).length ≤ ys.length) := by
  rcases h with h | h | h
  · exact .inl ⟨by rw [h.2.2]; decide, h.2.1⟩
  · exact .inl ⟨by rw [h.2.2.2]; decide, h.2.2.1⟩
  · right
    obtain ⟨_, hok, he, hd⟩ := h
    obtain ⟨e, hr⟩ := okU_pack hs hok
    have hll : m.length = (nP 4 (ys, false)).1 := by have := congrArg List.length hd; simpa using this
    have hp : packOf m = packOf ((List.range (nP 4 (ys, false)).1).map (xP (nP 4 (ys, false)).2)) := by rw [← packOf_data m, hd]
    have hb : m.flatMap SAct.bytes = flatA ((List.range (nP 4 (ys, false)).1).map (xP (nP 4 (ys, false)).2)) := by
      have h1 : (m.map SAct.data).flatMap SAct.bytes = m.flatMap SAct.bytes := by rw [List.flatMap_map]; rfl
      rw [← h1, hd]
      rfl
    have hpo : packOf ((List.range (nP 4 (ys, false)).1).map (xP (nP 4 (ys, false)).2)) = (ys, 0) := by
      unfold packOf
      rw [if_pos (List.all_eq_true.2 hr)]
      refine Prod.ext ?_ rfl
      rw [List.length_map, List.length_range]
      exact e.symm
    have hfl := flatA_len ((List.range (nP 4 (ys, false)).1).map (xP (nP 4 (ys, false)).2))
    rw [List.length_map, List.length_range] at hfl
    have hyl := congrArg List.length e
    rw [List.length_append, numB_len] at hyl
    exact ⟨he, hp.trans hpo, by omega, by rw [hb]; omega⟩

set_option maxRecDepth 100000 in
set_option maxHeartbeats 8000000 in
theorem scriptBack_walk0 (l : List SAct) (a : Option Addr) (c : Nat) (bs : List Nat) (ab : Option Addr) (cb : Nat) (w : World) (hr : Rds w 5 (.slice a l.length c) l.length (ractsV l)) (hg : ∀ x ∈ l, x.rgood w) (hin : ∀ x ∈ l, x.in64) (hrb : Rds w 1 (.slice ab bs.length cb) bs.length (bytesV bs)) (hsb : ∀ y ∈ bs, y < 256) :
    Calls Try.prog 6 #[.slice a l.length c, .slice ab bs.length cb] w fun e w' => e = .returned (.bool true) ∧ Below w.heap.size w w' := by
  have hli := light_any l a c w hr
  cases hL : lightS l
  · rw [hL] at hli
    have HLI := Lib.hid hli
    clear hli hL hr hg hin hrb hsb
    go_enter Try.func6, Try.ntmps6
    go_wp2_with fail
    refine HLI.out.mono ?_
    rintro e w1 ⟨rfl, rfl⟩
    go_wp2_with fail
    go_ret
    exact ⟨rfl, Below.refl _ _⟩
  rw [hL] at hli
  have hbm := hrb.2.1
  unfold maxLen at hbm
  by_cases h2k : 2000 < bs.length
  · have h2i : (2000 : Int) < (bs.length : Int) := by omega
    have HLI := Lib.hid hli
    clear hli hL hr hg hin hrb hsb
    go_enter Try.func6, Try.ntmps6
    go_wp2_with fail
    refine HLI.out.mono ?_
    rintro e w1 ⟨rfl, rfl⟩
    go_wp2_with fail
    go_ret
    exact ⟨rfl, Below.refl _ _⟩
  have h2i : ¬ (2000 : Int) < (bs.length : Int) := by omega
  obtain ⟨h60, hks, hbs⟩ := light_small hL
  have hsm := pack_small hg
  have HLI := Lib.hid hli
  have HOF := Lib.hid (of_any l a c w hr hg (by omega) hks)
  have HR := Lib.hid hr
  have HNS : Hid (∀ x ∈ l, Rds w 1 (.slice x.na x.ns.length x.nc) x.ns.length (intsV x.ns)) := Lib.hid (fun x hx => (hg x hx).ns)
  have HRB := Lib.hid hrb
  have HSB := Lib.hid hsb
  have HIN := Lib.hid hin
  clear hli hL hr hg hks hrb hsb hin
  go_enter Try.func6, Try.ntmps6
  go_wp2_with fail
  refine HLI.out.mono ?_
  rintro e w1 ⟨rfl, rfl⟩
  go_wp2_with fail
  refine HOF.out.mono ?_
  rintro e w2 ⟨l', a2, c2, rfl, hd2, hm2, ho2, hg2⟩
  have hll := len_same hd2
  have hpk := ppack_any l' a2 c2 w2 (Rds.of_owns ho2) (fun x hx => (hm2 x hx).good) (by omega) (by rw [bytes_same hd2]; exact hbs)
  rw [packOf_same hd2] at hpk
  have HPK := Lib.hid hpk
  have G2 := Lib.hid hg2
  clear hd2 hm2 ho2 hg2 hpk HLI HOF hll
  have hpl : (packOf l).1.length ≤ 40000000 := by
    unfold packOf
    split
    · rw [List.length_append, numB_len]; omega
    · simp
  have HPU : Hid ((packOf l).2 = 0 → ∀ m er, UnR (packOf l).1 m er → er = 0 ∧ m.map SAct.data = l.map SAct.data) := Lib.hid (fun hok m er hu => by
    obtain ⟨hri, hps⟩ := packOf_ok hok
    rw [hps] at hu
    exact un_pack hri HIN.out (by omega) hu)
  obtain ⟨po, hpo⟩ : ∃ po, packOf l = po := ⟨_, rfl⟩
  rw [hpo] at HPK HPU hsm hpl
  obtain ⟨ps, pe⟩ := po
  dsimp only at HPK HPU hsm hpl
  have HSM := Lib.hid hsm
  clear hpo hsm hbs h60
  go_wp2_with fail
  refine HPK.out.mono ?_
  rintro e w3 ⟨a3, c3, rfl, o3, g3⟩
  have G3 := Lib.hid (grownBy_trans G2.out g3)
  have HUN := Lib.hid (punpack_any ps a3 c3 w3 hpl HSM.out (Rds.of_owns o3))
  clear o3 g3 HPK G2 hpl
  go_wp2_with fail
  refine HUN.out.mono ?_
  rintro e w4 ⟨lx, ax, cx, ex, rfl, hux, hrx, hmx, g4⟩
  have G4 := Lib.hid (grownBy_trans G3.out g4)
  have HUX := Lib.hid hux
  have HRX := Lib.hid hrx
  have HMX := Lib.hid hmx
  clear hux hrx hmx g4 HUN G3
  have HB5 : Hid (∀ W, w.grownBy W none → Calls Try.prog 18 #[.slice ab bs.length cb] W (UnPost W bs)) := Lib.hid (fun W hW => punpack_any bs ab cb W (by omega) HSB.out (HRB.out.grown hW (by simp)))
  have hfin : Hid (∀ W, w.grownBy W none → ∀ a' : Act, True) := Lib.hid (fun _ _ _ => trivial)
  clear hfin
  have hpe : pe = 0 ∨ pe ≠ 0 := by omega
  rcases hpe with rfl | hpe
  · obtain ⟨he, hdx⟩ := HPU.out rfl lx ex HUX.out
    subst he
    have htd := fun W (g : w4.grownBy W none) => told_yes lx l ax a cx c W hdx (HRX.out.grown g (by simp)) (fun x hx => (HMX.out x hx).good.grown g) (HR.out.grown (grownBy_trans G4.out g) (by simp)) (fun x hx => (HNS.out x hx).grown (grownBy_trans G4.out g) (by simp))
    have HTD := Lib.hid htd
    clear htd hdx HPU
    go_wp2_with fail
    refine (HTD.out w4 (grownBy_refl _ _)).mono ?_
    rintro e w5 ⟨rfl, g5⟩
    have G5 := Lib.hid (grownBy_trans G4.out g5)
    clear g5 G4 HTD
    go_wp2_with fail
    refine (HB5.out w5 G5.out).mono ?_
    rintro e w6 ⟨ly, ay, cy, ey, rfl, huy, hry, hmy, g6⟩
    have G6 := Lib.hid (grownBy_trans G5.out g6)
    have HPN := Lib.hid (pack_un HSB.out huy)
    have HRY := Lib.hid hry
    have HMY : Hid (∀ x ∈ ly, x.good w6) := Lib.hid (fun x hx => (hmy x hx).good)
    clear huy hry hmy g6 G5 HB5
    rcases HPN.out with ⟨hne, rfl⟩ | ⟨rfl, hpy, hml, hbl⟩
    · have hp0 : packOf ([] : List SAct) = (numB 0 4, 0) := rfl
      have hpk := ppack_any [] ay cy w6 HRY.out HMY.out (by simp) (by simp)
      rw [hp0] at hpk
      dsimp only at hpk
      have HPK := Lib.hid hpk
      have hnb : (ey != 0) = true := by simp [hne]
      have hnb2 : (ey == 0) = false := by simp [hne]
      clear hp0 hpk hne HRY HMY HPN
      dsimp only [List.length_nil] at HPK ⊢
      go_wp2_with fail
      refine HPK.out.mono ?_
      rintro e w7 ⟨a7, c7, rfl, _, g7⟩
      have G7 := Lib.hid (grownBy_trans G6.out g7)
      clear g7 HPK G6
      go_wp2_with fail
      refine (awake_any _).mono ?_
      rintro e w8 ⟨rfl, g8⟩
      have HE := Lib.hid (grownBy_trans G7.out g8)
      clear g8
      go_wp2_with fail
      go_ret
      exact ⟨rfl, below_grownBy HE.out⟩
    · have hpk := ppack_any ly ay cy w6 HRY.out HMY.out (by omega) (by omega)
      rw [hpy] at hpk
      dsimp only at hpk
      have HPK := Lib.hid hpk
      clear hpk hpy HRY HMY HPN hml hbl
      go_wp2_with fail
      refine HPK.out.mono ?_
      rintro e w7 ⟨a7, c7, rfl, o7, g7⟩
      have G7 := Lib.hid (grownBy_trans G6.out g7)
      have hcv1 := conv_rds (Rds.of_owns o7)
      have hcv2 := conv_rds (HRB.out.grown G7.out (by simp))
      have hsq := strN_beq bs
      clear g7 o7 HPK G6
      go_wp2_with fail
      refine (awake_any _).mono ?_
      rintro e w8 ⟨rfl, g8⟩
      have HE := Lib.hid (grownBy_trans G7.out g8)
      clear g8
      go_wp2_with fail
      go_ret
      exact ⟨rfl, below_grownBy HE.out⟩
  · have hpen : ((pe : Int) == 0) = false := beq_eq_false_iff_ne.2 (by omega)
    clear HPU
    go_wp2_with fail
    refine (HB5.out w4 G4.out).mono ?_
    rintro e w6 ⟨ly, ay, cy, ey, rfl, huy, hry, hmy, g6⟩
    have G6 := Lib.hid (grownBy_trans G4.out g6)
    have HPN := Lib.hid (pack_un HSB.out huy)
    have HRY := Lib.hid hry
    have HMY : Hid (∀ x ∈ ly, x.good w6) := Lib.hid (fun x hx => (hmy x hx).good)
    clear huy hry hmy g6 G4 HB5
    rcases HPN.out with ⟨hne, rfl⟩ | ⟨rfl, hpy, hml, hbl⟩
    · have hp0 : packOf ([] : List SAct) = (numB 0 4, 0) := rfl
      have hpk := ppack_any [] ay cy w6 HRY.out HMY.out (by simp) (by simp)
      rw [hp0] at hpk
      dsimp only at hpk
      have HPK := Lib.hid hpk
      have hnb : (ey != 0) = true := by simp [hne]
      have hnb2 : (ey == 0) = false := by simp [hne]
      clear hp0 hpk hne HRY HMY HPN
      dsimp only [List.length_nil] at HPK ⊢
      go_wp2_with fail
      refine HPK.out.mono ?_
      rintro e w7 ⟨a7, c7, rfl, _, g7⟩
      have G7 := Lib.hid (grownBy_trans G6.out g7)
      clear g7 HPK G6
      go_wp2_with fail
      refine (awake_any _).mono ?_
      rintro e w8 ⟨rfl, g8⟩
      have HE := Lib.hid (grownBy_trans G7.out g8)
      clear g8
      go_wp2_with fail
      go_ret
      exact ⟨rfl, below_grownBy HE.out⟩
    · have hpk := ppack_any ly ay cy w6 HRY.out HMY.out (by omega) (by omega)
      rw [hpy] at hpk
      dsimp only at hpk
      have HPK := Lib.hid hpk
      clear hpk hpy HRY HMY HPN hml hbl
      go_wp2_with fail
      refine HPK.out.mono ?_
      rintro e w7 ⟨a7, c7, rfl, o7, g7⟩
      have G7 := Lib.hid (grownBy_trans G6.out g7)
      have hcv1 := conv_rds (Rds.of_owns o7)
      have hcv2 := conv_rds (HRB.out.grown G7.out (by simp))
      have hsq := strN_beq bs
      clear g7 o7 HPK G6
      go_wp2_with fail
      refine (awake_any _).mono ?_
      rintro e w8 ⟨rfl, g8⟩
      have HE := Lib.hid (grownBy_trans G7.out g8)
      clear g8
      go_wp2_with fail
      go_ret
      exact ⟨rfl, below_grownBy HE.out⟩

section
variable {H : Type} {enc : TypeId × Value → H} {r : Reach} {b0 : Nat}
theorem scriptBack_walk (w : World) {v0 v1 : Value} {d0 d1 : DataW H} {p0 p1 : List MemPlace} (k0 : Value.okWide Try.prog w r b0 22 v0) (k1 : Value.okWide Try.prog w r b0 24 v1)
    (h0 : DataW.Trod enc Try.prog w 0 (fun _ => true) true 22 v0 d0 p0) (h1 : DataW.Trod enc Try.prog w 0 (fun _ => true) true 24 v1 d1 p1) :
    Calls Try.prog 6 #[v0, v1] w fun e w' => e = .returned (.bool true) ∧ Below w.heap.size w w' := by
  obtain ⟨l, a, c, rfl, hr, _, hg⟩ := arg_racts2 w k0 h0
  obtain ⟨bs, ab, cb, rfl, hrb, _, hsb⟩ := arg_bytesC w k1 h1
  exact scriptBack_walk0 l a c bs ab cb w hr (fun x hx => (hg x hx).1) (fun x hx => (hg x hx).2) hrb hsb
end

end Go.Proofs.Ytbjpjnkaaiajlaa
