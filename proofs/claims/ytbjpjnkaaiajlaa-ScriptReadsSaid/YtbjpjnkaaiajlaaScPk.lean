/- Layer 20: ScriptPacks. -/
import Derived.Test.YtbjpjnkaaiajlaaScOf
import Derived.Test.YtbjpjnkaaiajlaaScA
import Derived.Test.YtbjpjnkaaiajlaaPlan3
namespace Go.Proofs.Ytbjpjnkaaiajlaa
open Go.RowKit Go.WideShapes Go.ChangeShapes Go.ChangeAt

theorem light_small {l : List SAct} (h : lightS l = true) : l.length ≤ 60 ∧ (∀ x ∈ l, x.key.length ≤ 1000000 ∧ x.val.length ≤ 1000000 ∧ x.ns.length ≤ 1000000) ∧ (l.flatMap SAct.bytes).length ≤ 30000000 := by
  have h60 := lightS_len h
  have hx : ∀ x ∈ l, x.key.length ≤ 200 ∧ x.val.length ≤ 500 ∧ x.ns.length ≤ 120 := fun x hx => by
    have := lightS_at h x hx
    unfold lightX at this
    simp only [Bool.and_eq_true, decide_eq_true_eq] at this
    exact ⟨this.1.1, this.1.2, this.2⟩
  refine ⟨h60, fun x h => ⟨by have := (hx x h).1; omega, by have := (hx x h).2.1; omega, by have := (hx x h).2.2; omega⟩, ?_⟩
  have hb : ∀ x ∈ l, x.bytes.length ≤ 2000 := fun x h => by
    obtain ⟨h1, h2, h3⟩ := hx x h
    unfold SAct.bytes actB
    simp only [List.length_append, numB_len, numsB_len]
    split <;> split <;> split <;> split <;> simp only [List.length_append, numB_len, List.length_nil] <;> omega
  have key : ∀ m : List SAct, (∀ x ∈ m, x.bytes.length ≤ 2000) → (m.flatMap SAct.bytes).length ≤ 2000 * m.length := by
    intro m
    induction m with
    | nil => intro _; simp
    | cons x m ih =>
      intro hm
      have h1 := hm x (by simp)
      have h2 := ih (fun y hy => hm y (List.mem_cons_of_mem _ hy))
      rw [List.flatMap_cons, List.length_append, List.length_cons]
      omega
  have := key l hb
  omega

theorem of_one (x : SAct) (b o c : Nat) (w : World) (hr : Rds w 5 (.slice (some ⟨b, o, none⟩) 1 c) 1 (ractsV [x])) (hg : x.rgood w) (hk : x.key.length ≤ 1000000 ∧ x.val.length ≤ 1000000 ∧ x.ns.length ≤ 1000000) :
    Calls Try.prog 10 #[.slice (some ⟨b, o, none⟩) 1 c] w fun e w' => ∃ (g c' : Nat) (ka va na : Option Addr) (kc vc nc : Nat), e = .returned (.slice (some ⟨g, 0, none⟩) 1 c') ∧ Rds w' 5 (.slice (some ⟨g, 0, none⟩) 1 c') 1 [.int .i64 x.k, .slice ka x.key.length kc, .slice va x.val.length vc, .int .i64 x.n, .slice na x.ns.length nc] ∧ w.grownBy w' none := by
  have h := of_any [x] (some ⟨b, o, none⟩) c w hr (fun y hy => by rw [List.mem_singleton.1 hy]; exact hg) (by simp) (fun y hy => by rw [List.mem_singleton.1 hy]; exact hk)
  refine h.mono ?_
  rintro e w' ⟨l', a', c', rfl, hd, _, ho, hgr⟩
  have hll := len_same hd
  match l', hll with
  | [x'], _ =>
    simp only [List.map_cons, List.map_nil, List.cons.injEq, and_true] at hd
    obtain ⟨k, key, val, n, ns, ka, va, na, kc, vc, nc⟩ := x'
    unfold SAct.data at hd
    simp only [SAct.mk.injEq] at hd
    obtain ⟨h1, h2, h3, h4, h5, _⟩ := hd
    obtain ⟨g, cap, e⟩ := ownsRow_pos ho (by simp)
    have hr2 := Rds.of_owns ho
    simp only [Value.slice.injEq] at e
    rw [e.1] at hr2 ⊢
    refine ⟨g, c', ka, va, na, kc, vc, nc, rfl, ?_, hgr⟩
    rw [← h1, ← h2, ← h3, ← h4, ← h5]
    exact hr2

set_option maxRecDepth 100000 in
set_option maxHeartbeats 8000000 in
theorem scriptPacks_walk0 (l : List SAct) (a : Option Addr) (c : Nat) (w : World) (hr : Rds w 5 (.slice a l.length c) l.length (ractsV l)) (hcap : l.length ≤ c) (hg : ∀ x ∈ l, x.rgood w) :
    Calls Try.prog 3 #[.slice a l.length c] w fun e w' => e = .returned (.bool true) ∧ Below w.heap.size w w' := by
  have hli := light_any l a c w hr
  cases hL : lightS l
  · rw [hL] at hli
    have HLI := Lib.hid hli
    clear hli hL hr hg
    go_enter Try.func3, Try.ntmps3
    go_wp2_with fail
    refine HLI.out.mono ?_
    rintro e w1 ⟨rfl, rfl⟩
    go_wp2_with fail
    go_ret
    exact ⟨rfl, Below.refl _ _⟩
  rw [hL] at hli
  obtain ⟨h60, hks, hbs⟩ := light_small hL
  have HLI := Lib.hid hli
  have HR := Lib.hid hr
  have HG := Lib.hid hg
  have HKS := Lib.hid hks
  clear hli hL hr hg hks
  go_enter Try.func3, Try.ntmps3
  go_wp2_with fail
  refine HLI.out.mono ?_
  rintro e w1 ⟨rfl, rfl⟩
  go_wp2_with fail
  refine (of_any l a c w HR.out HG.out (by omega) HKS.out).mono ?_
  rintro e w2 ⟨l', a2, c2, rfl, hd2, hm2, ho2, hg2⟩
  have HM2 : Hid (∀ x ∈ l', x.good w2) := Lib.hid (fun x hx => (hm2 x hx).good)
  have hll := len_same hd2
  have hpk := ppack_any l' a2 c2 w2 (Rds.of_owns ho2) HM2.out (by omega) (by rw [bytes_same hd2]; exact hbs)
  rw [packOf_same hd2] at hpk
  have hrp := fun W (g : w.grownBy W none) => rpack_any l a c W (HR.out.grown g (by simp)) (fun x hx => ⟨(HG.out x hx).key, (HG.out x hx).val, (HG.out x hx).ns.grown g (by simp)⟩) (by omega) hbs
  obtain ⟨bs, hbs2⟩ : ∃ bs, packOf l = bs := ⟨_, rfl⟩
  rw [hbs2] at hpk hrp
  clear hbs2 hbs
  obtain ⟨ps, er⟩ := bs
  dsimp only at hpk hrp
  clear hll
  have HPK := Lib.hid hpk
  have HRP := Lib.hid hrp
  have G2 := Lib.hid hg2
  clear hd2 hm2 ho2 hg2 hpk hrp HLI
  go_wp2_with fail
  refine HPK.out.mono ?_
  rintro e w3 ⟨a3, c3, rfl, o3, g3⟩
  have G3 := Lib.hid (grownBy_trans G2.out g3)
  have R3 := Lib.hid (Rds.of_owns o3)
  clear o3 g3 HPK G2
  go_wp2_with fail
  refine (HRP.out w3 G3.out).mono ?_
  rintro e w4 ⟨a4, c4, rfl, o4, g4⟩
  have G4 := Lib.hid (grownBy_trans G3.out g4)
  have R3 := Lib.hid (R3.out.grown g4 (by simp))
  have R4 := Lib.hid (Rds.of_owns o4)
  clear o4 g4 G3 HRP
  go_wp2_with fail
  go_loopw [7] (fun i wr => ∃ j : Nat, j ≤ l.length ∧ i = .int .i64 j ∧ w4.grownBy wr none) (fun i _ => l.length - (intOf i).toNat)
  case atStart => exact ⟨0, by omega, rfl, grownBy_refl _ _⟩
  case round =>
    obtain ⟨j, hj, rfl, hgr⟩ := hrel
    by_cases hlt : j < l.length
    · have hgw := grownBy_trans G4.out hgr
      obtain ⟨b, o, rfl, hc⟩ := HR.out.at' (by omega)
      have x0 := hgw.cell (hc _ _ (ractsV_get l j 0 hlt (by omega))) (by simp)
      have x1 := hgw.cell (hc _ _ (ractsV_get l j 1 hlt (by omega))) (by simp)
      have x2 := hgw.cell (hc _ _ (ractsV_get l j 2 hlt (by omega))) (by simp)
      have x3 := hgw.cell (hc _ _ (ractsV_get l j 3 hlt (by omega))) (by simp)
      have x4 := hgw.cell (hc _ _ (ractsV_get l j 4 hlt (by omega))) (by simp)
      simp only [← Nat.add_assoc, Nat.add_zero] at x0 x1 x2 x3 x4
      have hr1 : Rds w 5 (.slice (some ⟨b, o + j * 5, none⟩) 1 (c - j)) 1 (ractsV [l.getD j default]) := by
        refine ⟨rfl, by unfold maxLen; omega, .inr ⟨_, _, rfl, fun _ => rfl, fun m u hm => ?_⟩⟩
        have hm5 : m < 5 := (List.getElem?_eq_some_iff.1 hm).1
        have h2 := ractsV_get l j m hlt hm5
        have h3 := ractsV_get [l.getD j default] 0 m (by simp) hm5
        rw [Nat.zero_mul, Nat.zero_add] at h3
        rw [hm] at h3
        have h4 := hc (j * 5 + m) u (h2.trans (h3.symm))
        rwa [← Nat.add_assoc] at h4
      have hgd := HG.out _ (sact_mem l j hlt)
      have hkd := HKS.out _ (sact_mem l j hlt)
      obtain ⟨x, hx⟩ : ∃ x, l.getD j default = x := ⟨_, rfl⟩
      rw [hx] at x0 x1 x2 x3 x4 hgd hkd hr1
      have HOF := Lib.hid (fun W (g : w.grownBy W none) => of_one x b (o + j * 5) (c - j) W (hr1.grown g (by simp)) ⟨hgd.key, hgd.val, hgd.ns.grown g (by simp)⟩ hkd)
      obtain ⟨k, key, val, n, ns, ka, va, na, kc, vc, nc⟩ := x
      dsimp only at x0 x1 x2 x3 x4 HOF
      have HCELL : Hid (∀ W, wr.grownBy W none → W.cell? ⟨b, o + j * 5, none⟩ = some (.int .i64 k) ∧ W.cell? ⟨b, o + j * 5 + 1, none⟩ = some (.string (strN key)) ∧ W.cell? ⟨b, o + j * 5 + 2, none⟩ = some (.string (strN val)) ∧ W.cell? ⟨b, o + j * 5 + 3, none⟩ = some (.int .i64 n) ∧ W.cell? ⟨b, o + j * 5 + 4, none⟩ = some (.slice na ns.length nc)) := Lib.hid (fun W g => ⟨g.cell x0 (by simp), g.cell x1 (by simp), g.cell x2 (by simp), g.cell x3 (by simp), g.cell x4 (by simp)⟩)
      have HGR := Lib.hid hgr
      have HGW := Lib.hid hgw
      have hji : (j : Int) < (l.length : Int) := by omega
      have hjc : (j : Int) + 1 ≤ (c : Int) := by omega
      have hjc2 : (j : Int) + 1 ≤ (l.length : Int) := by omega
      have hcj : ¬ c = j := by omega
      have h0j : (0 : Int) ≤ (j : Int) + 1 := by omega
      have hjw : IntKind.i64.wrap ((j : Int) + 1) = (j : Int) + 1 := IntWalk.i64_in _ ⟨by omega, by omega⟩
      clear hc hx hgd hkd hr1 x0 x1 x2 x3 x4 hgr hgw
      go_wp2_with fail
      refine wp_region_planM (fun W => wr.grownBy W none) [([9, 10, 11, 12], [0, 1, 2, 3, 4], 5, true), ([], [6, 7], 8, true), ([], [], 13, false), ([], [], 14, false)] (by kernel_rfl) (by kernel_rfl) ?_
      refine wpPlanM_seg (grownBy_drewN wr 1 none) ?_
      iterate 4 ((apply wpReadD_step rfl (by rfl); (· intro wS hSw; (try have hSw := hSw rfl); (try dsimp only at hSw); (try have hcl := HCELL.out _ hSw); (try obtain ⟨c0, c1, c2, c3, c4⟩ := hcl); go_simp; (try with_reducible rfl))); try simp only [Act.put, List.setIfInBounds_toArray, List.set_cons_zero, List.set_cons_succ])
      refine wpReadD_nil ?_
      iterate 5 ((apply wpReadD_step rfl (by rfl); (· intro wS hSw; (try have hSw := hSw rfl); (try dsimp only at hSw); (try subst hSw); go_simp; (try with_reducible rfl))); try simp only [Act.put, List.setIfInBounds_toArray, List.set_cons_zero, List.set_cons_succ])
      refine wpReadD_nil ?_
      refine wpOp_list rfl (fun K hK => ?_)
      go_simp
      refine (HOF.out _ (grownBy_trans HGW.out (grownBy_drewN wr 1 none))).mono ?_
      rintro e w5 ⟨g5, c5, ka5, va5, na5, kc5, vc5, nc5, rfl, r5, gg5⟩
      dsimp only
      have G5 := Lib.hid (grownBy_trans (grownBy_drewN wr 1 none) gg5)
      obtain ⟨b5, o5, hb5, hc5⟩ := r5.at' (by omega)
      simp only [Option.some.injEq, Addr.mk.injEq] at hb5
      obtain ⟨rfl, rfl, _⟩ := hb5
      have z0 := hc5 0 _ rfl
      have z1 := hc5 1 _ rfl
      have z2 := hc5 2 _ rfl
      have z3 := hc5 3 _ rfl
      have z4 := hc5 4 _ rfl
      refine hK _ _ ⟨_, fun _ h => h, fun _ => G5.out, ?_⟩
      clear hK K r5 gg5 hc5 HOF
      try simp only [Act.put, List.setIfInBounds_toArray, List.set_cons_zero, List.set_cons_succ]
      refine wpPlanM_here ?_
      iterate 2 ((apply wpReadD_step rfl (by rfl); (· intro wS hSw; (try have hSw := hSw rfl); (try dsimp only at hSw); (try subst hSw); go_simp; (try with_reducible rfl))); try simp only [Act.put, List.setIfInBounds_toArray, List.set_cons_zero, List.set_cons_succ])
      refine wpReadD_nil ?_
      refine wpOp_list rfl (fun K hK => ?_)
      go_simp
      refine (pright_any k n ka5 va5 na5 key.length val.length ns.length kc5 vc5 nc5 _).mono ?_
      rintro e w6 ⟨rfl, gg6⟩
      dsimp only
      have G6 := Lib.hid (grownBy_trans G5.out gg6)
      refine hK _ _ ⟨_, fun _ h => h, fun _ => G6.out, ?_⟩
      clear hK K gg6 z0 z1 z2 z3 z4
      try simp only [Act.put, List.setIfInBounds_toArray, List.set_cons_zero, List.set_cons_succ]
      refine wpPlanM_here ?_
      refine wpReadD_nil ?_
      refine wpOp_list rfl (fun K hK => ?_)
      go_simp
      refine (rright_any k n key val na ns.length nc _).mono ?_
      rintro e w7 ⟨rfl, gg7⟩
      dsimp only
      have G7 := Lib.hid (grownBy_trans G6.out gg7)
      refine hK _ _ ⟨_, fun _ h => h, fun hf => (by cases hf), ?_⟩
      clear hK K gg7
      obtain ⟨rb, hrb⟩ : ∃ rb, rightB k key.length val.length ns.length n = rb := ⟨_, rfl⟩
      have hrn : (rb != rb) = false := by simp
      rw [hrb]
      clear hrb
      try simp only [Act.put, List.setIfInBounds_toArray, List.set_cons_zero, List.set_cons_succ]
      refine wpPlanM_here ?_
      refine wpReadD_nil ?_
      refine wpOp_list rfl (fun K hK => ?_)
      go_simp
      refine hK _ _ ⟨_, fun _ h => h, fun hf => (by cases hf), ?_⟩
      clear hK K
      try simp only [Act.put, List.setIfInBounds_toArray, List.set_cons_zero, List.set_cons_succ]
      refine wpPlanM_nil (NoPanic.normal ?_)
      go_wp2_with fail
      exact ⟨⟨j + 1, by omega, by go_num, grownBy_trans HGR.out G7.out⟩, by simp [intOf]; omega⟩
    · have HGR := Lib.hid hgr
      have r3 := R3.out.grown hgr (by simp)
      have r4 := R4.out.grown hgr (by simp)
      have hcv3 := conv_rds r3
      have hcv4 := conv_rds r4
      have hsq := strN_beq ps
      have hee : ((er : Int) == (er : Int)) = true := by simp
      have hji : ¬ (j : Int) < (l.length : Int) := by omega
      clear hgr r3 r4 HR HG HKS
      go_wp2_with fail
      refine (awake_any _).mono ?_
      rintro e w8 ⟨rfl, g8⟩
      have HE := Lib.hid (grownBy_trans G4.out (grownBy_trans HGR.out g8))
      clear g8
      go_wp2_with fail
      go_ret
      exact ⟨rfl, below_grownBy HE.out⟩

section
variable {H : Type} {enc : TypeId × Value → H} {r : Reach} {b0 : Nat}
theorem scriptPacks_walk (w : World) {v0 : Value} {d0 : DataW H} {p0 : List MemPlace} (k0 : Value.okWide Try.prog w r b0 22 v0)
    (h0 : DataW.Trod enc Try.prog w 0 (fun _ => true) true 22 v0 d0 p0) :
    Calls Try.prog 3 #[v0] w fun e w' => e = .returned (.bool true) ∧ Below w.heap.size w w' := by
  obtain ⟨l, a, c, rfl, hr, hc, hg⟩ := arg_racts w k0 h0
  exact scriptPacks_walk0 l a c w hr hc hg
end

end Go.Proofs.Ytbjpjnkaaiajlaa
