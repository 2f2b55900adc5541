/- package script: Unpack. -/
import Derived.Test.YtbjpjnkaaiajlaaScAs
namespace Go.Proofs.Ytbjpjnkaaiajlaa
open Go.RowKit Go.Shelf
attribute [local go_sem] Oper.semAt_some

/-- Are all bytes read as acts? -/
def okU (ys : List Nat) : Prop := (∀ j, j < (nP 4 (ys, false)).1 → goodP (nP 4 (ys, false)).2 j = true) ∧ stP (nP 4 (ys, false)).2 (nP 4 (ys, false)).1 = ([], false)
/-- What Unpack answers. -/
def UnR (ys : List Nat) (l : List SAct) (er : Int) : Prop :=
  (65536 < (nP 4 (ys, false)).1 ∧ l = [] ∧ er = 9) ∨ ((nP 4 (ys, false)).1 ≤ 65536 ∧ ¬ okU ys ∧ l = [] ∧ er = 5) ∨ ((nP 4 (ys, false)).1 ≤ 65536 ∧ okU ys ∧ er = 0 ∧ l.map SAct.data = (List.range (nP 4 (ys, false)).1).map (xP (nP 4 (ys, false)).2))
def UnPost (w : World) (ys : List Nat) (e : Ending) (w' : World) : Prop :=
  ∃ (l : List SAct) (a : Option Addr) (c : Nat) (er : Int), e = .returned (.tuple #[.slice a l.length c, .int .i64 er]) ∧ UnR ys l er ∧ Rds w' 5 (.slice a l.length c) l.length (sactsV l) ∧ (∀ x ∈ l, x.mine w') ∧ w.grownBy w' none
theorem UnPost.mk {w : World} {ys : List Nat} {m : Nat} {p : PS} (hn : nP 4 (ys, false) = (m, p)) {e : Ending} {w' : World} (l : List SAct) (a : Option Addr) (c : Nat) (er : Int) (he : e = .returned (.tuple #[.slice a l.length c, .int .i64 er]))
    (hR : (65536 < m ∧ l = [] ∧ er = 9) ∨ (m ≤ 65536 ∧ ¬ ((∀ j, j < m → goodP p j = true) ∧ stP p m = ([], false)) ∧ l = [] ∧ er = 5) ∨ (m ≤ 65536 ∧ ((∀ j, j < m → goodP p j = true) ∧ stP p m = ([], false)) ∧ er = 0 ∧ l.map SAct.data = (List.range m).map (xP p)))
    (h1 : Rds w' 5 (.slice a l.length c) l.length (sactsV l)) (h2 : ∀ x ∈ l, x.mine w') (h3 : w.grownBy w' none) : UnPost w ys e w' := by
  refine ⟨l, a, c, er, he, ?_, h1, h2, h3⟩
  unfold UnR okU
  rw [hn]
  exact hR
theorem xeq_cells (x : SAct) : x.cells.toArray = #[.int .i64 x.k, .slice x.ka x.key.length x.kc, .slice x.va x.val.length x.vc, .int .i64 x.n, .slice x.na x.ns.length x.nc] := rfl
theorem infoActU : (Try.prog.info? 35).map (fun i => (i.zero, i.size, i.bytes)) = some (some (.agg #[.int .i64 0, .slice none 0 0, .slice none 0 0, .int .i64 0, .slice none 0 0]), 5, 88) := infoAct
theorem KeepT.stepO {w w' : World} {e : TypeId} {u : Value} (h : w.grownBy w' u.ownBlock) (hu : KindT w e u) (h1 : e ≠ 5) (h2 : e ≠ 3) : KeepT w w' := fun k cs' T fz' hk hT => h.block k (Array.getElem?_eq_some_iff.1 hk).1 (fun e' => by
  obtain ⟨cs, fz, hq⟩ := hu k e'.symm
  rw [hq] at hk
  simp at hk
  rcases hT with h | h
  · exact h1 (hk.2.1.trans h)
  · exact h2 (hk.2.1.trans h))
theorem touch_below {n : Nat} {w w' : World} (h : Below n w w') : Touch (fun j => n ≤ j) w w' := ⟨h.os, h.tape, h.output, h.size, fun k _ hS => h.block k (by omega)⟩
theorem new_cells (W : World) (vs : List Value) (t : TypeId) : ∀ j u, vs[j]? = some u → (W.alloc (.cells vs.toArray t)).cell? ((⟨W.heap.size, 0, none⟩ : Addr).add j) = some u := fun j u hj => by
  have h := (Blk.new W t vs).cell hj
  unfold Addr.add
  split
  · subst_vars; exact h
  · simpa using h

set_option maxRecDepth 100000 in
set_option maxHeartbeats 8000000 in
theorem punpack_any (ys : List Nat) (a : Option Addr) (c : Nat) (w : World) (hl : ys.length ≤ 40000000) (hsm : ∀ y ∈ ys, y < 256) (hr : Rds w 1 (.slice a ys.length c) ys.length (bytesV ys)) :
    Calls Try.prog 18 #[.slice a ys.length c] w (UnPost w ys) := by
  have hro : Fence.wide.round = none := rfl
  obtain ⟨i2, hi2, hy0, hy1, hy2⟩ := info_parts infoActU
  have HN4 := Lib.hid (fun R v W (h : RR W R v ys false) => rnum_any R v ys false 4 W h)
  unfold NPost at HN4
  rw [askN_yes (by decide)] at HN4
  have hnp : nP 4 (ys, false) = (ofB (takeN ys 4), (leftN ys 4, badN ys false 4)) := rfl
  have hm32 : ofB (takeN ys 4) < 4294967296 := by
    refine Nat.lt_of_lt_of_le (ofB_lt _ (takeN_small ys 4 hsm)) ?_
    have h4 : (takeN ys 4).length ≤ 4 := by
      unfold takeN
      split
      · simp
      · rw [List.length_take]; simp; omega
    calc 256 ^ (takeN ys 4).length ≤ 256 ^ 4 := Nat.pow_le_pow_right (by omega) h4
      _ = 4294967296 := rfl
  obtain ⟨m, hm⟩ : ∃ m, ofB (takeN ys 4) = m := ⟨_, rfl⟩
  rw [hm] at hm32
  obtain ⟨p, hp⟩ : ∃ p, ((leftN ys 4, badN ys false 4) : PS) = p := ⟨_, rfl⟩
  have hp1 : leftN ys 4 = p.1 := by rw [← hp]
  have hp2 : badN ys false 4 = p.2 := by rw [← hp]
  have HNP : Hid (nP 4 (ys, false) = (m, p)) := Lib.hid (by rw [hnp, hm, hp])
  rw [hm, hp1, hp2] at HN4
  have HPN : Hid (p.1 ≠ [] → ys ≠ []) := Lib.hid (fun h => left_ne (n := 4) (by rw [hp1]; exact h))
  clear hnp hm hp hp1 hp2
  refine (callsIn_wide (n := 20)).1 ?_
  refine callsIn_of_wp_marks Try.func18 rfl trivial ?_ hro
  simp only [Try.ntmps18, List.size_toArray, List.length_cons, List.length_nil, Nat.reduceAdd, Nat.reduceSub, Array.replicate_succ, Array.replicate_zero, List.push_toArray, List.append_toArray, List.nil_append, List.cons_append]
  gi_wp2
  refine ⟨trivial, ?_⟩
  refine (callsIn_wide.2 (newReader_any ys a c w (by omega) hsm hr)).mono ?_
  rintro e w1 ⟨R, v1, rfl, r1, hR1, hv1, g1⟩
  have HR1 := Lib.hid r1
  have G1 := Lib.hid g1
  have HRn := Lib.hid hR1
  clear r1 hv1 g1 hr hsm hR1
  gi_wp2
  refine ⟨trivial, ?_⟩
  refine (callsIn_wide.2 (HN4.out R v1 w1 HR1.out)).mono ?_
  rintro e w2 ⟨v2, rfl, r2, o2, g2⟩
  have hRl := HR1.out.blk.lt
  have HVL : Hid (p.1 ≠ [] → ∀ b, v2.ownBlock = some b → b < w2.heap.size) := Lib.hid (fun hne b hb => Nat.lt_of_lt_of_le (HR1.out.rds.lt (fun e => HPN.out hne (by rw [bytesV] at e; exact List.map_eq_nil_iff.1 e)) b (o2 b hb)) g2.size)
  have G2 := Lib.hid (grownBy_base2 G1.out g2 HRn.out)
  have HR2 := Lib.hid r2
  have hRl2 : R < w2.heap.size := Nat.lt_of_lt_of_le hRl g2.size
  clear r2 o2 g2 HR1 HN4 hRl G1
  by_cases hbig : 65536 < m
  · have hmw : wrap64 (m : Int) = m := by unfold wrap64; omega
    have hgt : (65536 : Int) < (m : Int) := by omega
    have HE9 := Lib.hid (UnPost.mk (w' := w2) HNP.out [] none 0 9 rfl (.inl ⟨hbig, rfl, rfl⟩) (Rds.nil _ _) (fun x hx => by simp at hx) G2.out)
    clear hbig hm32
    gi_wp2
    refine ⟨_, results_tmp2 rfl _ _ _, ?_⟩
    exact HE9.out
  have hle : m ≤ 65536 := by omega
  have hle2 : (m : Int) ≤ 65536 := by omega
  have hmw : wrap64 (m : Int) = m := by unfold wrap64; omega
  clear hbig
  gi_wp2
  refine ⟨trivial, ?_⟩
  refine (callsIn_wide.2 (acts_calls _ _ _)).mono ?_
  rintro e w' ⟨rfl, rfl⟩
  gi_wp2
  obtain ⟨O, hO⟩ : ∃ O, w2.heap.size = O := ⟨_, rfl⟩
  obtain ⟨w3, hw3⟩ : ∃ w3, ((w2.alloc (.cells #[.slice none 0 0] 28)).alloc (.cells #[.pointer (some ⟨R, 0, none⟩)] 69)).alloc (.cells #[.int .i64 (m : Int)] 3) = w3 := ⟨_, rfl⟩
  have hg3 : w2.grownBy w3 none := by rw [← hw3]; exact grownBy_trans (grownBy_trans (World.grownBy_alloc _ _ none) (World.grownBy_alloc _ _ none)) (World.grownBy_alloc _ _ none)
  have hz3 : w3.heap.size = O + 3 := by rw [← hw3, ← hO]; simp
  have bO : Boxed w3 O 28 (.slice none 0 0) := by rw [← hw3, ← hO]; exact ((Boxed.new w2 _ _).alloc _).alloc _
  have hc1 : w3.cell? ⟨O + 1, 0, none⟩ = some (.pointer (some ⟨R, 0, none⟩)) := by
    rw [← hw3, ← hO]
    have h9 := (Boxed.new (w2.alloc (.cells #[.slice none 0 0] 28)) 69 (.pointer (some ⟨R, 0, none⟩))).alloc (.cells #[.int .i64 (m : Int)] 3)
    rw [World.size_alloc] at h9
    exact h9.cell
  have hc2 : w3.cell? ⟨O + 1 + 1, 0, none⟩ = some (.int .i64 (m : Int)) := by
    rw [← hw3, ← hO]
    have h9 := Boxed.new ((w2.alloc (.cells #[.slice none 0 0] 28)).alloc (.cells #[.pointer (some ⟨R, 0, none⟩)] 69)) 3 (.int .i64 (m : Int))
    simp only [World.size_alloc] at h9
    exact h9.cell
  rw [hO] at hRl2 HVL ⊢
  rw [hw3]
  have HR3 := Lib.hid (HR2.out.grown hg3)
  have G3 := Lib.hid (grownBy_trans G2.out hg3)
  have hOw : w.heap.size ≤ O := by rw [← hO]; exact G2.out.size
  clear hw3 hO hg3 HR2 G2
  have hRw := HRn.out
  refine wpIn_rangeFunc_ownR hro (by omega) (gf := 42) (lb := #[.pointer (some ⟨O + 1 + 1, 0, none⟩), .pointer (some ⟨O + 1, 0, none⟩)]) rfl trivial (enters_of Try.func42 (by kernel_rfl) rfl)
    (acts1_stops 19 (O + 1) (O + 1 + 1) w3.heap.size R m (fun j => j = O) p (by omega) w3 (by omega) (by omega) (by omega) (by omega) (Nat.le_refl _) hc1 hc2 v2 HR3.out (fun hne b hb => by have := HVL.out hne b hb; omega) hle)
    (fun h k => ⟨h.1.trans k.1, h.2.trans k.2⟩) (fun W l o o' h1 h2 h3 h4 => ⟨KeptS.putObj (Nat.le_refl _) W l o o' h1 h2 h3 h4, KeepT.putObj W l o o' h2 h3⟩) (Below.refl _ _) (fun _ => rfl)
    (fun j e => by cases e; omega) actsS_own (fun _ => ownFrom_pure _ (fun _ => True))
    (fun (pre : List SAct) W => NA w O w3.heap.size pre W)
    (fun _ _ _ => False)
    (na_own (by omega)) (fun _ => ownFrom_pure _ (fun _ => False))
    (na_stable (by omega) (by omega) hRw) (fun c pre A B h _ => h)
    ⟨⟨_, bO, World.ownsRow_nil _ _ _ _, trivial⟩, G3.out, Nat.le_refl _⟩
    (fun x a' W => ∃ Xb, a' = { tmps := #[.slice a ys.length c, undef, .slice none 0 0, .int .i64 0, .pointer (some ⟨R, 0, none⟩), .int .i64 (m : Int), .pointer (some ⟨O, 0, none⟩), .pointer (some ⟨Xb, 0, none⟩), .slice a ys.length c, .pointer (some ⟨R, 0, none⟩), .pointer (some ⟨R, 0, none⟩), .int .u64 (m : Int), .int .i64 (m : Int), .int .i64 (m : Int), .bool (decide (65536 < (m : Int))), .pointer (some ⟨R, 0, none⟩), .int .i64 (m : Int), .func (.func 42) #[] #[.pointer (some ⟨O + 1 + 1, 0, none⟩), .pointer (some ⟨O + 1, 0, none⟩)], .agg x.cells.toArray, undef, undef, undef, undef, undef, undef, undef, undef, undef, undef, undef, undef, undef, undef, undef, undef, undef, undef, undef], defers := [] } ∧ Blk W Xb 35 x.cells ∧ w3.heap.size ≤ Xb)
    (fun x a' => fun s W W' row hs hg hr => by
      obtain ⟨Xb, h1, h2, h3⟩ := hs
      exact ⟨Xb, h1, blk_own h2 hg (fun r e => (hr r e).2), h3⟩)
    ?assign ?body ?done ?stop
  case assign =>
    intro l pre x W K hni hK
    obtain ⟨k, key, val, n', ns, ka, va, na, kc, vc, nc'⟩ := x
    dsimp only [SAct.cells] at hK ⊢
    gi_wp2
    have hga := World.grownBy_alloc W (.cells #[.int .i64 k, .slice ka key.length kc, .slice va val.length vc, .int .i64 n', .slice na ns.length nc'] 35) none
    exact hK _ _ ((KeepsOthers.alloc W _).from _) ⟨keptS_grown hga hni.size, KeepT.grown hga⟩ ((na_own (by omega)).alloc _ hni) ⟨W.heap.size, rfl, Blk.new W _ _, hni.size⟩
  case body =>
    rintro l pre x a' W _ _ hni ⟨Xb, rfl, hxb, hxs⟩ hlt
    obtain ⟨k, key, val, n', ns, ka, va, na, kc, vc, nc'⟩ := x
    dsimp only [SAct.cells] at hxb ⊢
    obtain ⟨u, hv, hrow, _⟩ := hni.row
    have hc := hv.cell
    have x0 := hxb.cell (j := 0) rfl
    have x1 := hxb.cell (j := 1) rfl
    have x2 := hxb.cell (j := 2) rfl
    have x3 := hxb.cell (j := 3) rfl
    have x4 := hxb.cell (j := 4) rfl
    have hws := hni.size
    have HNI := Lib.hid hni
    clear hni hxb
    gi_wp2_with (gi_at_builtin; refine wpListIn_append_own _ rfl _ _ 28 rfl w3.heap.size 35 i2 _ 5 88 Try.underlying28 hi2 hy0 hy1 hy2 rfl (by decide) _ _ _ rfl (hrow.alloc _) ⟨W.heap.size, 0, none⟩ 1 1 [.int .i64 k, .slice ka key.length kc, .slice va val.length vc, .int .i64 n', .slice na ns.length nc'] rfl rfl (new_cells W _ _) (by simp [Value.oneCell']) (by unfold maxLen; omega) (by omega) (by simp; omega) ?_; intro v' w8 hown' hgrow _; obtain ⟨g', cap', rfl⟩ := ownsRow_succ hown'; obtain ⟨hv1, hv2, hr2, hk2, hx2, hb2⟩ := appendedX hv (by decide) hrow hws hown' hgrow; have hc1' := hv1.cell; have hf1 := hv1.frozen)
    have hkt : KeepT W (w8.setCell ⟨O, 0, none⟩ (.slice (some ⟨g', 0, none⟩) (pre.length + 1) cap')) := ((KeepT.grown (World.grownBy_alloc W _ none)).trans (KeepT.stepO hgrow (KindT.of_owns (hrow.alloc _)) (by decide) (by decide))).trans (KeepT.step (grownBy_setCell w8 ⟨O, 0, none⟩ _) hv1 (by decide) (by decide))
    have hNA2 : NA w O w3.heap.size (pre ++ [(⟨k, key, val, n', ns, ka, va, na, kc, vc, nc'⟩ : SAct)]) (w8.setCell ⟨O, 0, none⟩ (.slice (some ⟨g', 0, none⟩) (pre.length + 1) cap')) :=
      ⟨⟨_, hv2, by simpa [sactsV, SAct.cells] using hr2, trivial⟩, Touch.grown HNI.out.grown (touch_below (hb2 w.heap.size hOw (by omega))) (fun j hj => hj), Nat.le_trans hws (hb2 0 (Nat.zero_le _) (Nat.zero_le _)).size⟩
    have hks : KeptS w3.heap.size (fun j => j = O) W (w8.setCell ⟨O, 0, none⟩ (.slice (some ⟨g', 0, none⟩) (pre.length + 1) cap')) := ⟨(hb2 0 (Nat.zero_le _) (Nat.zero_le _)).size, fun k hk hne => hx2 k hk hne⟩
    exact ⟨hk2.from _, ⟨hks, hkt⟩, hNA2⟩
  case done =>
    rintro D xs W hD ⟨i, v, q, hi1, hi2', hi3, hi4, hrr, hmi⟩ hni hK
    obtain ⟨u, hv, hrow, _⟩ := hni.row
    obtain ⟨au, cu, rfl⟩ := (Rds.of_owns hrow).slice
    have hc := hv.cell
    have hxl : xs.length = i := by have := congrArg List.length hi2'; simpa using this
    have HK := Lib.hid hK
    have HRR := Lib.hid hrr
    have HMI := Lib.hid hmi
    have HROW := Lib.hid hrow
    have HDA := Lib.hid hi2'
    have HGO := Lib.hid hi3
    have HQ := Lib.hid hi4
    have HNI := Lib.hid hni
    have hbad := rbad_any R v q.1 q.2 W hrr
    obtain ⟨bd, hbd⟩ : ∃ bd, q.2 = bd := ⟨_, rfl⟩
    rw [hbd] at hbad
    have HBD := Lib.hid hbd
    clear hrr hmi hrow hi2' hi3 hi4 hni hbd hK
    have hDw : w.heap.size ≤ D := by omega
    have HE5 : Hid (∀ W', W'.heap[D]? = some (.deferred (some [])) → w.grownBy W' none → ¬ ((∀ j, j < m → goodP p j = true) ∧ stP p m = ([], false)) → UnPost w ys (.returned (.tuple #[.slice none 0 0, .int .i64 5])) (W'.putObj D (.deferred none))) := Lib.hid (fun W' _ hg hno =>
      UnPost.mk HNP.out [] none 0 5 rfl (.inr (.inl ⟨hle, hno, rfl, rfl⟩)) (Rds.nil _ _) (fun x hx => by simp at hx) (grownBy_base2 hg (grownBy_putObj' W' D _) hDw))
    gi_wp2
    refine ⟨trivial, ?_⟩
    refine (callsIn_wide.2 hbad).mono ?_
    rintro e w5 ⟨rfl, rfl⟩
    cases bd
    · by_cases him : i = m
      · have hb1 : ((xs.length : Int) != (m : Int)) = false := by rw [hxl, him]; simp
        have hb2 : (xs.length != m) = false := by rw [hxl, him]; simp
        have HQM : Hid (q = stP p m) := Lib.hid (by
          rcases HQ.out with ⟨_, hq⟩ | ⟨hlt, _, _⟩
          · exact hq
          · omega)
        have hrest := rrest_any R v q.1 q.2 W HRR.out
        have HLX := Lib.hid hxl
        have HIM := Lib.hid him
        clear hxl him hbad
        gi_wp2
        refine ⟨trivial, ?_⟩
        refine (callsIn_wide.2 hrest).mono ?_
        rintro e w6 ⟨a6, c6, rfl, _, g6⟩
        have HK6 : Hid (w6.heap[D]? = some (.deferred (some []))) := Lib.hid ((g6.block D (Array.getElem?_eq_some_iff.1 HK.out).1 (by simp)).trans HK.out)
        have HG6 := Lib.hid (grownBy_trans HNI.out.grown g6)
        have HROW6 := Lib.hid (owns_grown HROW.out g6)
        have HMI6 : Hid (∀ x ∈ xs, x.mine w6) := Lib.hid (fun x hx => (HMI.out x hx).grown g6)
        have hv6 : Boxed w6 O 28 (.slice au xs.length cu) := hv.kept g6 (by simp)
        have hc6 := hv6.cell
        clear g6 hrest hv hc
        by_cases hq0 : q.1 = []
        · have hb3 : ((q.1.length : Int) != 0) = false := by rw [hq0]; rfl
          have hb4 : (q.1.length != 0) = false := by rw [hq0]; rfl
          have hOK : stP p m = ([], false) := by rw [← HQM.out]; exact Prod.ext hq0 HBD.out
          have HOK := Lib.hid hOK
          clear hOK hq0
          gi_wp2
          refine ⟨by simp, .inl ⟨_, _, rfl, run_takeDeferred HK6.out, ?_⟩⟩
          refine ⟨_, results_tmp2 rfl _ _ _, ?_⟩
          refine UnPost.mk HNP.out xs au cu 0 rfl (.inr (.inr ⟨hle, ⟨fun j hj => HGO.out j (by have := HIM.out; omega), HOK.out⟩, rfl, by rw [← HIM.out]; exact HDA.out⟩)) ?_ (fun x hx => (HMI6.out x hx).keepT (KeepT.putObj w6 D _ _ HK6.out rfl)) (grownBy_base2 HG6.out (grownBy_putObj' w6 D _) hDw)
          exact Rds.of_owns (ownsRow_putObj HROW6.out (.deferred none) HK6.out rfl)
        · have hb3 : ((q.1.length : Int) != 0) = true := by
            have : q.1.length ≠ 0 := fun e => hq0 (List.eq_nil_of_length_eq_zero e)
            simp [bne]
            exact hq0
          have hb4 : (q.1.length != 0) = true := by simpa [bne] using hq0
          have HNO : Hid (¬ ((∀ j, j < m → goodP p j = true) ∧ stP p m = ([], false))) := Lib.hid (fun h => hq0 (by rw [HQM.out, h.2]))
          clear hq0
          gi_wp2
          refine ⟨by simp, .inl ⟨_, _, rfl, run_takeDeferred HK6.out, ?_⟩⟩
          refine ⟨_, results_tmp2 rfl _ _ _, ?_⟩
          exact HE5.out _ HK6.out HG6.out HNO.out
      · have hb1 : ((xs.length : Int) != (m : Int)) = true := by rw [hxl]; simp [bne]; omega
        have hb2 : (xs.length != m) = true := by rw [hxl]; simp [bne]; omega
        have HNO : Hid (¬ ((∀ j, j < m → goodP p j = true) ∧ stP p m = ([], false))) := Lib.hid (fun h => by
          rcases HQ.out with ⟨e, _⟩ | ⟨hlt, hg, _⟩
          · exact him e
          · rw [h.1 i hlt] at hg; cases hg)
        have HLX := Lib.hid hxl
        clear hxl him hbad
        gi_wp2
        refine ⟨trivial, ?_⟩
        gi_wp2
        refine ⟨by simp, .inl ⟨_, _, rfl, run_takeDeferred HK.out, ?_⟩⟩
        refine ⟨_, results_tmp2 rfl _ _ _, ?_⟩
        exact HE5.out _ HK.out HNI.out.grown HNO.out
    · have HNO : Hid (¬ ((∀ j, j < m → goodP p j = true) ∧ stP p m = ([], false))) := Lib.hid (fun h => by
        rcases HQ.out with ⟨_, hq⟩ | ⟨hlt, hg, _⟩
        · have := HBD.out
          rw [hq, h.2] at this
          cases this
        · rw [h.1 i hlt] at hg; cases hg)
      have HLX := Lib.hid hxl
      clear hxl hbad
      gi_wp2
      refine ⟨trivial, ?_⟩
      gi_wp2
      refine ⟨by simp, .inl ⟨_, _, rfl, run_takeDeferred HK.out, ?_⟩⟩
      refine ⟨_, results_tmp2 rfl _ _ _, ?_⟩
      exact HE5.out _ HK.out HNI.out.grown HNO.out
  case stop =>
    rintro D c pre W hD _ hf
    exact hf.elim

end Go.Proofs.Ytbjpjnkaaiajlaa
