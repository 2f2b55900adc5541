/- package wire: the Reader's Numbers. -/
import Derived.Test.YtmmkfchijafjeaaRNums
import Derived.Test.YtmmkfchijafjeaaIter
namespace Go.Proofs.Ytmmkfchijafjeaa
open Go.RowKit Go.Shelf
attribute [local go_sem] Oper.semAt_some

/-- How many numbers are left. -/
def numQ (xs : List Nat) (k : Int) : Nat := if mayB k = true then xs.length / k.toNat else 0

set_option maxRecDepth 100000 in
set_option maxHeartbeats 2000000 in
theorem numbers1_no (n l rc kc R : Nat) (k : Int) (xs : List Nat) (hn : 2 ≤ n) (J : List Nat → World → Prop) (hk : mayB k = false)
    (hJ : ∀ pre W W', J pre W → Touch (fun j => j = R) W W' → J pre W')
    (W : World) (hRC : W.cell? ⟨rc, 0, none⟩ = some (.pointer (some ⟨R, 0, none⟩))) (hKC : W.cell? ⟨kc, 0, none⟩ = some (.int .i64 k)) (v : Value) (hr : RR W R v xs false) (h0 : J [] W) :
    CallsIn Fence.wide n Try.prog 32 #[.func (.yield l) #[] #[], .pointer (some ⟨rc, 0, none⟩), .pointer (some ⟨kc, 0, none⟩)] W fun e W' => (∃ v, e = .returned v) ∧ ∃ v, RR W' R v xs false ∧ J [] W' := by
  refine callsIn_of_wp Try.func32 rfl trivial ?_ rfl
  simp only [Try.ntmps32, List.size_toArray, List.length_cons, List.length_nil, Nat.reduceAdd, Nat.reduceSub, Array.replicate_succ, Array.replicate_zero, List.push_toArray, List.append_toArray, List.nil_append, List.cons_append]
  have HR := Lib.hid hr
  have HJ0 := Lib.hid h0
  have HB := Lib.hid (And.intro hRC hKC)
  clear h0 hr hRC hKC
  gi_wp2
  gi_loopw [4] (fun _ wr => wr = W) (fun _ wr => 0)
  case atStart => rfl
  case round =>
    subst hrel
    have b1 := HB.out.1
    have b2 := HB.out.2
    gi_wp2
    refine wpIn_region_planD (fun W' => W'.cell? ⟨rc, 0, none⟩ = some (.pointer (some ⟨R, 0, none⟩)) ∧ W'.cell? ⟨kc, 0, none⟩ = some (.int .i64 k)) [([0, 1, 2, 3], 4, true), ([5, 6, 7, 8, 9, 10, 11, 12, 13], 14, false)] (show Fence.wide.round = none from rfl) (by kernel_rfl) (by kernel_rfl) ?_
    refine wpPlanDIn_seg ⟨b1, b2⟩ ?_
    repeat ((first | (apply wpReadDIn_step rfl (fun _ => rfl) (by rfl); (· intro wS hSw; (try have hSw := hSw rfl); (try dsimp only at hSw); (try obtain ⟨k0, k1⟩ := hSw); go_simp; (try with_reducible rfl))) | (apply wpReadDIn_skip rfl (fun _ => rfl) (by rfl))); (try simp only [Act.put, List.setIfInBounds_toArray, List.set_cons_zero, List.set_cons_succ]))
    refine wpReadDIn_nil ?_
    refine wpOpIn_list rfl (fun K hK => ?_)
    go_simp
    refine ⟨trivial, fun _ => by omega, ?_⟩
    refine (callsIn_wide.2 (may_any _ _)).mono ?_
    rintro e w1 ⟨rfl, rfl⟩
    dsimp only
    rw [hk]
    refine hK _ _ ⟨fun _ => ⟨b1, b2⟩, ?_⟩
    clear hK K
    try simp only [Act.put, List.setIfInBounds_toArray, List.set_cons_zero, List.set_cons_succ]
    refine wpPlanDIn_seg ⟨b1, b2⟩ ?_
    repeat ((first | (apply wpReadDIn_step rfl (fun _ => rfl) (by rfl); (· intro wS hSw; (try have hSw := hSw rfl); (try dsimp only at hSw); (try obtain ⟨k0, k1⟩ := hSw); go_simp; (try with_reducible rfl))) | (apply wpReadDIn_skip rfl (fun _ => rfl) (by rfl))); (try simp only [Act.put, List.setIfInBounds_toArray, List.set_cons_zero, List.set_cons_succ]))
    refine wpReadDIn_nil ?_
    refine wpOpIn_list rfl (fun K hK => ?_)
    go_simp
    refine hK _ _ ⟨fun hf => (by cases hf), ?_⟩
    clear hK K
    try simp only [Act.put, List.setIfInBounds_toArray, List.set_cons_zero, List.set_cons_succ]
    refine wpPlanDIn_nil (NoPanic.normal ?_)
    have HJ1 := Lib.hid (hJ _ _ _ HJ0.out (Touch.of_none (grownBy_drewN wr 1 none)))
    have HR1 := Lib.hid (HR.out.grown (grownBy_drewN wr 1 none))
    clear b1 b2 HJ0 HR HB
    gi_wp2
    go_end0
    exact ⟨⟨_, rfl⟩, _, HR1.out, HJ1.out⟩

/-- What the numbers' iterator leaves: all numbers yielded; some yielded. -/
def NumsS (R : Nat) (xs : List Nat) (k : Int) (ys : List Nat) (W : World) : Prop := ys = numsK xs k.toNat (numQ xs k) ∧ ∃ v, RR W R v (xs.drop (numQ xs k * k.toNat)) false
def NumsP (R : Nat) (xs : List Nat) (k : Int) (ys : List Nat) (W : World) : Prop := ∃ i, 1 ≤ i ∧ i ≤ numQ xs k ∧ ys = numsK xs k.toNat i ∧ ∃ v, RR W R v (xs.drop (i * k.toNat)) false

theorem numbers1_stops (n rc kc n₀ R : Nat) (k : Int) (S : Nat → Prop) (xs : List Nat) (hn : 2 ≤ n) (w : World) (hr0 : rc < n₀ ∧ ¬ S rc) (hk0 : kc < n₀ ∧ ¬ S kc) (hR0 : R < n₀ ∧ ¬ S R) (hne : rc ≠ R ∧ kc ≠ R) (hn₀ : n₀ ≤ w.heap.size)
    (hRC : w.cell? ⟨rc, 0, none⟩ = some (.pointer (some ⟨R, 0, none⟩))) (hKC : w.cell? ⟨kc, 0, none⟩ = some (.int .i64 k)) (v : Value) (hr : RR w R v xs false) (hv : xs ≠ [] → ∀ b, v.ownBlock = some b → b < n₀ ∧ ¬ S b) (hx : xs.length < 1048576) :
    SeqStopsR Fence.wide n Try.prog 32 #[.pointer (some ⟨rc, 0, none⟩), .pointer (some ⟨kc, 0, none⟩)] (fun x : Nat => #[.int .u64 x]) (KeptS n₀ S) (fun j => j = R)
      (NumsS R xs k) (NumsP R xs k) 1048576 w := fun l J Jx W hW hJ _ hY h0 => by
  have hW' : KeptS n₀ S w W := keptS_of_below (hW.mono hn₀)
  have c1 := (hW'.cell (p := ⟨rc, 0, none⟩) hr0.1 hr0.2).trans hRC
  have c2 := (hW'.cell (p := ⟨kc, 0, none⟩) hk0.1 hk0.2).trans hKC
  have hr' := hr.keptS hW' hR0 hv
  cases hk : mayB k
  · refine (numbers1_no n l rc kc R k xs hn J hk hJ W c1 c2 v hr' h0).mono ?_
    rintro e W' ⟨he, v', hv', hj⟩
    refine ⟨he, .inl ⟨[], ⟨?_, v', ?_⟩, hj⟩⟩
    · simp [numQ, hk, numsK]
    · simpa [numQ, hk] using hv'
  · have hk1 : 1 ≤ k ∧ k ≤ 8 := by have := of_decide_eq_true hk; omega
    obtain ⟨kn, rfl⟩ := Int.eq_ofNat_of_zero_le (show 0 ≤ k by omega)
    refine (numbers1_in n l rc kc n₀ R kn S xs hn J Jx hk hr0 hk0 hR0 hne hY hJ W (Nat.le_trans hn₀ hW'.1) c1 c2 v hr' hv hx h0).mono ?_
    have hq : numQ xs kn = xs.length / kn := by simp [numQ, hk]
    rintro e W' ⟨he, ⟨v', h1, h2⟩ | ⟨i, v', h1, h2, h3, h4⟩⟩
    · exact ⟨he, .inl ⟨_, ⟨by rw [hq]; rfl, v', by rw [hq]; exact h1⟩, h2⟩⟩
    · exact ⟨he, .inr ⟨_, ⟨i, h1, by rw [hq]; exact h2, rfl, v', h3⟩, h4⟩⟩

theorem cell_isCells {w : World} {p : Addr} {u : Value} {o : Obj} (hc : w.cell? p = some u) (ho : w.heap[p.block]? = some o) : o.isCells = true := by
  unfold World.cell? at hc
  rw [ho] at hc
  cases o <;> simp_all [Obj.isCells]
theorem rr_own {R : Nat} {v : Value} {xs : List Nat} {bad : Bool} {B : Nat} : OwnFrom B (fun (_ : Unit) W => RR W R v xs bad) := fun _ W W' row hs hg hr => by
  have hb : ∀ (p : Addr) (u : Value), W.cell? p = some u → W'.heap[p.block]? = W.heap[p.block]? := fun p u hc => by
    refine hg.block _ (World.block_lt_of_cell? W p hc) (fun e => ?_)
    obtain ⟨_, o, ho, hn⟩ := hr _ e.symm
    rw [cell_isCells hc ho] at hn
    cases hn
  refine ⟨hs.blk.same (hb ⟨R, 0, none⟩ _ (hs.blk.cell (j := 0) rfl)), hs.rds.same (fun hne b hob hlt => ?_), hs.apart, hs.cap, hs.few, hs.spot, hs.small⟩
  have hlen : 0 < xs.length := by
    cases xs with
    | nil => exact absurd rfl hne
    | cons x xs => simp
  obtain ⟨a1, c1, rfl⟩ := hs.slice
  obtain ⟨b', o', rfl, hc⟩ := hs.rds.at' hlen
  simp [Value.ownBlock] at hob
  subst hob
  exact hb ⟨b', o' + 0, none⟩ _ (hc 0 _ (bytesV_get xs 0 hlen))
theorem numsS_own {R : Nat} {xs : List Nat} {k : Int} {B : Nat} (ys : List Nat) : OwnFrom B (fun (_ : Unit) W => NumsS R xs k ys W) := fun s W W' row hs hg hr => by
  obtain ⟨h1, v, h2⟩ := hs
  exact ⟨h1, v, rr_own s W W' row h2 hg hr⟩
theorem numsP_own {R : Nat} {xs : List Nat} {k : Int} {B : Nat} (ys : List Nat) : OwnFrom B (fun (_ : Unit) W => NumsP R xs k ys W) := fun s W W' row hs hg hr => by
  obtain ⟨i, h1, h2, h3, v, h4⟩ := hs
  exact ⟨i, h1, h2, h3, v, rr_own s W W' row h4 hg hr⟩

def u64N (ys : List Nat) : List Value := ys.map fun x : Nat => .int .u64 x
theorem infoU64N : (Try.prog.info? 29).map (fun i => (i.zero, i.size, i.bytes)) = some (some (.int .u64 0), 1, 8) := by kernel_rfl

/-- Under way: what was collected. -/
structure NI (w : World) (O N1 R : Nat) (pre : List Nat) (W : World) : Prop where
  row : ∃ v, Boxed W O 52 v ∧ W.ownsRow N1 29 1 v pre.length (u64N pre) ∧ True
  touch : Touch (fun j => j = R) w W
  size : N1 ≤ W.heap.size
theorem ni_own {w : World} {O N1 R : Nat} (hN : w.heap.size ≤ N1) : OwnFrom N1 (fun pre W => NI w O N1 R pre W) := fun pre W W' row hs hg hr =>
  ⟨(holdsRow_own N1 O 52 29 1 (fun pre : List Nat => pre.length) (fun pre => u64N pre) (fun _ _ => True)) pre W W' row hs.row hg (fun r e => (hr r e).2),
   hs.touch.step (S' := fun j => N1 ≤ j) (Touch.of hg (fun j e => (hr j e).1)) (fun j hj => .inr (by omega)), Nat.le_trans hs.size hg.size⟩
theorem ni_stable {w : World} {O N1 R : Nat} (hO : O ≠ R) (hN : R < N1) : Stable (fun j => j = R) (fun pre W => NI w O N1 R pre W) := fun pre A B hs ht => by
  obtain ⟨v, hb, hro, _⟩ := hs.row
  refine ⟨⟨v, ?_, ht.owns hro (fun b hb e => by have := (hro.lt b hb).1; omega), trivial⟩, hs.touch.trans ht, Nat.le_trans hs.size ht.size⟩
  have hlt : O < A.heap.size := by
    have := hb.cell
    exact World.block_lt_of_cell? A ⟨O, 0, none⟩ this
  exact (ht.block O hlt hO).trans hb

theorem touch_below {n : Nat} {w w' : World} (h : Below n w w') : Touch (fun j => n ≤ j) w w' := ⟨h.os, h.tape, h.output, h.size, fun k _ hS => h.block k (by omega)⟩

set_option maxRecDepth 100000 in
set_option maxHeartbeats 2000000 in
theorem rnumbers_any (R : Nat) (v : Value) (xs : List Nat) (k : Int) (m : Nat) (w : World) (hm : 1 ≤ m) (hm2 : m ≤ 255) (hx : xs.length ≤ 1000) (hr : RR w R v xs false) (hv : xs ≠ [] → ∀ b, v.ownBlock = some b → b < w.heap.size) :
    Calls Try.prog 27 #[.pointer (some ⟨R, 0, none⟩), .int .i64 k, .int .i64 m] w fun e w' => ∃ u, e = .returned u ∧ w'.ownsRow w.heap.size 29 1 u (min (numQ xs k) m) (u64N (numsK xs k.toNat (min (numQ xs k) m))) ∧ (∃ v2, RR w' R v2 (xs.drop (min (numQ xs k) m * k.toNat)) false) ∧ Touch (fun j => j = R) w w' := by
  obtain ⟨i0, hi, hz0, hz1, hz2⟩ := info_parts infoU64N
  have HRL : Hid (R < w.heap.size) := Lib.hid hr.blk.lt
  have HR := Lib.hid hr
  have HV := Lib.hid hv
  clear hr hv
  have hro : Fence.wide.round = none := rfl
  refine (callsIn_wide (n := 20)).1 ?_
  refine callsIn_of_wp_marks Try.func27 rfl trivial ?_ hro
  simp only [Try.ntmps27, List.size_toArray, List.length_cons, List.length_nil, Nat.reduceAdd, Nat.reduceSub, Array.replicate_succ, Array.replicate_zero, List.push_toArray, List.append_toArray, List.nil_append, List.cons_append]
  have hd : decide ((m : Int) < 1) = false := decide_eq_false (by omega)
  gi_wp2_with (refine ⟨trivial, ?_⟩; gi_at_call 31; refine (callsIn_wide.2 (numbers_calls _ _ _)).mono ?_; rintro e w' ⟨rfl, rfl⟩)
  obtain ⟨w2, hw2⟩ : ∃ w2, (((w.alloc (.cells #[.int .i64 (m : Int)] 3)).alloc (.cells #[.slice none 0 0] 52)).alloc (.cells #[.pointer (some ⟨R, 0, none⟩)] 41)).alloc (.cells #[.int .i64 k] 3) = w2 := ⟨_, rfl⟩
  have hBw : Below w.heap.size w w2 := by rw [← hw2]; exact ((((Below.refl _ w).alloc (Nat.le_refl _) _).alloc (by simp) _).alloc (by simp; omega) _).alloc (by simp; omega) _
  have hz : w2.heap.size = w.heap.size + 4 := by rw [← hw2]; simp
  have bM : Boxed w2 w.heap.size 3 (.int .i64 (m : Int)) := by rw [← hw2]; exact (((Boxed.new w _ _).alloc _).alloc _).alloc _
  have bO : Boxed w2 (w.heap.size + 1) 52 (.slice none 0 0) := by
    rw [← hw2]
    have h9 := ((Boxed.new (w.alloc (.cells #[.int .i64 (m : Int)] 3)) 52 (.slice none 0 0)).alloc (.cells #[.pointer (some ⟨R, 0, none⟩)] 41)).alloc (.cells #[.int .i64 k] 3)
    rw [World.size_alloc] at h9
    exact h9
  have hc1 : w2.cell? ⟨w.heap.size + 2, 0, none⟩ = some (.pointer (some ⟨R, 0, none⟩)) := by
    rw [← hw2]
    have h9 := (Boxed.new ((w.alloc (.cells #[.int .i64 (m : Int)] 3)).alloc (.cells #[.slice none 0 0] 52)) 41 (.pointer (some ⟨R, 0, none⟩))).alloc (.cells #[.int .i64 k] 3)
    simp only [World.size_alloc] at h9
    exact h9.cell
  have hc2 : w2.cell? ⟨w.heap.size + 3, 0, none⟩ = some (.int .i64 k) := by
    rw [← hw2]
    have h9 := Boxed.new (((w.alloc (.cells #[.int .i64 (m : Int)] 3)).alloc (.cells #[.slice none 0 0] 52)).alloc (.cells #[.pointer (some ⟨R, 0, none⟩)] 41)) 3 (.int .i64 k)
    simp only [World.size_alloc] at h9
    exact h9.cell
  rw [hw2]
  clear hw2
  have hRL := HRL.out
  have hg2 := grownBy_below hBw
  have hR2 := HR.out.grown hg2
  refine wpIn_rangeFunc_ownRG hro (by omega) (gf := 32) (lb := #[.pointer (some ⟨w.heap.size + 2, 0, none⟩), .pointer (some ⟨w.heap.size + 3, 0, none⟩)]) rfl trivial (enters_of Try.func32 (by kernel_rfl) rfl)
    (numbers1_stops 19 (w.heap.size + 2) (w.heap.size + 3) w2.heap.size R k (fun j => j = w.heap.size + 1) xs (by omega) w2 (by omega) (by omega) (by omega) (by omega) (Nat.le_refl _) hc1 hc2 v hR2 (fun hne b hb => by have := HV.out hne b hb; omega) (by omega))
    KeptS.trans (KeptS.refl _ _) (KeptS.putObj (Nat.le_refl _)) (Below.refl _ _) (fun _ => rfl)
    (fun j e => by cases e; omega) numsS_own numsP_own
    (fun (pre : List Nat) W => NI w (w.heap.size + 1) w2.heap.size R pre W ∧ (Boxed W w.heap.size 3 (.int .i64 (m : Int)) ∧ pre.length < m))
    (fun c pre W => NI w (w.heap.size + 1) w2.heap.size R pre W ∧ (c = .exit 0 ∧ pre.length = m))
    (OwnFrom.and (ni_own (by omega)) (OwnFrom.and (Own.from (boxed_own _ _ _) _) (ownFrom_pure _ (fun pre : List Nat => pre.length < m))))
    (fun c => OwnFrom.and (ni_own (by omega)) (ownFrom_pure _ (fun pre : List Nat => c = .exit 0 ∧ pre.length = m)))
    (fun pre A B h ht => ⟨ni_stable (by omega) (by omega) pre A B h.1 ht, (ht.block w.heap.size (World.block_lt_of_cell? A ⟨w.heap.size, 0, none⟩ h.2.1.cell) (by show ¬ w.heap.size = R; omega)).trans h.2.1, h.2.2⟩)
    (fun c pre A B h ht => ⟨ni_stable (by omega) (by omega) pre A B h.1 ht, h.2⟩)
    ⟨⟨⟨_, bO, World.ownsRow_nil _ _ _ _, trivial⟩, Touch.of_none hg2, Nat.le_refl _⟩, bM, by simp; omega⟩
    ?a₁ ?assign ?body ?done ?stop
  case assign =>
    intro l x W K hK
    gi_wp2
    exact hK
  case body =>
    rintro l pre x W ⟨hni, hbm, hlm⟩ hlt
    obtain ⟨u, hv, hrow, _⟩ := hni.row
    have hc := hv.cell
    have hm0 := hbm.cell
    have hws : w2.heap.size ≤ W.heap.size := by
      have h1 := hni.touch.size
      have := World.block_lt_of_cell? W ⟨w.heap.size + 1, 0, none⟩ hc
      exact hni.size
    have hNI := Lib.hid hni
    clear hni
    by_cases hlast : pre.length + 1 = m
    · have hbe : (((pre.length : Int) + 1) == (m : Int)) = true := beq_iff_eq.2 (by omega)
      gi_wp2_with (gi_at_builtin; refine wpListIn_append_own _ rfl _ _ 52 rfl w2.heap.size 29 i0 (.int .u64 0) 1 8 Try.underlying52 hi hz0 hz1 hz2 rfl (by decide) _ _ _ rfl (hrow.alloc _) ⟨W.heap.size, 0, none⟩ 1 1 [.int .u64 x] rfl rfl (cell_one_new _ _ _) (by simp [Value.oneCell']) (by unfold maxLen; omega) (by omega) (by simp; omega) ?_; intro v' w1 hown' hgrow _; obtain ⟨g', cap', rfl⟩ := ownsRow_succ hown'; obtain ⟨hv1, hv2, hr2, hk2, hx2, hb2⟩ := appendedX hv (by decide) hrow hws hown' hgrow; have hc1 := hv1.cell; have hf1 := hv1.frozen; have hmB : Boxed (w1.setCell ⟨w.heap.size + 1, 0, none⟩ _) w.heap.size 3 (.int .i64 (m : Int)) := Eq.trans (hx2 w.heap.size (by omega) (by omega)) hbm; have hm1 := hgrow.cell (hbm.alloc _).cell (fun e => by have := (hrow.lt w.heap.size e.symm).1; omega))
      rw [hlast] at hv2 hr2 hk2 hb2 hx2
      have hNI2 : NI w (w.heap.size + 1) w2.heap.size R (pre ++ [x]) (w1.setCell ⟨w.heap.size + 1, 0, none⟩ (.slice (some ⟨g', 0, none⟩) m cap')) :=
        ⟨⟨_, hv2, by rw [List.length_append, List.length_singleton, hlast]; simpa [u64N] using hr2, trivial⟩, hNI.out.touch.step (touch_below (hb2 w.heap.size (by omega) (by omega))) (fun j hj => .inr hj), Nat.le_trans hws (hb2 0 (Nat.zero_le _) (Nat.zero_le _)).size⟩
      have hks : KeptS w2.heap.size (fun j => j = w.heap.size + 1) W (w1.setCell ⟨w.heap.size + 1, 0, none⟩ (.slice (some ⟨g', 0, none⟩) m cap')) := ⟨(hb2 0 (Nat.zero_le _) (Nat.zero_le _)).size, fun k hk hne => hx2 k hk hne⟩
      exact ⟨hk2.from _, hks, hNI2, rfl, by simp; omega⟩
    · have hbe : (((pre.length : Int) + 1) == (m : Int)) = false := beq_eq_false_iff_ne.2 (by omega)
      gi_wp2_with (gi_at_builtin; refine wpListIn_append_own _ rfl _ _ 52 rfl w2.heap.size 29 i0 (.int .u64 0) 1 8 Try.underlying52 hi hz0 hz1 hz2 rfl (by decide) _ _ _ rfl (hrow.alloc _) ⟨W.heap.size, 0, none⟩ 1 1 [.int .u64 x] rfl rfl (cell_one_new _ _ _) (by simp [Value.oneCell']) (by unfold maxLen; omega) (by omega) (by simp; omega) ?_; intro v' w1 hown' hgrow _; obtain ⟨g', cap', rfl⟩ := ownsRow_succ hown'; obtain ⟨hv1, hv2, hr2, hk2, hx2, hb2⟩ := appendedX hv (by decide) hrow hws hown' hgrow; have hc1 := hv1.cell; have hf1 := hv1.frozen; have hmB : Boxed (w1.setCell ⟨w.heap.size + 1, 0, none⟩ _) w.heap.size 3 (.int .i64 (m : Int)) := Eq.trans (hx2 w.heap.size (by omega) (by omega)) hbm; have hm1 := hgrow.cell (hbm.alloc _).cell (fun e => by have := (hrow.lt w.heap.size e.symm).1; omega))
      have hNI2 : NI w (w.heap.size + 1) w2.heap.size R (pre ++ [x]) (w1.setCell ⟨w.heap.size + 1, 0, none⟩ (.slice (some ⟨g', 0, none⟩) (pre.length + 1) cap')) :=
        ⟨⟨_, hv2, by simpa [u64N] using hr2, trivial⟩, hNI.out.touch.step (touch_below (hb2 w.heap.size (by omega) (by omega))) (fun j hj => .inr hj), Nat.le_trans hws (hb2 0 (Nat.zero_le _) (Nat.zero_le _)).size⟩
      have hks : KeptS w2.heap.size (fun j => j = w.heap.size + 1) W (w1.setCell ⟨w.heap.size + 1, 0, none⟩ (.slice (some ⟨g', 0, none⟩) (pre.length + 1) cap')) := ⟨(hb2 0 (Nat.zero_le _) (Nat.zero_le _)).size, fun k hk hne => hx2 k hk hne⟩
      exact ⟨hk2.from _, hks, hNI2, hmB, by simp; omega⟩
  case done =>
    rintro D ys W hD ⟨rfl, v2, hrr⟩ ⟨hni, _, hlm⟩ hK
    obtain ⟨u, hv, hrow, _⟩ := hni.row
    have hc := hv.cell
    gi_wp2
    rw [numsK_len] at hlm hrow
    refine ⟨by simp, .inl ⟨_, _, rfl, run_takeDeferred hK, ?_⟩⟩
    refine ⟨_, results_tmp rfl _ _ _, u, rfl, ?_, ?_, ?_⟩
    · rw [Nat.min_eq_left (by omega)]
      exact ownsRow_mono (ownsRow_putObj hrow (.deferred none) hK rfl) (by omega)
    · rw [Nat.min_eq_left (by omega)]
      exact ⟨v2, (rr_own (B := w2.heap.size)).putObj (s := ()) _ hrr hD hK rfl⟩
    · exact hni.touch.step (S' := fun j => j = D) (Touch.of (grownBy_putObj' W D (.deferred none)) (fun j e => by cases e; rfl)) (fun j hj => .inr (by omega))
  case stop =>
    rintro D c pre W hD ⟨i, hi1, hi2, rfl, v2, hrr⟩ ⟨hni, rfl, hlm⟩ hK
    obtain ⟨u, hv, hrow, _⟩ := hni.row
    have hc := hv.cell
    gi_wp2
    rw [numsK_len] at hlm hrow
    subst hlm
    refine ⟨by simp, .inl ⟨_, _, rfl, run_takeDeferred hK, ?_⟩⟩
    refine ⟨_, results_tmp rfl _ _ _, u, rfl, ?_, ?_, ?_⟩
    · rw [Nat.min_eq_right hi2]
      exact ownsRow_mono (ownsRow_putObj hrow (.deferred none) hK rfl) (by omega)
    · rw [Nat.min_eq_right hi2]
      exact ⟨v2, (rr_own (B := w2.heap.size)).putObj (s := ()) _ hrr hD hK rfl⟩
    · exact hni.touch.step (S' := fun j => j = D) (Touch.of (grownBy_putObj' W D (.deferred none)) (fun j e => by cases e; rfl)) (fun j hj => .inr (by omega))

theorem rnumbers_zero (R : Nat) (k : Int) (w : World) :
    Calls Try.prog 27 #[.pointer (some ⟨R, 0, none⟩), .int .i64 k, .int .i64 0] w fun e w' => e = .returned (.slice none 0 0) ∧ w.grownBy w' none := by
  go_enter Try.func27, Try.ntmps27
  go_wp2_with fail
  go_ret
  exact ⟨rfl, grownBy_trans (World.grownBy_alloc _ _ none) (World.grownBy_alloc _ _ none)⟩

end Go.Proofs.Ytmmkfchijafjeaa
