/- The walks of mix.Slots: its iterator. -/
import Derived.Test.YtnlcjelmdfjkcaaProg
import Derived.Test.YtnlcjelmdfjkcaaIter
import Derived.Test.YtnlcjelmdfjkcaaMix
import Derived.Laws.EntriesVeiled
namespace Go.Proofs.Ytnlcjelmdfjkcaa
open Go.RowKit Go.Shelf
attribute [local go_sem] Oper.semAt_some

/-- May there be such slots? -/
abbrev slotsOk (p b d : Int) : Prop := 0 ≤ b ∧ b ≤ d ∧ d ≤ 20 ∧ 0 ≤ p ∧ p < 2 ^ b.toNat
def slotF (p b d : Int) (i : Nat) : Int := p * 2 ^ (d - b).toNat + i
/-- The numbers that begin so. -/
def slotsL (p b d : Int) : List Int := if slotsOk p b d then upto (slotF p b d) (2 ^ (d - b).toNat) else []

theorem slots_calls (p b d : Int) (w : World) :
    Calls Try.prog 28 #[.int .i64 p, .int .i64 b, .int .i64 d] w fun e w' => e = .returned (.func (.func 29) #[] #[.pointer (some ⟨w.heap.size + 1, 0, none⟩), .pointer (some ⟨w.heap.size + 2, 0, none⟩), .pointer (some ⟨w.heap.size, 0, none⟩)]) ∧
      w' = ((w.alloc (.cells #[.int .i64 p] 3)).alloc (.cells #[.int .i64 b] 3)).alloc (.cells #[.int .i64 d] 3) := by
  go_enter Try.func28, Try.ntmps28
  go_wp2
  go_ret
  exact ⟨rfl, rfl⟩

set_option maxRecDepth 100000 in
set_option maxHeartbeats 2000000 in
theorem slots1_in (n l s n₀ x : Nat) (hn : 1 ≤ n) (p b d : Int) (hok : slotsOk p b d) (J Jx : List Int → World → Prop)
    (hs0 : s + 2 < n₀) (hsx : s ≠ x ∧ s + 1 ≠ x ∧ s + 2 ≠ x)
    (hY : ∀ pre x' W, J pre W → pre.length < 2 ^ (d - b).toNat → YieldAt Fence.wide (n - 1) Try.prog l #[.int .i64 x'] W fun e W' =>
      (e = .returned (.bool true) ∧ J (pre ++ [x']) W' ∧ KeptX n₀ x W W') ∨ (e = .returned (.bool false) ∧ Jx (pre ++ [x']) W'))
    (W : World) (hB1 : W.cell? ⟨s, 0, none⟩ = some (.int .i64 p)) (hB2 : W.cell? ⟨s + 1, 0, none⟩ = some (.int .i64 b)) (hB3 : W.cell? ⟨s + 2, 0, none⟩ = some (.int .i64 d)) (h0 : J [] W) :
    CallsIn Fence.wide n Try.prog 29 #[.func (.yield l) #[] #[], .pointer (some ⟨s + 1, 0, none⟩), .pointer (some ⟨s + 2, 0, none⟩), .pointer (some ⟨s, 0, none⟩)] W fun e W' => (∃ v, e = .returned v) ∧
      ((∃ ys, ys = upto (slotF p b d) (2 ^ (d - b).toNat) ∧ J ys W') ∨ (∃ pre, (∃ k, k ≤ 2 ^ (d - b).toNat ∧ pre = upto (slotF p b d) k) ∧ Jx pre W')) := by
  obtain ⟨q0, q1, q2, q3, q4⟩ := hok
  obtain ⟨bn, rfl⟩ := Int.eq_ofNat_of_zero_le q0
  obtain ⟨dn, rfl⟩ := Int.eq_ofNat_of_zero_le (show 0 ≤ d by omega)
  obtain ⟨M, hM⟩ : ∃ M : Nat, 2 ^ ((dn : Int) - bn).toNat = M := ⟨_, rfl⟩
  have hM1 : M ≤ 1048576 := by
    rw [← hM, show (1048576 : Nat) = 2 ^ 20 from rfl]
    exact Nat.pow_le_pow_right (by omega) (by omega)
  have hM0 : 1 ≤ M := by rw [← hM]; exact Nat.one_le_two_pow
  have hMi : (2 : Int) ^ ((dn : Int) - bn).toNat = M := by rw [← hM]; norm_cast
  have hz : p / 2 ^ bn = 0 := Int.ediv_eq_zero_of_lt q3 (by simpa using q4)
  have hp1 : p ≤ 1048576 := by
    have : (2 : Int) ^ bn ≤ 2 ^ 20 := by exact_mod_cast Nat.pow_le_pow_right (by omega) (by omega)
    have h2 : p < 2 ^ bn := by simpa using q4
    omega
  have hpM : ∀ k : Nat, k ≤ M → 0 ≤ p * M + k ∧ p * M + k ≤ 9000000000000000000 := by
    intro k hk
    have h1 : 0 ≤ p * (M : Int) := Int.mul_nonneg q3 (by omega)
    have h2 : p * (M : Int) ≤ 1048576 * 1048576 := Int.mul_le_mul hp1 (by omega) (by omega) (by omega)
    omega
  rw [hM] at hY ⊢
  have hw : wrap64 (2 ^ (dn - bn)) = M := by
    have e : (2 : Int) ^ (dn - bn) = M := by rw [← hMi]; congr 1; omega
    rw [e]
    exact IntWalk.wrap64_in _ (by omega)
  have HM := Lib.hid hMi
  clear hMi hM q4
  have d1 : decide (dn < bn) = false := by simp; omega
  have d2 : decide ((bn : Int) < 0) = false := by simp
  have d3 : decide ((20 : Int) < (dn : Int)) = false := by simp; omega
  have d4 : decide (p < 0) = false := by simp; omega
  refine callsIn_of_wp Try.func29 rfl trivial ?_ rfl
  simp only [Try.ntmps29, List.size_toArray, List.length_cons, List.length_nil, Nat.reduceAdd, Nat.reduceSub, Array.replicate_succ, Array.replicate_zero, List.push_toArray, List.append_toArray, List.nil_append, List.cons_append]
  gi_wp2
  rw [hw]
  clear hw
  gi_loopw [33] (fun i wr => ∃ k : Nat, k ≤ M ∧ i = .int .i64 k ∧ J (upto (slotF p bn dn) k) wr ∧ KeptX n₀ x W wr)
    (fun i _ => M - (intOf i).toNat)
  case atStart => exact ⟨0, Nat.zero_le _, rfl, h0, KeptX.refl _ _ _⟩
  case round =>
    obtain ⟨k, hk, rfl, hJs, hnx⟩ := hrel
    by_cases hlt : k < M
    · have h3 : wr.cell? ⟨s, 0, none⟩ = some (.int .i64 p) := (hnx.cell (p := ⟨s, 0, none⟩) (by simp; omega) hsx.1).trans hB1
      have hb1 := hpM k hk
      have hb2 := hpM 0 (by omega)
      simp only [Int.natCast_zero, Int.add_zero] at hb2
      have hsf : slotF p bn dn k = p * M + k := by unfold slotF; rw [HM.out]
      have hup := upto_succ (slotF p bn dn) k
      rw [hsf] at hup
      obtain ⟨fn, tmps, assign, body, hy, hR2⟩ := hY _ (p * M + k) wr hJs (by rw [upto_length]; exact hlt)
      have HUP := Lib.hid hup
      clear hup hsf hB1 hB2 hB3 hpM
      gi_wp2
      refine hR2.mono ?_
      rintro e W3 (⟨rfl, hJ3, hk3⟩ | ⟨rfl, hJx3⟩)
      · gi_wp2
        go_roundw
        case rel => exact ⟨k + 1, by omega, by simp, by rw [HUP.out]; exact hJ3, hnx.trans hk3⟩
        case measure => simp [intOf]; omega
      · gi_wp2
        refine bodyPost_ret (results_none rfl _ _ _) rfl ?_
        exact ⟨⟨_, rfl⟩, .inr ⟨_, ⟨k + 1, by omega, HUP.out.symm⟩, hJx3⟩⟩
    · obtain rfl : k = M := by omega
      gi_wp2
      go_end0
      exact ⟨⟨_, rfl⟩, .inl ⟨_, rfl, hJs⟩⟩

set_option maxRecDepth 100000 in
set_option maxHeartbeats 2000000 in
theorem slots1_no (n l s : Nat) (p b d : Int) (hno : ¬ slotsOk p b d) (J : List Int → World → Prop)
    (W : World) (hB1 : W.cell? ⟨s, 0, none⟩ = some (.int .i64 p)) (hB2 : W.cell? ⟨s + 1, 0, none⟩ = some (.int .i64 b)) (hB3 : W.cell? ⟨s + 2, 0, none⟩ = some (.int .i64 d)) (h0 : J [] W) :
    CallsIn Fence.wide n Try.prog 29 #[.func (.yield l) #[] #[], .pointer (some ⟨s + 1, 0, none⟩), .pointer (some ⟨s + 2, 0, none⟩), .pointer (some ⟨s, 0, none⟩)] W fun e W' => (∃ v, e = .returned v) ∧ J [] W' := by
  have hcase : (b < 0) ∨ (¬ b < 0 ∧ d < b) ∨ (¬ b < 0 ∧ ¬ d < b ∧ 20 < d) ∨ (¬ b < 0 ∧ ¬ d < b ∧ ¬ 20 < d ∧ p < 0) ∨ (¬ b < 0 ∧ ¬ d < b ∧ ¬ 20 < d ∧ ¬ p < 0) := by omega
  rcases hcase with c1 | ⟨c1, c2⟩ | ⟨c1, c2, c3⟩ | ⟨c1, c2, c3, c4⟩ | ⟨c1, c2, c3, c4⟩
  · refine callsIn_of_wp Try.func29 rfl trivial ?_ rfl
    simp only [Try.ntmps29, List.size_toArray, List.length_cons, List.length_nil, Nat.reduceAdd, Nat.reduceSub, Array.replicate_succ, Array.replicate_zero, List.push_toArray, List.append_toArray, List.nil_append, List.cons_append]
    gi_wp2
    refine bodyPost_ret (results_none rfl _ _ _) rfl ?_
    exact ⟨⟨_, rfl⟩, h0⟩
  · refine callsIn_of_wp Try.func29 rfl trivial ?_ rfl
    simp only [Try.ntmps29, List.size_toArray, List.length_cons, List.length_nil, Nat.reduceAdd, Nat.reduceSub, Array.replicate_succ, Array.replicate_zero, List.push_toArray, List.append_toArray, List.nil_append, List.cons_append]
    gi_wp2
    refine bodyPost_ret (results_none rfl _ _ _) rfl ?_
    exact ⟨⟨_, rfl⟩, h0⟩
  · refine callsIn_of_wp Try.func29 rfl trivial ?_ rfl
    simp only [Try.ntmps29, List.size_toArray, List.length_cons, List.length_nil, Nat.reduceAdd, Nat.reduceSub, Array.replicate_succ, Array.replicate_zero, List.push_toArray, List.append_toArray, List.nil_append, List.cons_append]
    gi_wp2
    refine bodyPost_ret (results_none rfl _ _ _) rfl ?_
    exact ⟨⟨_, rfl⟩, h0⟩
  · refine callsIn_of_wp Try.func29 rfl trivial ?_ rfl
    simp only [Try.ntmps29, List.size_toArray, List.length_cons, List.length_nil, Nat.reduceAdd, Nat.reduceSub, Array.replicate_succ, Array.replicate_zero, List.push_toArray, List.append_toArray, List.nil_append, List.cons_append]
    gi_wp2
    refine bodyPost_ret (results_none rfl _ _ _) rfl ?_
    exact ⟨⟨_, rfl⟩, h0⟩
  · have hq : ¬ p < 2 ^ b.toNat := fun h => hno ⟨by omega, by omega, by omega, by omega, h⟩
    obtain ⟨bn, rfl⟩ := Int.eq_ofNat_of_zero_le (show 0 ≤ b by omega)
    have hz : (p / 2 ^ bn != 0) = true := by
      rw [bne_iff_ne]
      intro h
      have h2 : (1 : Int) ≤ p / 2 ^ bn := Int.le_ediv_of_mul_le (by exact_mod_cast Nat.two_pow_pos bn) (by rw [Int.one_mul]; simpa using hq)
      omega
    clear hq hno
    refine callsIn_of_wp Try.func29 rfl trivial ?_ rfl
    simp only [Try.ntmps29, List.size_toArray, List.length_cons, List.length_nil, Nat.reduceAdd, Nat.reduceSub, Array.replicate_succ, Array.replicate_zero, List.push_toArray, List.append_toArray, List.nil_append, List.cons_append]
    gi_wp2
    refine bodyPost_ret (results_none rfl _ _ _) rfl ?_
    exact ⟨⟨_, rfl⟩, h0⟩

theorem slots1_stops (n s n₀ x : Nat) (hn : 1 ≤ n) (p b d : Int) (w : World) (hs0 : s + 2 < n₀) (hsx : s ≠ x ∧ s + 1 ≠ x ∧ s + 2 ≠ x) (hn₀ : n₀ ≤ w.heap.size)
    (hB1 : w.cell? ⟨s, 0, none⟩ = some (.int .i64 p)) (hB2 : w.cell? ⟨s + 1, 0, none⟩ = some (.int .i64 b)) (hB3 : w.cell? ⟨s + 2, 0, none⟩ = some (.int .i64 d)) :
    SeqStopsK Fence.wide n Try.prog 29 #[.pointer (some ⟨s + 1, 0, none⟩), .pointer (some ⟨s + 2, 0, none⟩), .pointer (some ⟨s, 0, none⟩)] (fun x : Int => #[Value.int .i64 x]) (KeptX n₀ x) (fun ys => ys = slotsL p b d)
      (fun _ => True) 1048576 w := fun l J Jx W hW _ _ hY h0 => by
  have hW' : KeptX n₀ x w W := keptX_of_below (hW.mono hn₀)
  have c1 := (hW'.cell (p := ⟨s, 0, none⟩) (by simp; omega) hsx.1).trans hB1
  have c2 := (hW'.cell (p := ⟨s + 1, 0, none⟩) (by simp; omega) hsx.2.1).trans hB2
  have c3 := (hW'.cell (p := ⟨s + 2, 0, none⟩) (by simp; omega) hsx.2.2).trans hB3
  by_cases hok : slotsOk p b d
  · have hM : 2 ^ (d - b).toNat ≤ 1048576 := by
      rw [show (1048576 : Nat) = 2 ^ 20 from rfl]
      exact Nat.pow_le_pow_right (by omega) (by have := hok.2.2.1; have := hok.1; omega)
    refine (slots1_in n l s n₀ x hn p b d hok J Jx hs0 hsx (fun pre x' W1 h1 h2 => hY pre x' W1 h1 (by omega)) W c1 c2 c3 h0).mono ?_
    rintro e W' ⟨he, ⟨ys, rfl, hj⟩ | ⟨pre, _, hj⟩⟩
    · exact ⟨he, .inl ⟨_, (if_pos hok).symm, hj⟩⟩
    · exact ⟨he, .inr ⟨pre, trivial, hj⟩⟩
  · refine (slots1_no n l s p b d hok J W c1 c2 c3 h0).mono ?_
    rintro e W' ⟨he, hj⟩
    exact ⟨he, .inl ⟨[], (if_neg hok).symm, hj⟩⟩

theorem infoInt : (Try.prog.info? 3).map (fun i => (i.zero, i.size, i.bytes)) = some (some (.int .i64 0), 1, 8) := by kernel_rfl

set_option maxRecDepth 100000 in
set_option maxHeartbeats 2000000 in
theorem slots_any (p b d : Int) (w : World) :
    Calls Try.prog 18 #[.int .i64 p, .int .i64 b, .int .i64 d] w fun e W' => ∃ v, e = .returned v ∧ W'.ownsRow w.heap.size 3 1 v (slotsL p b d).length ((slotsL p b d).map (Value.int .i64)) ∧ w.grownBy W' none := by
  obtain ⟨i0, hi, hz0, hz1, hz2⟩ := info_parts infoInt
  have hro : Fence.wide.round = none := rfl
  refine (callsIn_wide (n := 20)).1 ?_
  refine callsIn_of_wp_marks Try.func18 rfl trivial ?_ hro
  simp only [Try.ntmps18, List.size_toArray, List.length_cons, List.length_nil, Nat.reduceAdd, Nat.reduceSub, Array.replicate_succ, Array.replicate_zero, List.push_toArray, List.append_toArray, List.nil_append, List.cons_append]
  gi_wp2_with (refine ⟨trivial, ?_⟩; gi_at_call 28; refine (callsIn_wide.2 (slots_calls _ _ _ _)).mono ?_; rintro e w' ⟨rfl, rfl⟩)
  obtain ⟨w2, hw2⟩ : ∃ w2, (((w.alloc (.cells #[.slice none 0 0] 22)).alloc (.cells #[.int .i64 p] 3)).alloc (.cells #[.int .i64 b] 3)).alloc (.cells #[.int .i64 d] 3) = w2 := ⟨_, rfl⟩
  have hBw : Below w.heap.size w w2 := by rw [← hw2]; exact ((((Below.refl _ w).alloc (Nat.le_refl _) _).alloc (by simp) _).alloc (by simp; omega) _).alloc (by simp; omega) _
  have hz : w2.heap.size = w.heap.size + 4 := by rw [← hw2]; simp
  have bO : Boxed w2 w.heap.size 22 (.slice none 0 0) := by rw [← hw2]; exact (((Boxed.new w _ _).alloc _).alloc _).alloc _
  have hB1 : w2.cell? ⟨w.heap.size + 1, 0, none⟩ = some (.int .i64 p) := by
    rw [← hw2]
    have h := Boxed.new (w.alloc (.cells #[.slice none 0 0] 22)) 3 (.int .i64 p)
    rw [World.size_alloc] at h
    exact ((h.alloc _).alloc _).cell
  have hB2 : w2.cell? ⟨w.heap.size + 1 + 1, 0, none⟩ = some (.int .i64 b) := by
    rw [← hw2]
    have h := Boxed.new ((w.alloc (.cells #[.slice none 0 0] 22)).alloc (.cells #[.int .i64 p] 3)) 3 (.int .i64 b)
    simp only [World.size_alloc] at h
    exact (h.alloc _).cell
  have hB3 : w2.cell? ⟨w.heap.size + 1 + 2, 0, none⟩ = some (.int .i64 d) := by
    rw [← hw2]
    have h := Boxed.new (((w.alloc (.cells #[.slice none 0 0] 22)).alloc (.cells #[.int .i64 p] 3)).alloc (.cells #[.int .i64 b] 3)) 3 (.int .i64 d)
    simp only [World.size_alloc] at h
    exact h.cell
  rw [hw2]
  clear hw2
  refine wpIn_rangeFunc_ownG hro (by omega) (gf := 29) (lb := #[.pointer (some ⟨w.heap.size + 1 + 1, 0, none⟩), .pointer (some ⟨w.heap.size + 1 + 2, 0, none⟩), .pointer (some ⟨w.heap.size + 1, 0, none⟩)]) rfl trivial (enters_of Try.func29 (by kernel_rfl) rfl)
    (slots1_stops 19 (w.heap.size + 1) w2.heap.size w.heap.size (by omega) p b d w2 (by omega) (by omega) (Nat.le_refl _) hB1 hB2 hB3)
    KeptX.trans (KeptX.putObj (Nat.le_refl _)) (Below.refl _ _) (fun _ => rfl)
    (fun (pre : List Int) W => (∃ v, Boxed W w.heap.size 22 v ∧ W.ownsRow w2.heap.size 3 1 v pre.length (pre.map (Value.int .i64)) ∧ True) ∧ Below w.heap.size w2 W)
    (fun _ _ _ => False)
    (OwnFrom.and (Own.from (holdsRow_own w2.heap.size w.heap.size 22 3 1 (fun pre : List Int => pre.length) (fun pre : List Int => pre.map (Value.int .i64)) (fun _ _ => True)) _) (ownFrom_below (by omega) (by omega)))
    (fun _ _ _ _ _ hs _ _ => hs)
    ⟨⟨_, bO, World.ownsRow_nil _ _ _ _, trivial⟩, Below.refl _ _⟩
    ?a₁ ?assign ?body ?done ?stop
  case assign =>
    intro l x W K hK
    gi_wp2
    exact hK
  case body =>
    rintro l pre x W ⟨⟨v, hv, hrow, _⟩, hB⟩ hlt
    have hc := hv.cell
    have hws := hB.size
    gi_wp2_with (gi_at_builtin; refine wpListIn_append_own _ rfl _ _ 22 rfl w2.heap.size 3 i0 (.int .i64 0) 1 8 Try.underlying22 hi hz0 hz1 hz2 rfl (by decide) _ _ _ rfl (hrow.alloc _) ⟨W.heap.size, 0, none⟩ 1 1 [.int .i64 x] rfl rfl (cell_one_new _ _ _) (by simp [Value.oneCell']) (by unfold maxLen; omega) (by omega) (by simp; omega) ?_; intro v' w1 hown' hgrow _; obtain ⟨g', cap', rfl⟩ := ownsRow_succ hown'; obtain ⟨hv1, hv2, hr2, hk2, hx2, hb2⟩ := appendedX hv (by decide) hrow hws hown' hgrow; have hc1 := hv1.cell; have hf1 := hv1.frozen)
    exact ⟨hk2.from _, hx2, ⟨_, hv2, by simpa using hr2, trivial⟩, hB.trans (hb2 _ (Nat.le_refl _) (by omega))⟩
  case done =>
    rintro D ys W hD rfl ⟨⟨v, hv, hrow, _⟩, hB⟩ hK
    have hc := hv.cell
    gi_wp2
    refine ⟨by simp, .inl ⟨_, _, rfl, run_takeDeferred hK, ?_⟩⟩
    refine ⟨_, results_tmp rfl _ _ _, v, rfl, ?_, grownBy_below ((hBw.trans hB).trans (belowK_b (w := w) (Nat.le_refl _) W D _ _ (by omega) hK rfl rfl))⟩
    exact ownsRow_mono (ownsRow_putObj hrow (.deferred none) hK rfl) (by omega)
  case stop =>
    rintro D c pre W _ _ h _
    exact h.elim

theorem slotsl_any (p b d : Int) (w : World) :
    Calls Try.prog 8 #[.int .i64 p, .int .i64 b, .int .i64 d] w fun e W' => ∃ v, e = .returned v ∧ W'.ownsRow w.heap.size 3 1 v (slotsL p b d).length ((slotsL p b d).map (Value.int .i64)) ∧ w.grownBy W' none := by
  go_enter Try.func8, Try.ntmps8
  go_wp2_with (go_at_call 18; refine (slots_any _ _ _ _).mono ?_; rintro e w' ⟨v, rfl, h1, h2⟩)
  go_ret
  exact ⟨_, rfl, h1, h2⟩

end Go.Proofs.Ytnlcjelmdfjkcaa
