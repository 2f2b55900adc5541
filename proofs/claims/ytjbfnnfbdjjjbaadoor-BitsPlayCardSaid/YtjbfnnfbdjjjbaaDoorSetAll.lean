/- package bits: taken, All. -/
import Derived.Test.YtjbfnnfbdjjjbaaDoorSetTake
import Derived.Test.YtjbfnnfbdjjjbaaDoorIter
import Derived.Laws.EntriesVeiled
namespace Go.Proofs.YtjbfnnfbdjjjbaaDoor
open Go.RowKit Go.Shelf
attribute [local go_sem] Oper.semAt_some

/-- Those that are taken, below some. -/
def takI (f : Nat → Bool) (m : Nat) : List Int := ((List.range m).filter f).map fun i : Nat => (i : Int)
theorem takI_len (f : Nat → Bool) (m : Nat) : (takI f m).length ≤ m := by
  unfold takI
  rw [List.length_map]
  have := List.length_filter_le f (List.range m)
  rwa [List.length_range] at this
theorem takI_gap (f : Nat → Bool) (a b : Nat) (hab : a ≤ b) (h : ∀ j, a ≤ j → j < b → f j = false) : takI f b = takI f a := by
  obtain ⟨d, rfl⟩ : ∃ d, b = a + d := ⟨b - a, by omega⟩
  unfold takI
  rw [List.range_add, List.filter_append]
  have : (List.map (fun x => a + x) (List.range d)).filter f = [] := by
    rw [List.filter_eq_nil_iff]
    intro i hi
    obtain ⟨k, hk, rfl⟩ := List.mem_map.1 hi
    rw [List.mem_range] at hk
    rw [h (a + k) (by omega) (by omega)]
    simp
  rw [this, List.append_nil]
theorem takI_one (f : Nat → Bool) (a : Nat) (h : f a = true) : takI f (a + 1) = takI f a ++ [(a : Int)] := by
  unfold takI
  rw [List.range_succ, List.filter_append, List.map_append]
  simp [h]
def OnesAt (ws : List (BitVec 64)) (q : Nat) (x : BitVec 64) (m : Nat) : Prop := m ≤ 64 ∧ ∀ b, b < 64 → x.getLsbD b = (decide (m ≤ b) && (wd ws q).getLsbD b)
theorem ones_start (ws : List (BitVec 64)) (q : Nat) : OnesAt ws q (wd ws q) 0 := ⟨by omega, fun b _ => by simp⟩
theorem ones_end {ws : List (BitVec 64)} {q : Nat} {x : BitVec 64} {m : Nat} (h : OnesAt ws q x m) (h0 : x = 0#64) : takI (tk ws) (64 * (q + 1)) = takI (tk ws) (64 * q + m) := by
  refine takI_gap _ _ _ (by have := h.1; omega) (fun j h1 h2 => ?_)
  obtain ⟨b, rfl⟩ : ∃ b, j = 64 * q + b := ⟨j - 64 * q, by omega⟩
  rw [tk_at ws q b (by omega)]
  have := h.2 b (by omega)
  rw [h0, BitVec.getLsbD_zero, decide_eq_true (show m ≤ b by omega)] at this
  simpa using this.symm
theorem ones_low {ws : List (BitVec 64)} {q : Nat} {x : BitVec 64} {m : Nat} (h : OnesAt ws q x m) (h0 : x ≠ 0#64) :
    Lib.ctz 64 x.toNat < 64 ∧ OnesAt ws q (x &&& (x - 1#64)) (Lib.ctz 64 x.toNat + 1) ∧ takI (tk ws) (64 * q + (Lib.ctz 64 x.toNat + 1)) = takI (tk ws) (64 * q + m) ++ [((64 * q + Lib.ctz 64 x.toNat : Nat) : Int)] := by
  obtain ⟨h1, h2, h3⟩ := low_bit x h0
  have hoff := low_off x h0
  generalize Lib.ctz 64 x.toNat = t at *
  have h4 := h.2 t h3
  rw [h1] at h4
  have h5 : m ≤ t ∧ (wd ws q).getLsbD t = true := by simpa using h4.symm
  refine ⟨h3, ⟨by omega, fun b hb => ?_⟩, ?_⟩
  · rw [hoff b, h.2 b hb]
    by_cases hbt : b < t
    · have h6 := h.2 b hb
      rw [h2 b hbt] at h6
      rw [← h6, decide_eq_false (show ¬ t + 1 ≤ b by omega)]
      rfl
    · by_cases e : b = t
      · subst e
        rw [decide_eq_false (show ¬ b + 1 ≤ b by omega)]
        simp
      · rw [decide_eq_true (show m ≤ b by omega), decide_eq_true (show t + 1 ≤ b by omega)]
        have : (b == t) = false := by simpa using e
        rw [this]
        simp
  · rw [← Nat.add_assoc, takI_one _ _ (by rw [tk_at ws q t h3]; exact h5.2)]
    congr 1
    refine takI_gap _ _ _ (by omega) (fun j k1 k2 => ?_)
    obtain ⟨b, rfl⟩ : ∃ b, j = 64 * q + b := ⟨j - 64 * q, by omega⟩
    rw [tk_at ws q b (by omega)]
    have h6 := h.2 b (by omega)
    rw [h2 b (by omega), decide_eq_true (show m ≤ b by omega)] at h6
    simpa using h6.symm
theorem ST.keptX {n₀ x : Nat} {w w' : World} {B g c n hand : Nat} {ws : List (BitVec 64)} (h : ST w B g c n hand ws) (hk : KeptX n₀ x w w') (hB : B < n₀ ∧ B ≠ x) (hg : g < n₀ ∧ g ≠ x) (h0 : 0 < n₀ ∧ 0 ≠ x) : ST w' B g c n hand ws := by
  obtain ⟨rest, hr⟩ := h.row
  have ht := h.tab.same (hk _ h0.1 h0.2)
  refine ⟨h.blk.keptX hk hB.1 hB.2, ⟨rest, hr.keptX hk hg.1 hg.2⟩, h.ne, ht, h.b0, h.g0, h.len, h.n1, h.n2, h.hd, h.top, ?_⟩
  have := ht 0 (by omega)
  unfold World.cell? at this
  apply Decidable.byContradiction
  intro hc
  rw [Array.getElem?_eq_none (by omega)] at this
  cases this

theorem taken_calls (B : Nat) (w : World) :
    Calls Tryd.prog 27 #[.pointer (some ⟨B, 0, none⟩)] w fun e w' => e = .returned (.func (.func 31) #[] #[.pointer (some ⟨w.heap.size, 0, none⟩)]) ∧ w' = w.alloc (.cells #[.pointer (some ⟨B, 0, none⟩)] 23) := by
  go_enter Tryd.func27, Tryd.ntmps27
  go_wp2
  go_ret
  exact ⟨rfl, rfl⟩

set_option maxRecDepth 100000 in
set_option maxHeartbeats 2000000 in
theorem taken1_in (n l s n₀ x B g c nn hand : Nat) (hn : 1 ≤ n) (ws : List (BitVec 64)) (J Jx : List Int → World → Prop)
    (hs0 : s < n₀ ∧ s ≠ x) (hB0 : B < n₀ ∧ B ≠ x) (hg0 : g < n₀ ∧ g ≠ x) (ht0 : 0 < n₀ ∧ 0 ≠ x)
    (hY : ∀ pre x' W, J pre W → pre.length < 1048576 → YieldAt Fence.wide (n - 1) Tryd.prog l #[.int .i64 x'] W fun e W' =>
      (e = .returned (.bool true) ∧ J (pre ++ [x']) W' ∧ KeptX n₀ x W W') ∨ (e = .returned (.bool false) ∧ Jx (pre ++ [x']) W'))
    (W : World) (hS : W.cell? ⟨s, 0, none⟩ = some (.pointer (some ⟨B, 0, none⟩))) (hst : ST W B g c nn hand ws) (h0 : J [] W) :
    CallsIn Fence.wide n Tryd.prog 31 #[.func (.yield l) #[] #[], .pointer (some ⟨s, 0, none⟩)] W fun e W' => (∃ v, e = .returned v) ∧
      (J (takI (tk ws) nn) W' ∨ ∃ pre, Jx pre W') := by
  have hlen := hst.len
  have hn2 := hst.n2
  have k2 := hst.blk.cell (j := 2) rfl
  have hw0 : ws.length ≤ 1024 := by omega
  have HFIN : Hid (takI (tk ws) (64 * ws.length) = takI (tk ws) nn) := Lib.hid (takI_gap _ _ _ (by omega) (fun j h1 _ => hst.top j h1))
  have HST := Lib.hid hst
  clear hst hlen
  refine callsIn_of_wp Tryd.func31 rfl trivial ?_ rfl
  simp only [Tryd.ntmps31, List.size_toArray, List.length_cons, List.length_nil, Nat.reduceAdd, Nat.reduceSub, Array.replicate_succ, Array.replicate_zero, List.push_toArray, List.append_toArray, List.nil_append, List.cons_append]
  gi_wp2
  gi_loopw [10] (fun i wr => ∃ q : Nat, q ≤ ws.length ∧ i = .int .i64 q ∧ J (takI (tk ws) (64 * q)) wr ∧ KeptX n₀ x W wr)
    (fun i _ => ws.length - (intOf i).toNat)
  case atStart => exact ⟨0, Nat.zero_le _, rfl, h0, KeptX.refl _ _ _⟩
  case round =>
    obtain ⟨q, hq, rfl, hJs, hnx⟩ := hrel
    by_cases hlt : q < ws.length
    · have hw := (HST.out.keptX hnx hB0 hg0 ht0).word q hlt
      have HJ := Lib.hid hJs
      have HK := Lib.hid hnx
      clear hJs hnx
      generalize hwo : wr = wo at *
      clear hwo
      gi_wp2
      gi_loopw [4] (fun bv wr => ∃ (y : BitVec 64) (m : Nat), bv = .int .u64 (U y) ∧ OnesAt ws q y m ∧ J (takI (tk ws) (64 * q + m)) wr ∧ KeptX n₀ x W wr) (fun bv _ => (intOf bv).toNat)
      case atStart => exact ⟨_, 0, rfl, ones_start ws q, HJ.out, HK.out⟩
      case round =>
        clear HJ HK
        obtain ⟨y, m, rfl, hon, hJi, hki⟩ := hrel
        have HJ := Lib.hid hJi
        have HK := Lib.hid hki
        clear hJi hki
        by_cases hy0 : y = 0#64
        · have HN := Lib.hid (ones_end hon hy0)
          have hb : (U y == 0) = true := by subst hy0; rfl
          have hb2 : (U y != 0) = false := by subst hy0; rfl
          clear hon
          gi_wp2
          go_roundw
          case rel => exact ⟨q + 1, by omega, by go_num, by rw [HN.out]; exact HJ.out, HK.out⟩
          case measure => simp [intOf]; omega
        · obtain ⟨k1, k2', k3⟩ := ones_low hon hy0
          have HM := Lib.hid hon.1
          have HLESS := Lib.hid (low_less y hy0)
          have hyn : y.toNat ≠ 0 := fun h => hy0 (BitVec.eq_of_toNat_eq h)
          have hb : (U y == 0) = false := U_ne y hy0
          have hb2 : (U y != 0) = true := bne_of hb
          have hsub := sub_bit y
          have HTZ := Lib.hid (tz_any y.toNat y.isLt hyn wr (HST.out.keptX HK.out hB0 hg0 ht0).tab)
          have HON := Lib.hid k2'
          have HTK := Lib.hid k3
          have hlen2 : (takI (tk ws) (64 * q + m)).length < 1048576 := by have := takI_len (tk ws) (64 * q + m); have := HM.out; omega
          have hU : Value.int IntKind.u64 (U y) = .int .u64 (y.toNat : Int) := rfl
          clear hon hy0 k2' k3 hyn
          generalize hy2 : y &&& (y - 1#64) = y2 at *
          clear hy2
          generalize Lib.ctz 64 y.toNat = t at *
          have hcast : ((64 * q + t : Nat) : Int) = (q : Int) * 64 + (t : Int) := by omega
          obtain ⟨fn, tmps, assign, body, hyy, hR2⟩ := hY _ ((q : Int) * 64 + (t : Int)) wr HJ.out hlen2
          rw [hcast] at HTK
          clear hcast hlen2
          gi_wp2_with (refine ⟨trivial, ?_⟩; gi_at_call 30; refine (callsIn_wide.2 HTZ.out).mono ?_; rintro e w1 ⟨rfl, rfl⟩)
          refine hR2.mono ?_
          rintro e W3 (⟨rfl, hJ3, hk3⟩ | ⟨rfl, hJx3⟩)
          · rw [← HTK.out] at hJ3
            have HJ3 := Lib.hid hJ3
            have HK3 := Lib.hid (HK.out.trans hk3)
            clear hJ3 hk3
            gi_wp2
            go_roundw
            case rel => exact ⟨y2, t + 1, rfl, HON.out, HJ3.out, HK3.out⟩
            case measure => have := HLESS.out; simp only [intOf, U, Int.toNat_natCast]; exact this
          · have HX := Lib.hid hJx3
            clear hJx3
            gi_wp2
            refine bodyPost_ret (results_none rfl _ _ _) rfl ?_
            exact ⟨⟨_, rfl⟩, .inr ⟨_, HX.out⟩⟩
    · obtain rfl : q = ws.length := by omega
      have HJ := Lib.hid hJs
      clear hJs hnx
      gi_wp2
      go_end0
      exact ⟨⟨_, rfl⟩, .inl (by rw [← HFIN.out]; exact HJ.out)⟩

theorem taken1_stops (n s n₀ x B g c nn hand : Nat) (hn : 1 ≤ n) (ws : List (BitVec 64)) (w : World) (hs0 : s < n₀ ∧ s ≠ x) (hB0 : B < n₀ ∧ B ≠ x) (hg0 : g < n₀ ∧ g ≠ x) (ht0 : 0 < n₀ ∧ 0 ≠ x) (hn₀ : n₀ ≤ w.heap.size)
    (hS : w.cell? ⟨s, 0, none⟩ = some (.pointer (some ⟨B, 0, none⟩))) (hst : ST w B g c nn hand ws) :
    SeqStopsK Fence.wide n Tryd.prog 31 #[.pointer (some ⟨s, 0, none⟩)] (fun x : Int => #[Value.int .i64 x]) (KeptX n₀ x) (fun ys => ys = takI (tk ws) nn)
      (fun _ => True) 1048576 w := fun l J Jx W hW _ _ hY h0 => by
  have hW' : KeptX n₀ x w W := keptX_of_below (hW.mono hn₀)
  have c1 := (hW'.cell (p := ⟨s, 0, none⟩) hs0.1 hs0.2).trans hS
  refine (taken1_in n l s n₀ x B g c nn hand hn ws J Jx hs0 hB0 hg0 ht0 hY W c1 (hst.keptX hW' hB0 hg0 ht0) h0).mono ?_
  rintro e W' ⟨he, hj | ⟨pre, hj⟩⟩
  · exact ⟨he, .inl ⟨_, rfl, hj⟩⟩
  · exact ⟨he, .inr ⟨pre, trivial, hj⟩⟩

theorem infoInt7 : (Tryd.prog.info? 3).map (fun i => (i.zero, i.size, i.bytes)) = some (some (.int .i64 0), 1, 8) := by kernel_rfl

set_option maxRecDepth 100000 in
set_option maxHeartbeats 2000000 in
theorem all_any (B g nn hand : Nat) (f : Nat → Bool) (w : World) (h : SF w B g nn hand f) :
    Calls Tryd.prog 13 #[.pointer (some ⟨B, 0, none⟩)] w fun e W' => ∃ v, e = .returned v ∧ W'.ownsRow w.heap.size 3 1 v (takI f nn).length ((takI f nn).map (Value.int .i64)) ∧ w.grownBy W' none := by
  obtain ⟨i0, hi, hz0, hz1, hz2⟩ := info_parts infoInt7
  obtain ⟨c, ws, hst, hf⟩ := h
  rw [← show tk ws = f from funext hf]
  clear hf
  have HST := Lib.hid hst
  have HBL : Hid (B < w.heap.size) := Lib.hid hst.blk.lt
  have HGL : Hid (g < w.heap.size) := Lib.hid (by obtain ⟨rest, hr⟩ := hst.row; exact hr.lt)
  have HTL : Hid (0 < w.heap.size) := Lib.hid hst.tlt
  clear hst
  have hro : Fence.wide.round = none := rfl
  refine (callsIn_wide (n := 20)).1 ?_
  refine callsIn_of_wp_marks Tryd.func13 rfl trivial ?_ hro
  simp only [Tryd.ntmps13, List.size_toArray, List.length_cons, List.length_nil, Nat.reduceAdd, Nat.reduceSub, Array.replicate_succ, Array.replicate_zero, List.push_toArray, List.append_toArray, List.nil_append, List.cons_append]
  gi_wp2_with (refine ⟨trivial, ?_⟩; gi_at_call 27; refine (callsIn_wide.2 (taken_calls _ _)).mono ?_; rintro e w' ⟨rfl, rfl⟩)
  obtain ⟨w2, hw2⟩ : ∃ w2, (w.alloc (.cells #[.slice none 0 0] 31)).alloc (.cells #[.pointer (some ⟨B, 0, none⟩)] 23) = w2 := ⟨_, rfl⟩
  have hBw : Below w.heap.size w w2 := by rw [← hw2]; exact ((Below.refl _ w).alloc (Nat.le_refl _) _).alloc (by simp) _
  have hz : w2.heap.size = w.heap.size + 2 := by rw [← hw2]; simp
  have bO : Boxed w2 w.heap.size 31 (.slice none 0 0) := by rw [← hw2]; exact (Boxed.new w _ _).alloc _
  have hB1 : w2.cell? ⟨w.heap.size + 1, 0, none⟩ = some (.pointer (some ⟨B, 0, none⟩)) := by
    rw [← hw2]
    have h := Boxed.new (w.alloc (.cells #[.slice none 0 0] 31)) 23 (.pointer (some ⟨B, 0, none⟩))
    rw [World.size_alloc] at h
    exact h.cell
  rw [hw2]
  clear hw2
  have hst2 := HST.out.grown (grownBy_below hBw)
  refine wpIn_rangeFunc_ownG hro (by omega) (gf := 31) (lb := #[.pointer (some ⟨w.heap.size + 1, 0, none⟩)]) rfl trivial (enters_of Tryd.func31 (by kernel_rfl) rfl)
    (taken1_stops 19 (w.heap.size + 1) w2.heap.size w.heap.size B g c nn hand (by omega) ws w2 (by omega) (by have := HBL.out; omega) (by have := HGL.out; omega) (by have := HTL.out; omega) (Nat.le_refl _) hB1 hst2)
    KeptX.trans (KeptX.putObj (Nat.le_refl _)) (Below.refl _ _) (fun _ => rfl)
    (fun (pre : List Int) W => (∃ v, Boxed W w.heap.size 31 v ∧ W.ownsRow w2.heap.size 3 1 v pre.length (pre.map (Value.int .i64)) ∧ True) ∧ Below w.heap.size w2 W)
    (fun _ _ _ => False)
    (OwnFrom.and (Own.from (holdsRow_own w2.heap.size w.heap.size 31 3 1 (fun pre : List Int => pre.length) (fun pre : List Int => pre.map (Value.int .i64)) (fun _ _ => True)) _) (ownFrom_below (by omega) (by omega)))
    (fun _ _ _ _ _ hs _ _ => hs)
    ⟨⟨_, bO, World.ownsRow_nil _ _ _ _, trivial⟩, Below.refl _ _⟩
    ?a₁ ?assign ?body ?done ?stop
  case assign =>
    intro l x W K hK
    gi_wp2
    exact hK
  case body =>
    rintro l pre x W ⟨⟨v, hv, hrow, _⟩, hB⟩ hlt
    have hc := hv.cell
    have hws := hB.size
    gi_wp2_with (gi_at_builtin; refine wpListIn_append_own _ rfl _ _ 31 rfl w2.heap.size 3 i0 (.int .i64 0) 1 8 Tryd.underlying31 hi hz0 hz1 hz2 rfl (by decide) _ _ _ rfl (hrow.alloc _) ⟨W.heap.size, 0, none⟩ 1 1 [.int .i64 x] rfl rfl (cell_one_new _ _ _) (by simp [Value.oneCell']) (by unfold maxLen; omega) (by omega) (by simp; omega) ?_; intro v' w1 hown' hgrow _; obtain ⟨g', cap', rfl⟩ := ownsRow_succ hown'; obtain ⟨hv1, hv2, hr2, hk2, hx2, hb2⟩ := appendedX hv (by decide) hrow hws hown' hgrow; have hc1 := hv1.cell; have hf1 := hv1.frozen)
    exact ⟨hk2.from _, hx2, ⟨_, hv2, by simpa using hr2, trivial⟩, hB.trans (hb2 _ (Nat.le_refl _) (by omega))⟩
  case done =>
    rintro D ys W hD rfl ⟨⟨v, hv, hrow, _⟩, hB⟩ hK
    have hc := hv.cell
    gi_wp2
    refine ⟨by simp, .inl ⟨_, _, rfl, run_takeDeferred hK, ?_⟩⟩
    refine ⟨_, results_tmp rfl _ _ _, v, rfl, ?_, grownBy_below ((hBw.trans hB).trans (belowK_b (w := w) (Nat.le_refl _) W D _ _ (by omega) hK rfl rfl))⟩
    exact ownsRow_mono (ownsRow_putObj hrow (.deferred none) hK rfl) (by omega)
  case stop =>
    rintro D c pre W _ _ h _
    exact h.elim

end Go.Proofs.YtjbfnnfbdjjjbaaDoor
