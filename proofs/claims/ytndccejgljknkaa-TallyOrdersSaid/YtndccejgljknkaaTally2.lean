/- The walks of tally.Since. -/
import Derived.Test.YtndccejgljknkaaProg
import Derived.Test.YtndccejgljknkaaIter
import Derived.Laws.EntriesVeiled
import Derived.Test.YtndccejgljknkaaTally
namespace Go.Proofs.Ytndccejgljknkaa
open Go.RowKit Go.Shelf
attribute [local go_sem] Oper.semAt_some

/-- How much a count is above another. -/
def over (c o : Int) : Int := c - min (max o 0) c

theorem of_in (Bs : Nat) (v : Value) (was : List Int) (k : Nat) (w : World) (hk : k ≤ maxLen) (hs : w.cell? ⟨Bs, 0, none⟩ = some v) (hr : Rds w 1 v was.length (was.map (Value.int .i64))) :
    Calls Try.prog 20 #[.int .i64 k, .pointer (some ⟨Bs, 0, none⟩)] w fun e w' => e = .returned (.int .i64 (was.getD k 0)) ∧ w = w' := by
  have hm := hr.2.1
  unfold maxLen at hm hk
  by_cases hlt : k < was.length
  · obtain ⟨b, off, cap, rfl, hc⟩ := hr.at (by omega)
    have hcell : w.cell? ⟨b, off + k, none⟩ = some (.int .i64 (was.getD k 0)) := hc k _ (by simp [hlt, List.getD])
    clear hc hr
    generalize was.getD k 0 = r at *
    go_enter Try.func20, Try.ntmps20
    go_wp2
    go_ret
    exact ⟨rfl, rfl⟩
  · have h0 : was.getD k 0 = 0 := by simp [List.getD, List.getElem?_eq_none (Nat.le_of_not_lt hlt)]
    rw [h0]
    obtain ⟨a, c, rfl⟩ := hr.slice
    clear h0 hr
    go_enter Try.func20, Try.ntmps20
    go_wp2
    go_ret
    exact ⟨rfl, rfl⟩

theorem above_calls (p : Addr) (a : Option Addr) (n c : Nat) (w : World) :
    Calls Try.prog 19 #[.pointer (some p), .slice a n c] w fun e w' => e = .returned (.func (.func 21) #[] #[.pointer (some ⟨w.heap.size, 0, none⟩), .pointer (some ⟨w.heap.size + 2, 0, none⟩)]) ∧
      w' = ((w.alloc (.cells #[.pointer (some p)] 23)).alloc (.cells #[.slice a n c] 22)).alloc (.cells #[.func (.func 20) #[] #[.pointer (some ⟨w.heap.size + 1, 0, none⟩)]] 25) := by
  go_enter Try.func19, Try.ntmps19
  go_wp2
  go_ret
  exact ⟨rfl, rfl⟩

/-- What the counts are above the others, one by one. -/
def sinceF (cs was : List Int) (k : Nat) : Int := over (cs.getD k 0) (was.getD k 0)

set_option maxRecDepth 100000 in
set_option maxHeartbeats 2000000 in
theorem above2_in (n l s n₀ x b a : Nat) (hn : 1 ≤ n) (sv : Value) (cs was : List Int) (hlen : cs.length ≤ 64) (hcs : ∀ c ∈ cs, 0 ≤ c ∧ c ≤ 1152921504606846976) (J Jx : List Int → World → Prop)
    (hs0 : s + 2 < n₀) (hsx : s ≠ x ∧ s + 1 ≠ x ∧ s + 2 ≠ x) (hb : b < n₀ ∧ b ≠ x) (ha : a < n₀ ∧ a ≠ x) (hsv : was.map (Value.int .i64) ≠ [] → ∀ k, sv.ownBlock = some k → k < n₀ ∧ k ≠ x)
    (hY : ∀ pre x' W, J pre W → pre.length < cs.length → YieldAt Fence.wide (n - 1) Try.prog l #[.int .i64 x'] W fun e W' =>
      (e = .returned (.bool true) ∧ J (pre ++ [x']) W' ∧ KeptX n₀ x W W') ∨ (e = .returned (.bool false) ∧ Jx (pre ++ [x']) W'))
    (W : World) (hB1 : W.cell? ⟨s, 0, none⟩ = some (.pointer (some ⟨b, 0, none⟩))) (hB2 : W.cell? ⟨s + 1, 0, none⟩ = some sv) (hB3 : W.cell? ⟨s + 2, 0, none⟩ = some (.func (.func 20) #[] #[.pointer (some ⟨s + 1, 0, none⟩)]))
    (hT : Blk W b 43 [.slice (some ⟨a, 0, none⟩) cs.length cs.length]) (hC : Blk W a 3 (cs.map (Value.int .i64))) (hR : Rds W 1 sv was.length (was.map (Value.int .i64))) (h0 : J [] W) :
    CallsIn Fence.wide n Try.prog 21 #[.func (.yield l) #[] #[], .pointer (some ⟨s, 0, none⟩), .pointer (some ⟨s + 2, 0, none⟩)] W fun e W' => (∃ v, e = .returned v) ∧
      ((∃ ys, ys = upto (sinceF cs was) cs.length ∧ J ys W') ∨ (∃ pre, (∃ k, k ≤ cs.length ∧ pre = upto (sinceF cs was) k) ∧ Jx pre W')) := by
  have hT0 : W.cell? ⟨b, 0, none⟩ = some (.slice (some ⟨a, 0, none⟩) cs.length cs.length) := hT.cell (j := 0) rfl
  refine callsIn_of_wp Try.func21 rfl trivial ?_ rfl
  simp only [Try.ntmps21, List.size_toArray, List.length_cons, List.length_nil, Nat.reduceAdd, Nat.reduceSub, Array.replicate_succ, Array.replicate_zero, List.push_toArray, List.append_toArray, List.nil_append, List.cons_append]
  gi_wp2
  gi_loopw [11] (fun i wr => ∃ k : Nat, k ≤ cs.length ∧ i = .int .i64 k ∧ J (upto (sinceF cs was) k) wr ∧ KeptX n₀ x W wr)
    (fun i _ => cs.length - (intOf i).toNat)
  case atStart => exact ⟨0, Nat.zero_le _, rfl, h0, KeptX.refl _ _ _⟩
  case round =>
    obtain ⟨k, hk, rfl, hJs, hnx⟩ := hrel
    by_cases hlt : k < cs.length
    · have hC' := hC.keptX hnx ha.1 ha.2
      have hcx : wr.cell? ⟨a, k, none⟩ = some (.int .i64 (cs.getD k 0)) := hC'.cell (by simp [hlt, List.getD])
      have h1 : wr.cell? ⟨s + 1, 0, none⟩ = some sv := (hnx.cell (p := ⟨s + 1, 0, none⟩) (by simp; omega) hsx.2.1).trans hB2
      have h2 : wr.cell? ⟨s + 2, 0, none⟩ = some (.func (.func 20) #[] #[.pointer (some ⟨s + 1, 0, none⟩)]) := (hnx.cell (p := ⟨s + 2, 0, none⟩) (by simp; omega) hsx.2.2).trans hB3
      have hR' := hR.keptX hnx hsv
      have hmem : cs.getD k 0 ∈ cs := by simp [hlt, List.getD]
      have hcb := hcs _ hmem
      have hsf : sinceF cs was k = over (cs.getD k 0) (was.getD k 0) := rfl
      obtain ⟨fn, tmps, assign, body, hy, hR2⟩ := hY _ (over (cs.getD k 0) (was.getD k 0)) wr hJs (by rw [upto_length]; exact hlt)
      have hofc := of_in (s + 1) sv was k wr (by unfold maxLen; omega) h1 hR'
      have hup := upto_succ (sinceF cs was) k
      rw [hsf] at hup
      have HUP := Lib.hid hup
      clear hup hsf hC' hR' hmem
      generalize cs.getD k 0 = c at *
      generalize was.getD k 0 = o at *
      have hcase : (o < 0 ∧ over c o = c) ∨ (0 ≤ o ∧ o ≤ c ∧ over c o = c - o) ∨ (0 ≤ o ∧ c < o ∧ over c o = 0) := by unfold over; omega
      rcases hcase with ⟨ho, ho2⟩ | ⟨ho, ho1, ho2⟩ | ⟨ho, ho1, ho2⟩
      all_goals
        rw [ho2] at hR2 hy HUP
        clear ho2
        gi_wp2_with (refine ⟨trivial, ?_⟩; gi_at_call 20; refine (callsIn_wide.2 hofc).mono ?_; rintro e w' ⟨rfl, rfl⟩)
        refine hR2.mono ?_
        rintro e W3 (⟨rfl, hJ3, hk3⟩ | ⟨rfl, hJx3⟩)
        · gi_wp2
          go_roundw
          case rel => exact ⟨k + 1, by omega, by simp, by rw [HUP.out]; exact hJ3, hnx.trans hk3⟩
          case measure => simp [intOf]; omega
        · gi_wp2
          refine bodyPost_ret (results_none rfl _ _ _) rfl ?_
          exact ⟨⟨_, rfl⟩, .inr ⟨_, ⟨k + 1, by omega, HUP.out.symm⟩, hJx3⟩⟩
    · obtain rfl : k = cs.length := by omega
      gi_wp2
      go_end0
      exact ⟨⟨_, rfl⟩, .inl ⟨_, rfl, hJs⟩⟩

theorem above2_stops (n s n₀ x b a : Nat) (hn : 1 ≤ n) (sv : Value) (cs was : List Int) (hlen : cs.length ≤ 64) (hcs : ∀ c ∈ cs, 0 ≤ c ∧ c ≤ 1152921504606846976) (w : World)
    (hs0 : s + 2 < n₀) (hsx : s ≠ x ∧ s + 1 ≠ x ∧ s + 2 ≠ x) (hb : b < n₀ ∧ b ≠ x) (ha : a < n₀ ∧ a ≠ x) (hsv : was.map (Value.int .i64) ≠ [] → ∀ k, sv.ownBlock = some k → k < n₀ ∧ k ≠ x) (hn₀ : n₀ ≤ w.heap.size)
    (hB1 : w.cell? ⟨s, 0, none⟩ = some (.pointer (some ⟨b, 0, none⟩))) (hB2 : w.cell? ⟨s + 1, 0, none⟩ = some sv) (hB3 : w.cell? ⟨s + 2, 0, none⟩ = some (.func (.func 20) #[] #[.pointer (some ⟨s + 1, 0, none⟩)]))
    (hT : Blk w b 43 [.slice (some ⟨a, 0, none⟩) cs.length cs.length]) (hC : Blk w a 3 (cs.map (Value.int .i64))) (hR : Rds w 1 sv was.length (was.map (Value.int .i64))) :
    SeqStopsK Fence.wide n Try.prog 21 #[.pointer (some ⟨s, 0, none⟩), .pointer (some ⟨s + 2, 0, none⟩)] (fun x : Int => #[Value.int .i64 x]) (KeptX n₀ x) (fun ys => ys = upto (sinceF cs was) cs.length)
      (fun pre => ∃ k, k ≤ cs.length ∧ pre = upto (sinceF cs was) k) cs.length w := fun l J Jx W hW _ _ hY h0 => by
  have hW' : KeptX n₀ x w W := keptX_of_below (hW.mono hn₀)
  exact above2_in n l s n₀ x b a hn sv cs was hlen hcs J Jx hs0 hsx hb ha hsv hY W ((hW'.cell (p := ⟨s, 0, none⟩) (by simp; omega) hsx.1).trans hB1) ((hW'.cell (p := ⟨s + 1, 0, none⟩) (by simp; omega) hsx.2.1).trans hB2) ((hW'.cell (p := ⟨s + 2, 0, none⟩) (by simp; omega) hsx.2.2).trans hB3)
    (hT.keptX hW' hb.1 hb.2) (hC.keptX hW' ha.1 ha.2) (hR.keptX hW' hsv) h0

end Go.Proofs.Ytndccejgljknkaa
