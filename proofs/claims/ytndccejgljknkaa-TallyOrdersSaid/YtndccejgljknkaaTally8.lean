/- The laws of layer 16: the walk of TallyMost. -/
import Derived.Test.YtndccejgljknkaaTally7
import Derived.OpenShut
namespace Go.Proofs.Ytndccejgljknkaa
open Go.RowKit Go.WideShapes Go.ChangeShapes Go.ChangeAt

theorem tl_set1 {w : World} {b a : Nat} {c v : Int} (h : TL w b a ([c].set 0 (capN ([c].getD 0 0) v))) : TL w b a [capN c v] := h

theorem ints_flat (xs : List Int) : xs.flatMap (fun x => [Value.int .i64 x]) = xs.map (Value.int .i64) := by induction xs <;> simp_all

set_option maxHeartbeats 1000000 in
theorem tallyMost_walk0 (xs : List Int) (a : Option Addr) (cap : Nat) (w : World) (hr : Rds w 1 (.slice a xs.length cap) xs.length (xs.map (Value.int .i64))) (hx : ∀ x ∈ xs, -9223372036854775808 ≤ x ∧ x ≤ 9223372036854775807) :
    Calls Try.prog 3 #[.slice a xs.length cap] w fun e w' => e = .returned (.bool true) ∧ Below w.heap.size w w' := by
  have hm := hr.2.1
  unfold maxLen at hm
  have hr0 := Lib.hid hr
  clear hr
  by_cases hlen : 100 < xs.length
  · have hlen' : (100 : Int) < xs.length := by omega
    go_enter Try.func3, Try.ntmps3
    go_wp2
    go_ret
    exact ⟨rfl, Below.refl _ _⟩
  · have hlen' : ¬ (100 : Int) < xs.length := by omega
    go_enter Try.func3, Try.ntmps3
    go_wp2_with (go_at_call 7; refine (new_tl 1 _ (by omega)).mono ?_; rintro e w1 ⟨rfl, t1, g1⟩)
    go_loopw [4] (fun i wr => ∃ (k : Nat) (c : Int), k ≤ xs.length ∧ i = .int .i64 k ∧ TL wr (w.heap.size + 1) w.heap.size [c] ∧ Below w.heap.size w wr) (fun i _ => xs.length - (intOf i).toNat)
    case atStart => exact ⟨0, 0, Nat.zero_le _, rfl, t1, below_grownBy g1⟩
    case round =>
      obtain ⟨k, c, hk, rfl, ht, hb⟩ := hrel
      have hcb := ht.good c (by simp)
      have HT := Lib.hid ht
      have HB := Lib.hid hb
      clear ht hb g1 t1
      by_cases hlt : k < xs.length
      · obtain ⟨b, off, rfl, _⟩ := hr0.out.at' (by omega)
        obtain ⟨b', off', he', hc⟩ := (hr0.out.later HB.out).at' (by omega)
        simp only [Option.some.injEq, Addr.mk.injEq] at he'
        obtain ⟨rfl, rfl, _⟩ := he'
        have hcell := hc k _ (getD_map_int xs k hlt)
        have hbl : b < w.heap.size := hr0.out.lt (by intro h; simp at h; subst h; simp at hlt) b rfl
        have hxb := hx (xs.getD k 0) (by simp [hlt, List.getD])
        clear hc hx
        generalize xs.getD k 0 = x at *
        by_cases hneg : x < 0
        · go_wp2_with (first
            | (go_at_call 8; refine (get_tl HT.out 0 (by simp)).mono ?_; rintro e w1 ⟨rfl, rfl⟩)
            | (go_at_call 9; refine (add_no HT.out 0 x (.inr hneg)).mono ?_; rintro e w1 ⟨rfl, rfl⟩))
          go_roundw
          case rel => exact ⟨k + 1, c, by omega, by go_num, HT.out, HB.out⟩
          case measure => simp [intOf]; omega
        · have hfin : (c + x ≤ 1152921504606846976 ∧ capN c x = c + x) ∨ (1152921504606846976 - c < x ∧ capN c x = 1152921504606846976) := by unfold capN; split <;> omega
          rcases hfin with ⟨hle, hcap⟩ | ⟨hle, hcap⟩
          · have b1 : ((c + x - c : Int) != x) = false := by simp; omega
            have b2 : (x != x) = false := by simp
            have HC := Lib.hid hcap
            clear hcap
            go_wp2_with fail
            refine (get_tl HT.out 0 (by simp)).mono ?_
            rintro e w1 ⟨rfl, rfl⟩
            go_wp2_with fail
            refine (add_tl HT.out 0 x (by simp) (by omega) (by omega)).mono ?_
            rintro e w1 ⟨rfl, t1, g1⟩
            have hcell2 := g1.cell hcell (by simp; omega)
            have t2 := tl_set1 t1
            rw [HC.out] at t2
            have HT2 := Lib.hid t2
            clear t1 t2
            go_wp2_with fail
            refine (get_tl HT2.out 0 (by simp)).mono ?_
            rintro e w2 ⟨rfl, rfl⟩
            go_wp2
            go_roundw
            case rel => exact ⟨k + 1, c + x, by omega, by go_num, HT2.out, HB.out.grown g1 HB.out.size (by simp)⟩
            case measure => simp [intOf]; omega
          · have b1 : ((1152921504606846976 - c : Int) != x) = true := by simp; omega
            have b2 : ((1152921504606846976 : Int) != 1152921504606846976) = false := by simp
            have HC := Lib.hid hcap
            clear hcap
            go_wp2_with fail
            refine (get_tl HT.out 0 (by simp)).mono ?_
            rintro e w1 ⟨rfl, rfl⟩
            go_wp2_with fail
            refine (add_tl HT.out 0 x (by simp) (by omega) (by omega)).mono ?_
            rintro e w1 ⟨rfl, t1, g1⟩
            have hcell2 := g1.cell hcell (by simp; omega)
            have t2 := tl_set1 t1
            rw [HC.out] at t2
            have HT2 := Lib.hid t2
            clear t1 t2
            go_wp2_with fail
            refine (get_tl HT2.out 0 (by simp)).mono ?_
            rintro e w2 ⟨rfl, rfl⟩
            go_wp2
            go_roundw
            case rel => exact ⟨k + 1, 1152921504606846976, by omega, by go_num, HT2.out, HB.out.grown g1 HB.out.size (by simp)⟩
            case measure => simp [intOf]; omega
      · obtain rfl : k = xs.length := by omega
        go_wp2_with (go_at_call 10; refine (awake_any _).mono ?_; rintro e w1 ⟨rfl, g1⟩)
        go_ret
        exact ⟨rfl, HB.out.grown g1 HB.out.size (by simp)⟩

theorem wf_i64 {x : Int} (h : (Lit.int .i64 x).wf = true) : -9223372036854775808 ≤ x ∧ x ≤ 9223372036854775807 := bounds_i64 h

section
variable {H : Type} {enc : TypeId × Value → H} {r : Reach} {b0 : Nat}
theorem tallyMost_walk (w : World) {v0 : Value} {d0 : DataW H} {p0 : List MemPlace} (k0 : Value.okWide Try.prog w r b0 22 v0)
    (h0 : DataW.Trod enc Try.prog w 0 (fun _ => true) true 22 v0 d0 p0) :
    Calls Try.prog 3 #[v0] w fun e w' => e = .returned (.bool true) ∧ Below w.heap.size w w' := by
  obtain ⟨xs, a, cap, rfl, hr, _, hg⟩ := arg_slice (fun x : Int => [Value.int .i64 x]) (fun x => (Lit.int .i64 x).wf = true) 1 (by omega) Try.underlying22 (by kernel_rfl) (fun _ => rfl) (el_int Try.underlying3) k0 h0
  rw [ints_flat] at hr
  exact tallyMost_walk0 xs a cap w hr (fun x hx => wf_i64 (hg x hx))
end

end Go.Proofs.Ytndccejgljknkaa
