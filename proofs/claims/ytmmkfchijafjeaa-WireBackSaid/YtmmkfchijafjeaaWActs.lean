/- Layer 3: the calls that come in. -/
import Derived.Lib.SmallJoins
import Derived.Test.YtmmkfchijafjeaaWireN
import Derived.Test.YtmmkfchijafjeaaArgBs
import Derived.Test.YtmmkfchijafjeaaGrown
namespace Go.Proofs.Ytmmkfchijafjeaa
open Go.RowKit Go.WideShapes Go.ChangeShapes Go.ChangeAt Go.Joins Go.Deep

/-- A call: its kind, a count of bytes, a number, bytes (and where they lie). -/
structure WAct where
  k : Int
  b : Int
  n : Nat
  B : List Nat
  a : Option Addr
  c : Nat
def WAct.zero : WAct := ⟨0, 0, 0, [], none, 0⟩
instance : Inhabited WAct := ⟨WAct.zero⟩
def WAct.cells (x : WAct) : List Value := [.int .i64 x.k, .int .i64 x.b, .int .u64 (x.n : Int), .slice x.a x.B.length x.c]
def actsV (l : List WAct) : List Value := l.flatMap WAct.cells
/-- What is known of a call's parts in a world. -/
def WAct.good (w : World) (x : WAct) : Prop := (-9223372036854775808 ≤ x.k ∧ x.k ≤ 9223372036854775807) ∧ (-9223372036854775808 ≤ x.b ∧ x.b ≤ 9223372036854775807) ∧ x.n < 18446744073709551616 ∧ Rds w 1 (.slice x.a x.B.length x.c) x.B.length (bytesV x.B) ∧ ∀ y ∈ x.B, y < 256
theorem WAct.good_grown {w w' : World} {x : WAct} (h : x.good w) (hg : w.grownBy w' none) : x.good w' := ⟨h.1, h.2.1, h.2.2.1, h.2.2.2.1.grown hg (by simp), h.2.2.2.2⟩
theorem actsV_cells (l : List WAct) (i : Nat) (h : i < l.length) : (actsV l)[i * 4]? = some (.int .i64 (l.getD i WAct.zero).k) ∧ (actsV l)[i * 4 + 1]? = some (.int .i64 (l.getD i WAct.zero).b) ∧ (actsV l)[i * 4 + 2]? = some (.int .u64 ((l.getD i WAct.zero).n : Int)) ∧ (actsV l)[i * 4 + 3]? = some (.slice (l.getD i WAct.zero).a (l.getD i WAct.zero).B.length (l.getD i WAct.zero).c) := by
  have h1 : l[i]? = some (l.getD i WAct.zero) := by simp [List.getD, h]
  exact ⟨flatMap_get WAct.cells 4 (fun _ => rfl) l i 0 _ h1 (by omega), flatMap_get WAct.cells 4 (fun _ => rfl) l i 1 _ h1 (by omega), flatMap_get WAct.cells 4 (fun _ => rfl) l i 2 _ h1 (by omega), flatMap_get WAct.cells 4 (fun _ => rfl) l i 3 _ h1 (by omega)⟩
theorem acts_mem (l : List WAct) (i : Nat) (h : i < l.length) : l.getD i WAct.zero ∈ l := by simp [List.getD, h]
theorem act_take (l : List WAct) (k : Nat) (h : k < l.length) : l.take (k + 1) = l.take k ++ [l.getD k WAct.zero] := by
  rw [List.take_succ_eq_append_getElem h]
  simp [List.getD, h]

def lightB (l : List WAct) : Bool := decide (l.length ≤ 40) && l.all fun x => decide (x.B.length ≤ 300)
theorem lightB_len {l : List WAct} (h : lightB l = true) : l.length ≤ 40 := by
  unfold lightB at h
  rw [Bool.and_eq_true] at h
  exact of_decide_eq_true h.1
theorem lightB_at {l : List WAct} (h : lightB l = true) : ∀ x ∈ l, x.B.length ≤ 300 := by
  unfold lightB at h
  rw [Bool.and_eq_true, List.all_eq_true] at h
  exact fun x hx => of_decide_eq_true (h.2 x hx)

set_option maxRecDepth 100000 in
theorem light_any (l : List WAct) (a : Option Addr) (c : Nat) (w : World) (hr : Rds w 4 (.slice a l.length c) l.length (actsV l)) (hg : ∀ x ∈ l, x.good w) :
    Calls Try.prog 9 #[.slice a l.length c] w fun e w' => e = .returned (.bool (lightB l)) ∧ w = w' := by
  have hm := hr.2.1
  unfold maxLen at hm
  by_cases h40 : 40 < l.length
  · have hf : lightB l = false := by unfold lightB; rw [decide_eq_false (by omega)]; rfl
    rw [hf]
    have h41 : (40 : Int) < (l.length : Int) := by omega
    clear hf hr hg h40
    go_enter Try.func9, Try.ntmps9
    go_wp2
    go_ret
    exact ⟨rfl, rfl⟩
  have hle : l.length ≤ 40 := by omega
  have HR := Lib.hid hr
  have HG := Lib.hid hg
  clear hr hg h40
  go_enter Try.func9, Try.ntmps9
  go_wp2
  go_loop [3] (fun i => ∃ j : Nat, j ≤ l.length ∧ i = .int .i64 j ∧ ∀ i, i < j → (l.getD i WAct.zero).B.length ≤ 300) (fun i => l.length - (intOf i).toNat)
  case atStart => exact ⟨0, by omega, rfl, fun i hi => absurd hi (by omega)⟩
  case round =>
    obtain ⟨j, hj, rfl, hok⟩ := hrel
    have OK := Lib.hid hok
    clear hok
    by_cases hlt : j < l.length
    · obtain ⟨b, o, rfl, hc⟩ := HR.out.at' (by omega)
      have x3 := hc _ _ (actsV_cells l j hlt).2.2.2
      simp only [← Nat.add_assoc] at x3
      have hmx := (HG.out _ (acts_mem l j hlt)).2.2.2.1.2.1
      unfold maxLen at hmx
      have HM := Lib.hid (acts_mem l j hlt)
      have HX : Hid (l.getD j WAct.zero = l.getD j WAct.zero) := Lib.hid rfl
      clear hc
      by_cases hbig : 300 < (l.getD j WAct.zero).B.length
      · have hf : Hid (lightB l = false) := Lib.hid (by
          unfold lightB
          rw [Bool.and_eq_false_iff]
          right
          rw [List.all_eq_false]
          exact ⟨_, HM.out, by simp only [decide_eq_true_eq]; omega⟩)
        have hb2 : (300 : Int) < ((l.getD j WAct.zero).B.length : Int) := by omega
        clear hbig HX
        generalize (l.getD j WAct.zero).a = xa at *
        generalize (l.getD j WAct.zero).c = xc at *
        generalize (l.getD j WAct.zero).B.length = xn at *
        go_wp2
        go_ret
        exact ⟨by rw [hf.out]; rfl, rfl⟩
      · have hnx : Hid (∀ i, i < j + 1 → (l.getD i WAct.zero).B.length ≤ 300) := Lib.hid (fun i hi => by
          by_cases hij : i < j
          · exact OK.out i hij
          · obtain rfl : i = j := by omega
            omega)
        have hb2 : ((l.getD j WAct.zero).B.length : Int) ≤ 300 := by omega
        clear hbig HX HM
        generalize (l.getD j WAct.zero).a = xa at *
        generalize (l.getD j WAct.zero).c = xc at *
        generalize hxn : (l.getD j WAct.zero).B.length = xn at x3 hb2 hmx
        clear hxn
        go_wp2
        go_round
        case rel => exact ⟨j + 1, by omega, by go_num, hnx.out⟩
        case measure => simp [intOf]; omega
    · obtain rfl : j = l.length := by omega
      have hf : Hid (lightB l = true) := Lib.hid (by
        unfold lightB
        rw [decide_eq_true hle, Bool.true_and, List.all_eq_true]
        intro x hx
        obtain ⟨i, hi, rfl⟩ := List.getElem_of_mem hx
        have := OK.out i hi
        simp only [List.getD, List.getElem?_eq_getElem hi, Option.getD_some] at this
        exact decide_eq_true this)
      go_wp2
      go_ret
      exact ⟨by rw [hf.out]; rfl, rfl⟩

section
variable {H : Type} {enc : TypeId × Value → H} {r : Reach} {b0 : Nat}
theorem len4' {α : Type} (l : List α) (h : l.length = 4) : ∃ a b c d, l = [a, b, c, d] := by
  match l, h with
  | [a, b, c, d], _ => exact ⟨a, b, c, d, rfl⟩
set_option maxRecDepth 100000 in
theorem el_act (w : World) (n : Nat) (cs' : List Value) (y : DataW H × List MemPlace) (h : DataW.trod enc Try.prog w 0 (fun _ => true) true n 31 cs' = some y) :
    ∃ x : WAct, cs' = x.cells ∧ x.good w := by
  obtain ⟨y0, y1, y2, y3, n', hx, hl, h0, h1, h2, h3⟩ := trod_struct4 Try.underlying31 h
  obtain ⟨c0, c1, c2, c3, rfl⟩ := len4' cs' (hl.trans (by kernel_rfl))
  have k0 : Try.prog.cellsOf 29 = 1 := by kernel_rfl
  have k1 : Try.prog.cellsOf 3 = 1 := by kernel_rfl
  have k2 : Try.prog.cellsOf 26 = 1 := by kernel_rfl
  simp [k0, k1, k2] at h0 h1 h2 h3
  obtain ⟨a0, e0, _, w0⟩ := DataW.trod_int Try.underlying3 h0
  obtain ⟨a1, e1, _, w1⟩ := DataW.trod_int Try.underlying3 h1
  obtain ⟨a2, e2, _, w2⟩ := DataW.trod_int Try.underlying29 h2
  simp at e0 e1 e2
  subst e0 e1 e2
  have hsl : ∃ a l c, c3 = .slice a l c := by
    rcases open_slice Try.underlying26 h3 with ⟨hcs, _⟩ | ⟨a, len, cap, m, n, D, Pl, hcs, _⟩
    · simp at hcs
      exact ⟨_, _, _, hcs⟩
    · simp at hcs
      exact ⟨_, _, _, hcs⟩
  obtain ⟨xs, a, cap, rfl, hr, _, hg⟩ := open_slice_as (fun x : Nat => [Value.int .u8 (x : Int)]) (fun x => x < 256) 1 (by omega) Try.underlying26 (by kernel_rfl) (fun _ => rfl) (fun n cs' y h => by
    obtain ⟨x, e, wf⟩ := el_int Try.underlying5 n cs' y h
    have hb := bounds_u8 wf
    obtain ⟨m, rfl⟩ := Int.eq_ofNat_of_zero_le hb.1
    exact ⟨m, e, by omega⟩) h3
  have b0 := bounds_i64 w0
  have b1 := bounds_i64 w1
  have b2 := bounds_u64 w2
  obtain ⟨q, rfl⟩ := Int.eq_ofNat_of_zero_le b2.1
  rw [bytesV_flat] at hr
  exact ⟨⟨a0, a1, q, xs, a, cap⟩, rfl, ⟨b0.1, b0.2⟩, ⟨b1.1, b1.2⟩, by have := b2.2; simp only; omega, hr, hg⟩

set_option maxRecDepth 100000 in
theorem arg_acts (w : World) {v0 : Value} {d0 : DataW H} {p0 : List MemPlace} (k0 : Value.okWide Try.prog w r b0 22 v0) (h0 : DataW.Trod enc Try.prog w 0 (fun _ => true) true 22 v0 d0 p0) :
    ∃ (l : List WAct) (a : Option Addr) (c : Nat), v0 = .slice a l.length c ∧ Rds w 4 (.slice a l.length c) l.length (actsV l) ∧ ∀ x ∈ l, x.good w := by
  obtain ⟨xs, a, cap, rfl, hr, _, hg⟩ := arg_slice WAct.cells (fun x => x.good w) 4 (by omega) Try.underlying22 (by kernel_rfl) (fun _ => rfl) (el_act w) k0 h0
  exact ⟨xs, a, cap, rfl, hr, hg⟩
end

end Go.Proofs.Ytmmkfchijafjeaa
