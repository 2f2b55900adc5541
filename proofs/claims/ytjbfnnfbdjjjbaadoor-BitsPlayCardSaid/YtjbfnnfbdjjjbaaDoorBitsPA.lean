/- Layer 7: the arguments of BitsPlay. -/
import Derived.Test.YtjbfnnfbdjjjbaaDoorBitsP
namespace Go.Proofs.YtjbfnnfbdjjjbaaDoor
open Go.RowKit Go.WideShapes Go.ChangeShapes Go.ChangeAt Go.Joins Go.Deep

section
variable {H : Type} {enc : TypeId × Value → H} {r : Reach} {b0 : Nat}
theorem len2 {α : Type} (l : List α) (h : l.length = 2) : ∃ a b, l = [a, b] := by
  match l, h with
  | [a, b], _ => exact ⟨a, b, rfl⟩
set_option maxRecDepth 100000 in
theorem el_act (w : World) (n : Nat) (cs' : List Value) (y : DataW H × List MemPlace) (h : DataW.trod enc Tryd.prog w 0 (fun _ => true) true n 40 cs' = some y) :
    ∃ x : Int × Int, cs' = actV x ∧ (-9223372036854775808 ≤ x.1 ∧ x.1 ≤ 9223372036854775807) := by
  obtain ⟨y0, y1, n', hx, hl, h0, h1⟩ := trod_struct2 Tryd.underlying40 h
  obtain ⟨c0, c1, rfl⟩ := len2 cs' (hl.trans (by kernel_rfl))
  have k1 : Tryd.prog.cellsOf 3 = 1 := by kernel_rfl
  simp [k1] at h0 h1
  obtain ⟨a0, e0, _, w0⟩ := DataW.trod_int Tryd.underlying3 h0
  obtain ⟨a1, e1, _, _⟩ := DataW.trod_int Tryd.underlying3 h1
  simp at e0 e1
  subst e0 e1
  have hb := bounds_i64 w0
  exact ⟨⟨a0, a1⟩, rfl, hb.1, hb.2⟩
set_option maxRecDepth 100000 in
theorem bitsPlay_walk (w : World) (hT : Tab w) (hG : 0 < w.heap.size) {v0 v1 : Value} {d0 d1 : DataW H} {p0 p1 : List MemPlace} (k0 : Value.okWide Tryd.prog w r b0 3 v0) (k1 : Value.okWide Tryd.prog w r b0 35 v1)
    (h0 : DataW.Trod enc Tryd.prog w 0 (fun _ => true) true 3 v0 d0 p0) (h1 : DataW.Trod enc Tryd.prog w 0 (fun _ => true) true 35 v1 d1 p1) :
    Calls Tryd.prog 5 #[v0, v1] w fun e w' => e = .returned (.bool true) ∧ Below w.heap.size w w' := by
  obtain ⟨x, rfl, _, _⟩ := arg_int w k0 h0
  obtain ⟨xs, a, cap, rfl, hr, _, hg⟩ := arg_slice actV (fun x : Int × Int => -9223372036854775808 ≤ x.1 ∧ x.1 ≤ 9223372036854775807) 2 (by omega) Tryd.underlying35 (by kernel_rfl) (fun _ => rfl) (el_act w) k1 h1
  exact bitsPlay_walk0 x xs a cap w hg hr hT hG
end

end Go.Proofs.YtjbfnnfbdjjjbaaDoor
