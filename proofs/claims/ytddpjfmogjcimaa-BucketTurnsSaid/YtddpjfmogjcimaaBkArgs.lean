/- A document's bucket that comes in. -/
import Derived.Lib.SmallJoins
import Derived.Test.YtddpjfmogjcimaaEnt
import Derived.Test.YtddpjfmogjcimaaArgI
namespace Go.Proofs.Ytddpjfmogjcimaa
open Go.RowKit Go.WideShapes Go.ChangeShapes Go.ChangeAt Go.Joins Go.Deep

section
variable {H : Type} {enc : TypeId × Value → H} {r : Reach} {b0 : Nat}

theorem len4 {α : Type} (l : List α) (h : l.length = 4) : ∃ a b c d, l = [a, b, c, d] := by
  match l, h with
  | [a, b, c, d], _ => exact ⟨a, b, c, d, rfl⟩

set_option maxRecDepth 100000 in
theorem el_ent (w : World) (n : Nat) (cs' : List Value) (y : DataW H × List MemPlace) (h : DataW.trod enc Try.prog w 0 (fun _ => true) true n 44 cs' = some y) :
    ∃ x : Ent, cs' = x.cells ∧ True := by
  obtain ⟨y0, y1, y2, y3, n', hx, hl, h0, h1, h2, h3⟩ := trod_struct4 Try.underlying44 h
  obtain ⟨c0, c1, c2, c3, rfl⟩ := len4 cs' (hl.trans (by kernel_rfl))
  have k0 : Try.prog.cellsOf 37 = 1 := by kernel_rfl
  have k1 : Try.prog.cellsOf 3 = 1 := by kernel_rfl
  simp [k0, k1] at h0 h1 h2 h3
  obtain ⟨a0, e0, _, w0⟩ := DataW.trod_int Try.underlying37 h0
  obtain ⟨a1, e1, _, _⟩ := DataW.trod_int Try.underlying3 h1
  obtain ⟨a2, e2, _, _⟩ := DataW.trod_int Try.underlying3 h2
  obtain ⟨a3, e3, _, _⟩ := DataW.trod_int Try.underlying3 h3
  simp at e0 e1 e2 e3
  subst e0 e1 e2 e3
  have hb := bounds_u64 w0
  obtain ⟨x, rfl⟩ := U_ex a0 hb.1 hb.2
  exact ⟨⟨x, a1, a2, a3⟩, rfl, trivial⟩

set_option maxRecDepth 100000 in
theorem arg_bucket (w : World) {v0 : Value} {d0 : DataW H} {p0 : List MemPlace} (k0 : Value.okWide Try.prog w r b0 24 v0) (h0 : DataW.Trod enc Try.prog w 0 (fun _ => true) true 24 v0 d0 p0) :
    ∃ (d p : Int) (xs : List Ent) (a : Option Addr) (c : Nat), v0 = .agg #[.int .i64 d, .int .i64 p, .slice a xs.length c] ∧ Rds w 4 (.slice a xs.length c) xs.length (entsV xs) := by
  obtain ⟨v0, v1, v2, y0, y1, y2, n, rfl, _, _, h0, h1, h2⟩ := open_agg3 Try.underlying24 (by kernel_rfl) (by kernel_rfl) k0 h0
  obtain ⟨a0, e0, _, _⟩ := DataW.trod_int Try.underlying3 h0
  obtain ⟨a1, e1, _, _⟩ := DataW.trod_int Try.underlying3 h1
  simp at e0 e1
  subst e0 e1
  have hsl : ∃ a l c, v2 = .slice a l c := by
    rcases open_slice Try.underlying22 h2 with ⟨hcs, _⟩ | ⟨a, len, cap, m, n, D, Pl, hcs, _⟩
    · simp at hcs
      exact ⟨_, _, _, hcs⟩
    · simp at hcs
      exact ⟨_, _, _, hcs⟩
  obtain ⟨xs, a, cap, rfl, hr, _, _⟩ := open_slice_as Ent.cells (fun _ => True) 4 (by omega) Try.underlying22 (by kernel_rfl) (fun _ => rfl) (el_ent w) h2
  exact ⟨a0, a1, xs, a, cap, rfl, hr⟩
end

end Go.Proofs.Ytddpjfmogjcimaa
