/- Layer 20: a document's acts that come in, their numbers in range. -/
import Derived.Test.YtbjpjnkaaiajlaaScL
namespace Go.Proofs.Ytbjpjnkaaiajlaa
open Go.RowKit Go.WideShapes Go.ChangeShapes Go.ChangeAt Go.Joins Go.Deep

def SAct.in64 (x : SAct) : Prop := (-9223372036854775808 ≤ x.n ∧ x.n ≤ 9223372036854775807) ∧ ∀ y ∈ x.ns, -9223372036854775808 ≤ y ∧ y ≤ 9223372036854775807
section
variable {H : Type} {enc : TypeId × Value → H} {r : Reach} {b0 : Nat}
set_option maxRecDepth 100000 in
theorem el_ract2 (w : World) (n : Nat) (cs' : List Value) (y : DataW H × List MemPlace) (h : DataW.trod enc Try.prog w 0 (fun _ => true) true n 38 cs' = some y) :
    ∃ x : SAct, cs' = x.rcells ∧ (x.rgood w ∧ x.in64) := by
  obtain ⟨y0, y1, y2, y3, y4, n', hl, h0, h1, h2, h3, h4⟩ := trod_struct5 Try.underlying38 h
  obtain ⟨c0, c1, c2, c3, c4, rfl⟩ := len5 cs' (hl.trans (by kernel_rfl))
  have k0 : Try.prog.cellsOf 3 = 1 := by kernel_rfl
  have k1 : Try.prog.cellsOf 9 = 1 := by kernel_rfl
  have k2 : Try.prog.cellsOf 33 = 1 := by kernel_rfl
  simp [k0, k1, k2] at h0 h1 h2 h3 h4
  obtain ⟨a0, e0, _, w0⟩ := DataW.trod_int Try.underlying3 h0
  obtain ⟨a3, e3, _, w3⟩ := DataW.trod_int Try.underlying3 h3
  obtain ⟨s1, e1, _, _⟩ := DataW.trod_string Try.underlying9 h1
  obtain ⟨s2, e2, _, _⟩ := DataW.trod_string Try.underlying9 h2
  simp at e0 e1 e2 e3
  subst e0 e1 e2 e3
  have hsl : ∃ a l c, c4 = .slice a l c := by
    rcases open_slice Try.underlying33 h4 with ⟨hcs, _⟩ | ⟨a, len, cap, m, n, D, Pl, hcs, _⟩
    · simp at hcs
      exact ⟨_, _, _, hcs⟩
    · simp at hcs
      exact ⟨_, _, _, hcs⟩
  obtain ⟨xs, a, cap, rfl, hr, _, hwf⟩ := open_slice_as (fun x : Int => [Value.int .i64 x]) (fun x => (Lit.int .i64 x).wf = true) 1 (by omega) Try.underlying33 (by kernel_rfl) (fun _ => rfl) (el_int Try.underlying3) h4
  have hfl : ∀ l : List Int, (l.flatMap fun x : Int => [Value.int .i64 x]) = intsV l := fun l => by
    induction l with
    | nil => rfl
    | cons x l ih => simp [intsV] at ih ⊢; exact ih
  rw [hfl] at hr
  refine ⟨⟨a0, s1.data.toList.map (fun b => b.toNat), s2.data.toList.map (fun b => b.toNat), a3, xs, none, none, a, 0, 0, cap⟩, ?_, ⟨fun y hy => ?_, fun y hy => ?_, hr⟩, ⟨bounds_i64 w3, fun y hy => bounds_i64 (hwf y hy)⟩⟩
  · unfold SAct.rcells
    dsimp only
    rw [strN_of, strN_of]
  · obtain ⟨b, _, rfl⟩ := List.mem_map.1 hy
    exact b.toNat_lt
  · obtain ⟨b, _, rfl⟩ := List.mem_map.1 hy
    exact b.toNat_lt

set_option maxRecDepth 100000 in
theorem arg_racts2 (w : World) {v0 : Value} {d0 : DataW H} {p0 : List MemPlace} (k0 : Value.okWide Try.prog w r b0 22 v0) (h0 : DataW.Trod enc Try.prog w 0 (fun _ => true) true 22 v0 d0 p0) :
    ∃ (l : List SAct) (a : Option Addr) (c : Nat), v0 = .slice a l.length c ∧ Rds w 5 (.slice a l.length c) l.length (ractsV l) ∧ l.length ≤ c ∧ ∀ x ∈ l, x.rgood w ∧ x.in64 := by
  obtain ⟨xs, a, cap, rfl, hr, hc, hg⟩ := arg_slice SAct.rcells (fun x => x.rgood w ∧ x.in64) 5 (by omega) Try.underlying22 (by kernel_rfl) (fun _ => rfl) (el_ract2 w) k0 h0
  exact ⟨xs, a, cap, rfl, hr, hc, hg⟩
end

end Go.Proofs.Ytbjpjnkaaiajlaa
