/- Layer 14: BucketTurns: both walks joined; its arguments. -/
import Derived.Test.YtddpjfmogjcimaaTurnsF
import Derived.Test.YtddpjfmogjcimaaTurnsT
namespace Go.Proofs.Ytddpjfmogjcimaa
open Go Go.RowKit Go.WideShapes Go.ChangeShapes Go.ChangeAt

theorem bucketTurns_walk0 (d p : Int) (xs : List Ent) (a : Option Addr) (c : Nat) (x : Ent) (o : Int) (w : World) (hr : Rds w 4 (.slice a xs.length c) xs.length (entsV xs)) :
    Calls Try.prog 8 #[.agg #[.int .i64 d, .int .i64 p, .slice a xs.length c], x.val, .int .i64 o] w fun e w' => e = .returned (.bool true) ∧ Below w.heap.size w w' := by
  by_cases h : ∃ i, Plc xs (U x.h) i ∧ hasB xs (U x.h) i = true
  · obtain ⟨i, hp, hb⟩ := h
    exact bucketTurns_T d p xs a c x o w hr (fun j hj => by rw [plc_unique hj hp]; exact hb)
  · refine bucketTurns_F d p xs a c x o w hr (fun j hj => ?_)
    cases hb : hasB xs (U x.h) j
    · rfl
    · exact absurd ⟨j, hj, hb⟩ h

section
variable {H : Type} {enc : TypeId × Value → H} {r : Reach} {b0 : Nat}
set_option maxRecDepth 100000 in
theorem bucketTurns_walk (w : World) {v0 v1 v2 : Value} {d0 d1 d2 : DataW H} {p0 p1 p2 : List MemPlace} (k0 : Value.okWide Try.prog w r b0 24 v0) (k1 : Value.okWide Try.prog w r b0 44 v1) (k2 : Value.okWide Try.prog w r b0 3 v2)
    (h0 : DataW.Trod enc Try.prog w 0 (fun _ => true) true 24 v0 d0 p0) (h1 : DataW.Trod enc Try.prog w 0 (fun _ => true) true 44 v1 d1 p1) (h2 : DataW.Trod enc Try.prog w 0 (fun _ => true) true 3 v2 d2 p2) :
    Calls Try.prog 8 #[v0, v1, v2] w fun e w' => e = .returned (.bool true) ∧ Below w.heap.size w w' := by
  obtain ⟨d, p, xs, a, c, rfl, hr⟩ := arg_bucket w k0 h0
  obtain ⟨x, rfl⟩ := arg_entry w k1 h1
  obtain ⟨o, rfl, _⟩ := arg_int w k2 h2
  exact bucketTurns_walk0 d p xs a c x o w hr
end

end Go.Proofs.Ytddpjfmogjcimaa
