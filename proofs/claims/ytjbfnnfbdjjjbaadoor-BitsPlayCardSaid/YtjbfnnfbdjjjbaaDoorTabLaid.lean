/- What the listed table gives a walk; the door's own heap meets the condition. -/
import Derived.Test.YtjbfnnfbdjjjbaaDoorTz
import Derived.Test.YtjbfnnfbdjjjbaaDoorRows
import Derived.ProofKit
import Derived.LaidMore
import Derived.OpenShut
import Derived.Stop.Joined
namespace Go.Proofs.YtjbfnnfbdjjjbaaDoor
open Go.ChangeShapes Go.WideShapes Go.ChangeAt Go.WideMaps Go.WideElems Go.RowKit

def laidT {H : Type} : List (String × DataW H) := [("math/bits.deBruijn64tab", Rows.laid_math_bits_deBruijn64tab)]
theorem tabG : Tryd.prog.globalNamed "math/bits.deBruijn64tab" = some 0 := by kernel_rfl
theorem tabTy : (Tryd.prog.globals[0]?).map (·.type) = some 62 := by kernel_rfl
theorem tabDat {H : Type} : (Rows.laid_math_bits_deBruijn64tab : DataW H) = .agg (Lib.deBruijn64tab.map fun k : Nat => .lit (.int .u8 (k : Int))) := rfl
theorem tabLen : Lib.deBruijn64tab.length = 64 := rfl
theorem door_met (os : Os) (args : Array Value) : laidMetH Tryd.prog laidT ((World.doorLaid Tryd.prog 14 os).forCall (fun _ _ => 0) ⟨#[], args, []⟩).memory :=
  laidMetH_of_parts3 (fuel := 8) (laidMet_of_run' 8 (by kernel_rfl) (by kernel_rfl)) (by kernel_rfl) (by kernel_rfl)

theorem tab_of_laid {W : World} (h : laidMetH Tryd.prog laidT W) : Tab W ∧ 0 < W.heap.size := by
  rw [MakeChecks.laidMetH_plain _ _ _ (by kernel_rfl)] at h
  obtain ⟨ps, ⟨g0, t0, cs0, f0, p0, q0, hg0, ht0, hv0, hd0, _, _⟩, _, _⟩ := h
  obtain rfl := Option.some.inj (tabG.symm.trans hg0)
  obtain rfl := Option.some.inj (tabTy.symm.trans ht0)
  have hT : Tab W := by
    obtain ⟨xs, m1, rfl, hx1, hlen, hn3, hel⟩ := DataW.trod_array Tryd.underlying62 hd0
    have c1 : Tryd.prog.cellsOf 5 = 1 := by kernel_rfl
    simp only [Prod.mk.injEq] at hx1
    have hx2 := hx1.1
    rw [tabDat, DataW.agg.injEq] at hx2
    intro j hj
    have h0 := hel j hj
    have hxj : j < xs.length := by omega
    rw [List.getElem?_eq_getElem hxj, c1] at h0
    obtain ⟨k, e1, e2, _⟩ := DataW.trod_int Tryd.underlying5 h0
    have hk : (xs.map (·.1))[j]? = some (.lit (.int .u8 k)) := by
      rw [List.getElem?_map, List.getElem?_eq_getElem hxj, e2]
      rfl
    rw [← hx2, List.getElem?_map, List.getElem?_eq_getElem (by rw [tabLen]; exact hj)] at hk
    have hk2 : k = ((Lib.deBruijn64tab.getD j 0 : Nat) : Int) := by
      rw [List.getD_eq_getElem?_getD, List.getElem?_eq_getElem (by rw [tabLen]; exact hj), Option.getD_some]
      simpa using hk.symm
    rw [World.var?_cell hg0 hv0 j, ← hk2]
    have h3 : ((cs0.toList.drop (j * 1)).take 1)[0]? = some (.int .u8 k) := by rw [e1]; rfl
    rw [List.getElem?_take, if_pos (by omega), List.getElem?_drop, Nat.mul_one, Nat.add_zero] at h3
    simpa using h3
  refine ⟨hT, ?_⟩
  have h0 := hT 0 (by omega)
  unfold World.cell? at h0
  apply Decidable.byContradiction
  intro hc
  rw [Array.getElem?_eq_none (by omega)] at h0
  cases h0

end Go.Proofs.YtjbfnnfbdjjjbaaDoor
