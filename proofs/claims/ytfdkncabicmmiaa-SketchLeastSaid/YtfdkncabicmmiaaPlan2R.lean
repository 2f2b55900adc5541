/- Plan2In's law in a round of a loop over a function. -/
import Derived.Test.YtfdkncabicmmiaaPlan2In
namespace Go.Proofs.Ytfdkncabicmmiaa
open Go

section
variable {F : Fence} {fn : Nat} {P : Program} {ops : Array Oper} {Q : Exit → Act → World → Prop} {md : Region.Mode}

def noDefer (ops : Array Oper) : Bool := ops.all fun o => match o.op with | .defer _ => false | _ => true
theorem noDefer_at {i : Nat} {o : Oper} (h : noDefer ops = true) (ho : ops[i]? = some o) : ∀ c, o.op ≠ .defer c := by
  intro c hc
  have := Array.all_eq_true'.1 h o (Array.mem_of_getElem? ho)
  rw [hc] at this
  cases this

theorem wpOpIn_round {i l : Nat} {K K' : Act → World → Prop} {a : Act} {w : World} (hro : F.round = none) (hnd : noDefer ops = true) (hK : ∀ a w, K a w → K' a w) (h : wpOpIn F fn P ops Q i K a w) : wpOpIn (F.inRound l) fn P ops Q i K' a w := by
  have h := wpOpIn_mono hK h
  unfold wpOpIn at *
  cases ho : ops[i]? with
  | none => rw [ho] at h; exact h
  | some o =>
    rw [ho] at h
    simp only at h ⊢
    split
    · rename_i hw
      rw [if_pos hw] at h
      unfold Oper.wpIn at *
      rw [hro, Oper.semAt_none] at h
      rw [Fence.inRound_round, Oper.semAt_some l _ _ (noDefer_at hnd ho)]
      exact h
    · rename_i hw
      rw [if_neg hw] at h
      exact h
theorem wpAnyIn_round {l : Nat} (hro : F.round = none) (hnd : noDefer ops = true) : ∀ (fuel : Nat) (listed : Array Bool) (a : Act) (w : World), wpAnyIn F fn P md ops Q fuel listed a w → wpAnyIn (F.inRound l) fn P md ops Q fuel listed a w
  | 0, _, _, _, h => h
  | fuel + 1, _, _, _, h => ⟨h.1, fun i hi => wpOpIn_round hro hnd (fun a' w' h' => wpAnyIn_round hro hnd fuel _ a' w' h') (h.2 i hi)⟩
end

/-- **A region that draws its order, by a plan, in a round.** -/
theorem wpIn_region_planR {F : Fence} {fn l0 : Nat} {P : Program} {l : List Oper} {Q : Exit → Act → World → Prop} {id : Nat} {a : Act} {w : World} (S : World → Prop) (plan : List (List Nat × Nat × Bool)) (hro : F.round = none) (hm : P.follows .mixedOrders = true) (hB : (noDefer l.toArray && planDAll l plan) = true)
    (h : wpPlanDIn F fn P l (NoPanic Q) S plan a w.drew) : (Code.region id l.toArray true).wpIn (F.inRound l0) fn P Q a w := by
  simp only [planDAll, Bool.and_eq_true, decide_eq_true_eq] at hB
  obtain ⟨hnd, ⟨hsel, hp⟩, hlen⟩ := hB
  refine Code.wpIn_mono NoPanic.imp (wpIn_region_any hm (wpAnyIn_round hro hnd _ _ _ _ (wpAnyIn_of_D (S := S) (R := planReads plan) _ _ _ _ ?_)))
  have inv0 : Closed .any l.toArray (Array.replicate l.toArray.size false) := fun j oj _ hl => (by rw [getD_replicate_false] at hl; cases hl)
  have := wpAnyDIn_plan (F := F) (fn := fn) (P := P) (Q := NoPanic Q) (S := S) (R := planReads plan) (md := .any) hro hsel (fun c a a' w h => h) plan (Array.replicate l.toArray.size false) a w.drew inv0 hp h
  rw [hlen] at this
  exact this

end Go.Proofs.Ytfdkncabicmmiaa
