/- A region that draws its order, whose operations read and whose callees make memory and hand back plain values: one walk of the text's order serves, in the class of worlds that have grown. -/
import Derived.WalkKit
import Derived.Deep.QuietTactic
import Derived.BigQuiet
import Derived.StillTail
import Derived.Test.YtddpjfmogjcimaaMem
namespace Go.Proofs.Ytddpjfmogjcimaa
open Go Go.RowKit

/-- The worlds that have grown from one: what was there is as it was. -/
def Grown (w : World) : Type := { w' : World // w.grownBy w' none }
instance (w : World) : Nonempty (Grown w) := ⟨⟨w, grownBy_refl w none⟩⟩
instance (w : World) : Inhabited (Grown w) := ⟨⟨w, grownBy_refl w none⟩⟩
def gw {w : World} (g : Grown w) : World := g.1
theorem gw_grown {w : World} (g : Grown w) : w.grownBy (gw g) none := g.2
theorem gw_cell {w : World} {p : Addr} {v : Value} (h : w.cell? p = some v) : ∀ g : Grown w, (gw g).cell? p = some v := fun g => g.2.cell h (by simp)

section
variable {P : Program} {w : World}
theorem wp_region_grown {id : Nat} {Q : Exit → Act → World → Prop} {a : Act} {l : List Oper} (hm : P.follows .mixedOrders = true) (hB : Region.lexB .any l.toArray = true)
    (h : wpQuiet P l.toArray (fun w' => ∃ g : Grown w, w' = gw g) (fun a' => ∀ w', (∃ g : Grown w, w' = gw g) → Q .normal a' w') l a) : (Code.region id l.toArray true).wp P Q a w :=
  wp_region_quiet (C := fun w' => ∃ g : Grown w, w' = gw g) hm hB ⟨⟨{ w with drawn := w.drawn + 1 }, grownBy_drewN w 1 none⟩, rfl⟩ (by simpa using h)

theorem calls_grown {f : FuncId} {args : Array Value} {v : Value} (h : ∀ W, w.grownBy W none → Calls P f args W fun e w' => e = .returned v ∧ W.grownBy w' none) (g : Grown w) :
    Calls P f args (gw g) fun e w'' => e = .returned v ∧ ∃ g' : Grown w, w'' = gw g' :=
  (h _ g.2).mono fun _ w' ⟨he, hg⟩ => ⟨he, ⟨w', grownBy_trans g.2 hg⟩, rfl⟩
theorem calls_grown' {f : FuncId} {args : Array Value} {v : Value} (h : ∀ W, Calls P f args W fun e w' => e = .returned v ∧ W.grownBy w' none) (g : Grown w) :
    Calls P f args (gw g) fun e w'' => e = .returned v ∧ ∃ g' : Grown w, w'' = gw g' := calls_grown (fun W _ => h W) g
end

/-- A quiet walk in one world is a still one. -/
theorem wpStill_of_quiet {P : Program} {ops : Array Oper} {w : World} {Q : Act → Prop} : ∀ (l : List Oper) (a : Act), wpQuiet P ops (fun w' => w' = w) Q l a → wpStill P ops w Q l a
  | [], _, h => h
  | o :: l, a, h => by
    simp only [wpQuiet] at h
    simp only [wpStill]
    split
    · rename_i hw
      rw [if_pos hw] at h
      obtain ⟨v, h1, h2⟩ := h
      have h3 := h1 w rfl
      have h4 := wpStill_of_quiet l _ h2
      unfold Oper.quietAt at h3
      unfold Oper.still
      generalize (execOp a.eval o).run P w = r at *
      cases r with
      | ok n w' =>
        cases n <;> simp only [Oper.quietUpon] at h3 <;> simp only [Oper.stillUpon]
        case value u => exact ⟨h3.1, by rw [h3.2]; exact h4⟩
        case skip => exact ⟨h3.1, by rw [← h3.2]; exact h4⟩
        case enter f args => exact ⟨h3.1, v, h3.2, h4⟩
      | halt x w' => simp only [Oper.quietUpon] at h3
    · rename_i hw
      rw [if_neg hw] at h
      exact wpStill_of_quiet l _ h

/-- A region that draws: reads (and calls that leave the world alone) ahead of a tail whose order is fixed. -/
theorem wp_region_quiet_tail {P : Program} {id : Nat} {Q : Exit → Act → World → Prop} {a : Act} {w : World} {l : List Oper} (n : Nat) (hm : P.follows .mixedOrders = true) (hB : Region.lexTailB .any l.toArray n = true)
    (h : wpQuiet P l.toArray (fun w' => w' = w.drew) (fun a' => wpList P l.toArray Q (l.drop n) a' w.drew) (l.take n) a) : (Code.region id l.toArray true).wp P Q a w :=
  wp_region_still_tail n hm hB (wpStill_of_quiet _ _ h)

end Go.Proofs.Ytddpjfmogjcimaa
