/- A region that draws its order, whose operations read and whose callees make memory and hand back plain values: one walk of the text's order serves, in the class of worlds that have grown. -/
import Derived.WalkKit
import Derived.Deep.QuietTactic
import Derived.BigQuiet
import Derived.Test.YtddpjfmogjcimaaMem
namespace Go.Proofs.Ytddpjfmogjcimaa
open Go Go.RowKit

/-- The worlds that have grown from one: what was there is as it was. -/
def Grown (w : World) : Type := { w' : World // w.grownBy w' none }
instance (w : World) : Nonempty (Grown w) := ⟨⟨w, grownBy_refl w none⟩⟩
instance (w : World) : Inhabited (Grown w) := ⟨⟨w, grownBy_refl w none⟩⟩
def gw {w : World} (g : Grown w) : World := g.1
theorem gw_grown {w : World} (g : Grown w) : w.grownBy (gw g) none := g.2
theorem gw_cell {w : World} {p : Addr} {v : Value} (h : w.cell? p = some v) : ∀ g : Grown w, (gw g).cell? p = some v := fun g => g.2.cell h (by simp)

section
variable {P : Program} {w : World}
theorem wp_region_grown {id : Nat} {Q : Exit → Act → World → Prop} {a : Act} {l : List Oper} (hm : P.follows .mixedOrders = true) (hB : Region.lexB .any l.toArray = true)
    (h : wpQuiet P l.toArray (fun w' => ∃ g : Grown w, w' = gw g) (fun a' => ∀ w', (∃ g : Grown w, w' = gw g) → Q .normal a' w') l a) : (Code.region id l.toArray true).wp P Q a w :=
  wp_region_quiet (C := fun w' => ∃ g : Grown w, w' = gw g) hm hB ⟨⟨{ w with drawn := w.drawn + 1 }, grownBy_drewN w 1 none⟩, rfl⟩ (by simpa using h)

theorem calls_grown {f : FuncId} {args : Array Value} {v : Value} (h : ∀ W, w.grownBy W none → Calls P f args W fun e w' => e = .returned v ∧ W.grownBy w' none) (g : Grown w) :
    Calls P f args (gw g) fun e w'' => e = .returned v ∧ ∃ g' : Grown w, w'' = gw g' :=
  (h _ g.2).mono fun _ w' ⟨he, hg⟩ => ⟨he, ⟨w', grownBy_trans g.2 hg⟩, rfl⟩
theorem calls_grown' {f : FuncId} {args : Array Value} {v : Value} (h : ∀ W, Calls P f args W fun e w' => e = .returned v ∧ W.grownBy w' none) (g : Grown w) :
    Calls P f args (gw g) fun e w'' => e = .returned v ∧ ∃ g' : Grown w, w'' = gw g' := calls_grown (fun W _ => h W) g
end

end Go.Proofs.Ytddpjfmogjcimaa
