/- Entries: what they are in memory; law14's 'entry'. -/
import Derived.Test.YtddpjfmogjcimaaProg
import Derived.WalkKit
import Derived.WalkSpells
import Derived.WalkLawsBesides
import Derived.Lib.Hide
import Derived.Deep.RegionHeld3
import Derived.Deep.AppendLies
import Derived.Deep.DrawnRows
import Derived.Deep.DeepFit
import Derived.Test.YtddpjfmogjcimaaMem
import Derived.Test.YtddpjfmogjcimaaBv
import Derived.Test.YtddpjfmogjcimaaOpen
namespace Go.Proofs.Ytddpjfmogjcimaa
open Go.RowKit

/-- A number and a location. -/
structure Ent where
  h : BitVec 64
  r : Int
  a : Int
  s : Int

def Ent.cells (x : Ent) : List Value := [.int .u64 (U x.h), .int .i64 x.r, .int .i64 x.a, .int .i64 x.s]
def Ent.val (x : Ent) : Value := .agg #[.int .u64 (U x.h), .int .i64 x.r, .int .i64 x.a, .int .i64 x.s]
def Ent.zero : Ent := ⟨0, 0, 0, 0⟩
instance : Inhabited Ent := ⟨Ent.zero⟩
def entsV (xs : List Ent) : List Value := xs.flatMap Ent.cells
theorem entsV_len (xs : List Ent) : (entsV xs).length = xs.length * 4 := flatMap_len Ent.cells 4 (fun _ => rfl) xs
theorem entsV_app (xs ys : List Ent) : entsV (xs ++ ys) = entsV xs ++ entsV ys := List.flatMap_append
theorem entsV_one (x : Ent) : entsV [x] = x.cells := by simp [entsV]
theorem entsV_cells (xs : List Ent) (i : Nat) (h : i < xs.length) : (entsV xs)[i * 4]? = some (.int .u64 (U (xs.getD i Ent.zero).h)) ∧ (entsV xs)[i * 4 + 1]? = some (.int .i64 (xs.getD i Ent.zero).r) ∧ (entsV xs)[i * 4 + 2]? = some (.int .i64 (xs.getD i Ent.zero).a) ∧ (entsV xs)[i * 4 + 3]? = some (.int .i64 (xs.getD i Ent.zero).s) := by
  have h1 : xs[i]? = some (xs.getD i Ent.zero) := by simp [List.getD, h]
  exact ⟨flatMap_get Ent.cells 4 (fun _ => rfl) xs i 0 _ h1 (by omega), flatMap_get Ent.cells 4 (fun _ => rfl) xs i 1 _ h1 (by omega), flatMap_get Ent.cells 4 (fun _ => rfl) xs i 2 _ h1 (by omega), flatMap_get Ent.cells 4 (fun _ => rfl) xs i 3 _ h1 (by omega)⟩
theorem ents_one (xs : List Ent) : ∀ u ∈ entsV xs, u.oneCell' = true := by
  intro u hu
  simp only [entsV, List.mem_flatMap, Ent.cells] at hu
  obtain ⟨x, _, hu⟩ := hu
  simp only [List.mem_cons, List.not_mem_nil, or_false] at hu
  rcases hu with rfl | rfl | rfl | rfl <;> rfl
theorem ent_take (xs : List Ent) (k : Nat) (h : k < xs.length) : xs.take (k + 1) = xs.take k ++ [xs.getD k Ent.zero] := by
  rw [List.take_succ_eq_append_getElem h]
  simp [List.getD, h]

theorem entry_any (h r a s : Int) (w : World) :
    Calls Try.prog 16 #[.agg #[.int .u64 h, .int .i64 r, .int .i64 a, .int .i64 s]] w fun e w' => e = .returned (.agg #[.int .u64 h, .int .i64 r, .int .i64 a, .int .i64 s]) ∧ w.grownBy w' none := by
  go_enter Try.func16, Try.ntmps16
  go_wp2
  exact bodyPost_ret (v := .agg #[.int .u64 h, .int .i64 r, .int .i64 a, .int .i64 s]) (by simp [results, Try.results16, go_sem]) rfl ⟨rfl, grownBy_trans (World.grownBy_alloc w _ none) (World.grownBy_alloc _ _ none)⟩

theorem infoEnt : (Try.prog.info? 41).map (fun i => (i.zero, i.size, i.bytes)) = some (some (.agg #[.int .u64 0, .int .i64 0, .int .i64 0, .int .i64 0]), 4, 32) := by kernel_rfl
theorem infoREnt : (Try.prog.info? 44).map (fun i => (i.zero, i.size, i.bytes)) = some (some (.agg #[.int .u64 0, .int .i64 0, .int .i64 0, .int .i64 0]), 4, 32) := by kernel_rfl

end Go.Proofs.Ytddpjfmogjcimaa
