/- package script: the table of the kinds, made anew by each call; what is looked up in it. -/
import Derived.Test.YtbjpjnkaaiajlaaProg
import Derived.WalkKit
import Derived.WalkSpells
import Derived.WalkLawsBesides
import Derived.Lib.Hide
import Derived.Maps.Own
import Derived.Maps.RangeRun
import Derived.Test.YtbjpjnkaaiajlaaMem
namespace Go.Proofs.Ytbjpjnkaaiajlaa
open Go.RowKit

/-- What a kind has. -/
structure Form where
  name : ByteArray
  key : Bool
  value : Bool
  num : Bool
  nums : Nat
  just : Bool
def Form.val (f : Form) : Value := .agg #[.string f.name, .bool f.key, .bool f.value, .bool f.num, .int .i64 (f.nums : Int), .bool f.just]
def noForm : Form := ⟨⟨#[]⟩, false, false, false, 0, false⟩
def formOf : Nat → Form
  | 0 => ⟨⟨#[103, 101, 116]⟩, true, false, false, 0, false⟩
  | 1 => ⟨⟨#[115, 101, 116]⟩, true, true, true, 0, false⟩
  | 2 => ⟨⟨#[100, 101, 108, 101, 116, 101]⟩, true, false, false, 0, false⟩
  | 3 => ⟨⟨#[102, 108, 117, 115, 104]⟩, false, false, false, 0, false⟩
  | 4 => ⟨⟨#[99, 104, 101, 99, 107, 112, 111, 105, 110, 116]⟩, false, false, false, 0, false⟩
  | 5 => ⟨⟨#[116, 105, 99, 107]⟩, false, false, true, 0, false⟩
  | 6 => ⟨⟨#[97, 114, 109]⟩, false, false, true, 0, false⟩
  | 7 => ⟨⟨#[99, 114, 97, 115, 104]⟩, false, false, false, 100, false⟩
  | 8 => ⟨⟨#[114, 111, 116]⟩, false, false, false, 3, true⟩
  | 9 => ⟨⟨#[115, 116, 97, 116, 115]⟩, false, false, false, 0, false⟩
  | _ => noForm
def formE (k : Nat) : MapEntry := ⟨.int .i64 (k : Int), (formOf k).val, k⟩
def formL (n : Nat) : List MapEntry := (List.range n).map formE
def formO (n : Nat) : Obj := .map (formL n).toArray n
theorem formL_get (n k : Nat) (h : k < n) : (formL n)[k]? = some (formE k) := by simp [formL, h]
theorem formL_succ (n : Nat) : formL (n + 1) = formL n ++ [formE n] := by simp [formL, List.range_succ]
theorem findNow_app (x : Int) : ∀ (l m : List MapEntry) (i : Nat), (∀ e ∈ l, ∃ y, e.key = .int .i64 y ∧ y ≠ x) → Instr.findNow (.int .i64) (.int .i64 x) (l ++ m) i = Instr.findNow (.int .i64) (.int .i64 x) m (i + l.length)
  | [], m, i, _ => rfl
  | e :: l, m, i, h => by
    obtain ⟨y, hy, hne⟩ := h e (by simp)
    have ih := findNow_app x l m (i + 1) (fun e' he => h e' (List.mem_cons_of_mem _ he))
    have hb : (x == y) = false := beq_eq_false_iff_ne.2 (fun e => hne e.symm)
    simp only [List.cons_append, Instr.findNow, hy, Instr.sameNow, if_true, hb]
    rw [ih, List.length_cons, Nat.add_assoc, Nat.add_comm 1]
theorem formL_ne (n : Nat) (x : Int) (hx : ∀ k : Nat, k < n → (k : Int) ≠ x) : ∀ e ∈ formL n, ∃ y, e.key = .int .i64 y ∧ y ≠ x := by
  intro e he
  unfold formL at he
  obtain ⟨k, hk, rfl⟩ := List.mem_map.1 he
  rw [List.mem_range] at hk
  exact ⟨k, rfl, hx k hk⟩
theorem find_no (n : Nat) (x : Int) (hx : ∀ k : Nat, k < n → (k : Int) ≠ x) : Instr.findNow (.int .i64) (.int .i64 x) (formL n) 0 = some none := by
  have := findNow_app x (formL n) [] 0 (formL_ne n x hx)
  rw [List.append_nil] at this
  rw [this]
  rfl
theorem find_yes (n k : Nat) (h : k < n) : Instr.findNow (.int .i64) (.int .i64 (k : Int)) (formL n) 0 = some (some (k, (formOf k).val)) := by
  have e : formL n = formL k ++ (formE k :: (formL n).drop (k + 1)) := by
    have h1 : (formL n).take k = formL k := by
      simp [formL, ← List.map_take, List.take_range, Nat.min_eq_left (Nat.le_of_lt h)]
    have h2 : k < (formL n).length := by simpa [formL] using h
    have h3 : (formL n)[k] = formE k := by simp [formL]
    rw [← h1, ← h3, List.getElem_cons_drop, List.take_append_drop]
  rw [e, findNow_app (k : Int) (formL k) _ 0 (formL_ne k _ (fun j hj => by omega))]
  unfold Instr.findNow
  simp [formE, Instr.sameNow, formL]

theorem und_map : Try.prog.underlying 66 = some (.map 3 64) := Try.underlying66
theorem run_insert (W : World) (n : Nat) : (Instr.mapUpdate 66 (.map (some W.heap.size)) (.int .i64 (n : Int)) (formOf n).val).run Try.prog (W.alloc (formO n)) = .ok () (W.alloc (formO (n + 1))) := by
  have hb : (W.alloc (formO n)).heap[W.heap.size]? = some (.map (formL n).toArray n) := (MapKept.heap_alloc W _).1
  have hf := find_no n (n : Int) (fun k hk => by omega)
  have hkey : MapKept.IsKey (.int .i64) (.int .i64 (n : Int)) := rfl
  have hset : ({ W.alloc (formO n) with heap := (W.alloc (formO n)).heap.setIfInBounds W.heap.size (formO (n + 1)) } : World) = W.alloc (formO (n + 1)) := by
    have e1 : (W.alloc (formO n)).heap = W.heap.push (formO n) := rfl
    have e2 : (W.heap.push (formO n)).setIfInBounds W.heap.size (formO (n + 1)) = W.heap.push (formO (n + 1)) := by
      apply Array.ext_getElem?
      intro i
      by_cases h : W.heap.size = i
      · subst h; simp
      · have h' : ¬ i = W.heap.size := fun e => h e.symm
        rw [Array.getElem?_setIfInBounds_ne h, Array.getElem?_push, Array.getElem?_push, if_neg h', if_neg h']
    rw [e1, e2]
    rfl
  have hpush : (formL n).toArray.push ⟨.int .i64 (n : Int), (formOf n).val, n⟩ = (formL (n + 1)).toArray := by
    rw [formL_succ]
    simp [formE]
  have hf2 : Instr.findNow (.int .i64) (.int .i64 (n : Int)) (formL n).toArray.toList 0 = some none := by simpa using hf
  simp only [Instr.mapUpdate, Sem.run_bind, run_underlying und_map, MapKept.run_getObj_map hb, MapKept.run_checkKey Try.underlying3 hkey, MapKept.run_findKey Try.underlying3 hf2, Result.andThen, hpush]
  rw [MapKept.run_setObj_map _ hb]
  show Result.ok () _ = _
  exact congrArg (Result.ok ()) hset

theorem run_look (W : World) (b k : Nat) (c : Bool) (h : W.heap[b]? = some (formO 10)) (hk : k < 10) : (Instr.lookup 66 (.map (some b)) (.int .i64 (k : Int)) c).run Try.prog W = .ok (if c then .tuple #[(formOf k).val, .bool true] else (formOf k).val) W := by
  have hf2 : Instr.findNow (.int .i64) (.int .i64 (k : Int)) (formL 10).toArray.toList 0 = some (some (k, (formOf k).val)) := by simpa using find_yes 10 k hk
  have hkey : MapKept.IsKey (.int .i64) (.int .i64 (k : Int)) := rfl
  have hb : W.heap[b]? = some (.map (formL 10).toArray 10) := h
  have hfk := MapKept.run_findKey (w := W) Try.underlying3 hf2
  cases c <;> simp [Instr.lookup, run_underlying und_map, MapKept.run_getObj_map hb, MapKept.run_checkKey Try.underlying3 hkey, hfk, Result.andThen]
theorem run_look_no (W : World) (b : Nat) (x : Int) (c : Bool) (h : W.heap[b]? = some (formO 10)) (hk : x < 0 ∨ 10 ≤ x) : (Instr.lookup 66 (.map (some b)) (.int .i64 x) c).run Try.prog W = .ok (if c then .tuple #[noForm.val, .bool false] else noForm.val) W := by
  have hf2 : Instr.findNow (.int .i64) (.int .i64 x) (formL 10).toArray.toList 0 = some none := by simpa using find_no 10 x (fun k hk' => by omega)
  have hkey : MapKept.IsKey (.int .i64) (.int .i64 x) := rfl
  have hb : W.heap[b]? = some (.map (formL 10).toArray 10) := h
  have hz : (zeroValue 64).run Try.prog W = .ok noForm.val W := by kernel_rfl
  have hfk := MapKept.run_findKey (w := W) Try.underlying3 hf2
  cases c <;> simp [Instr.lookup, run_underlying und_map, MapKept.run_getObj_map hb, MapKept.run_checkKey Try.underlying3 hkey, hfk, Result.andThen, hz]

theorem forms_any (w : World) :
    Calls Try.prog 28 #[] w fun e w' => e = .returned (.map (some w.heap.size)) ∧ w' = w.alloc (formO 10) := by
  have hmk : (Instr.makeMap 66 none).run Try.prog w = .ok (.map (some w.heap.size)) (w.alloc (formO 0)) := rfl
  have h0 : (Instr.mapUpdate 66 (.map (some w.heap.size)) (.int .i64 0) (.agg #[.string ⟨#[103, 101, 116]⟩, .bool true, .bool false, .bool false, .int .i64 0, .bool false])).run Try.prog (w.alloc (formO 0)) = .ok () (w.alloc (formO 1)) := run_insert w 0
  have h1 : (Instr.mapUpdate 66 (.map (some w.heap.size)) (.int .i64 1) (.agg #[.string ⟨#[115, 101, 116]⟩, .bool true, .bool true, .bool true, .int .i64 0, .bool false])).run Try.prog (w.alloc (formO 1)) = .ok () (w.alloc (formO 2)) := run_insert w 1
  have h2 : (Instr.mapUpdate 66 (.map (some w.heap.size)) (.int .i64 2) (.agg #[.string ⟨#[100, 101, 108, 101, 116, 101]⟩, .bool true, .bool false, .bool false, .int .i64 0, .bool false])).run Try.prog (w.alloc (formO 2)) = .ok () (w.alloc (formO 3)) := run_insert w 2
  have h3 : (Instr.mapUpdate 66 (.map (some w.heap.size)) (.int .i64 3) (.agg #[.string ⟨#[102, 108, 117, 115, 104]⟩, .bool false, .bool false, .bool false, .int .i64 0, .bool false])).run Try.prog (w.alloc (formO 3)) = .ok () (w.alloc (formO 4)) := run_insert w 3
  have h4 : (Instr.mapUpdate 66 (.map (some w.heap.size)) (.int .i64 4) (.agg #[.string ⟨#[99, 104, 101, 99, 107, 112, 111, 105, 110, 116]⟩, .bool false, .bool false, .bool false, .int .i64 0, .bool false])).run Try.prog (w.alloc (formO 4)) = .ok () (w.alloc (formO 5)) := run_insert w 4
  have h5 : (Instr.mapUpdate 66 (.map (some w.heap.size)) (.int .i64 5) (.agg #[.string ⟨#[116, 105, 99, 107]⟩, .bool false, .bool false, .bool true, .int .i64 0, .bool false])).run Try.prog (w.alloc (formO 5)) = .ok () (w.alloc (formO 6)) := run_insert w 5
  have h6 : (Instr.mapUpdate 66 (.map (some w.heap.size)) (.int .i64 6) (.agg #[.string ⟨#[97, 114, 109]⟩, .bool false, .bool false, .bool true, .int .i64 0, .bool false])).run Try.prog (w.alloc (formO 6)) = .ok () (w.alloc (formO 7)) := run_insert w 6
  have h7 : (Instr.mapUpdate 66 (.map (some w.heap.size)) (.int .i64 7) (.agg #[.string ⟨#[99, 114, 97, 115, 104]⟩, .bool false, .bool false, .bool false, .int .i64 100, .bool false])).run Try.prog (w.alloc (formO 7)) = .ok () (w.alloc (formO 8)) := run_insert w 7
  have h8 : (Instr.mapUpdate 66 (.map (some w.heap.size)) (.int .i64 8) (.agg #[.string ⟨#[114, 111, 116]⟩, .bool false, .bool false, .bool false, .int .i64 3, .bool true])).run Try.prog (w.alloc (formO 8)) = .ok () (w.alloc (formO 9)) := run_insert w 8
  have h9 : (Instr.mapUpdate 66 (.map (some w.heap.size)) (.int .i64 9) (.agg #[.string ⟨#[115, 116, 97, 116, 115]⟩, .bool false, .bool false, .bool false, .int .i64 0, .bool false])).run Try.prog (w.alloc (formO 9)) = .ok () (w.alloc (formO 10)) := run_insert w 9
  go_enter Try.func28, Try.ntmps28
  go_wp2
  go_ret
  exact ⟨rfl, rfl⟩

end Go.Proofs.Ytbjpjnkaaiajlaa
