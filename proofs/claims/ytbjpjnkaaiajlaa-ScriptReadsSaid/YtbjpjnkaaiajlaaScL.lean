/- Layer 20: light; a document's acts that come in. -/
import Derived.Test.YtbjpjnkaaiajlaaScRP
import Derived.Test.YtbjpjnkaaiajlaaArgI
import Derived.Lib.SmallJoins
namespace Go.Proofs.Ytbjpjnkaaiajlaa
open Go.RowKit Go.WideShapes Go.ChangeShapes Go.ChangeAt Go.Joins Go.Deep

theorem strN_of (s : ByteArray) : strN (s.data.toList.map fun b => b.toNat) = s := by
  obtain ⟨d⟩ := s
  unfold strN strOfNums
  simp [Function.comp_def]

def lightX (x : SAct) : Bool := decide (x.key.length ≤ 200) && decide (x.val.length ≤ 500) && decide (x.ns.length ≤ 120)
def lightS (l : List SAct) : Bool := decide (l.length ≤ 60) && l.all lightX
theorem lightS_len {l : List SAct} (h : lightS l = true) : l.length ≤ 60 := by
  unfold lightS at h
  rw [Bool.and_eq_true] at h
  exact of_decide_eq_true h.1
theorem lightS_at {l : List SAct} (h : lightS l = true) : ∀ x ∈ l, lightX x = true := by
  unfold lightS at h
  rw [Bool.and_eq_true, List.all_eq_true] at h
  exact h.2

set_option maxRecDepth 100000 in
set_option maxHeartbeats 1000000 in
theorem light_any (l : List SAct) (a : Option Addr) (c : Nat) (w : World) (hr : Rds w 5 (.slice a l.length c) l.length (ractsV l)) :
    Calls Try.prog 8 #[.slice a l.length c] w fun e w' => e = .returned (.bool (lightS l)) ∧ w = w' := by
  have hm := hr.2.1
  unfold maxLen at hm
  by_cases h40 : 60 < l.length
  · have hf : lightS l = false := by unfold lightS; rw [decide_eq_false (by omega)]; rfl
    rw [hf]
    have h41 : (60 : Int) < (l.length : Int) := by omega
    clear hf hr h40
    go_enter Try.func8, Try.ntmps8
    go_wp2
    go_ret
    exact ⟨rfl, rfl⟩
  have hle : l.length ≤ 60 := by omega
  have HR := Lib.hid hr
  clear hr h40
  go_enter Try.func8, Try.ntmps8
  go_wp2
  go_loop [3] (fun i => ∃ j : Nat, j ≤ l.length ∧ i = .int .i64 j ∧ ∀ i, i < j → lightX (l.getD i default) = true) (fun i => l.length - (intOf i).toNat)
  case atStart => exact ⟨0, by omega, rfl, fun i hi => absurd hi (by omega)⟩
  case round =>
    obtain ⟨j, hj, rfl, hok⟩ := hrel
    have OK := Lib.hid hok
    clear hok
    by_cases hlt : j < l.length
    · obtain ⟨b, o, rfl, hc⟩ := HR.out.at' (by omega)
      have x1 := hc _ _ (ractsV_get l j 1 hlt (by omega))
      have x2 := hc _ _ (ractsV_get l j 2 hlt (by omega))
      have x4 := hc _ _ (ractsV_get l j 4 hlt (by omega))
      simp only [← Nat.add_assoc] at x1 x2 x4
      have HM := Lib.hid (sact_mem l j hlt)
      have hlx : lightX (l.getD j default) = (decide ((l.getD j default).key.length ≤ 200) && decide ((l.getD j default).val.length ≤ 500) && decide ((l.getD j default).ns.length ≤ 120)) := rfl
      have HNX : Hid (lightX (l.getD j default) = true → ∀ i, i < j + 1 → lightX (l.getD i default) = true) := Lib.hid (fun h i hi => by
        by_cases hij : i < j
        · exact OK.out i hij
        · obtain rfl : i = j := by omega
          exact h)
      have HNF : Hid (lightX (l.getD j default) = false → lightS l = false) := Lib.hid (fun h => by
        unfold lightS
        rw [Bool.and_eq_false_iff]
        right
        rw [List.all_eq_false]
        exact ⟨_, HM.out, by rw [h]; exact Bool.false_ne_true⟩)
      obtain ⟨x, hx⟩ : ∃ x, l.getD j default = x := ⟨_, rfl⟩
      rw [hx] at x1 x2 x4 hlx HNX HNF
      clear hc hx HM
      obtain ⟨k, key, val, n, ns, ka, va, na, kc, vc, nc⟩ := x
      dsimp only at x1 x2 x4 hlx
      have hz1 := strN_size key
      have hz2 := strN_size val
      obtain ⟨s1, hs1⟩ : ∃ s, strN key = s := ⟨_, rfl⟩
      obtain ⟨s2, hs2⟩ : ∃ s, strN val = s := ⟨_, rfl⟩
      rw [hs1] at x1 hz1
      rw [hs2] at x2 hz2
      rw [← hz1, ← hz2] at hlx
      have D1 : decide ((200 : Int) < (s1.size : Int)) = !decide (s1.size ≤ 200) := by rw [← decide_not]; exact decide_eq_decide.2 (by omega)
      have D2 : decide ((500 : Int) < (s2.size : Int)) = !decide (s2.size ≤ 500) := by rw [← decide_not]; exact decide_eq_decide.2 (by omega)
      have D3 : decide ((120 : Int) < (ns.length : Int)) = !decide (ns.length ≤ 120) := by rw [← decide_not]; exact decide_eq_decide.2 (by omega)
      obtain ⟨q1, h⟩ : ∃ q, decide (s1.size ≤ 200) = q := ⟨_, rfl⟩
      rw [h] at hlx D1
      clear h
      obtain ⟨q2, h⟩ : ∃ q, decide (s2.size ≤ 500) = q := ⟨_, rfl⟩
      rw [h] at hlx D2
      clear h
      obtain ⟨q3, h⟩ : ∃ q, decide (ns.length ≤ 120) = q := ⟨_, rfl⟩
      rw [h] at hlx D3
      clear h hs1 hs2 hz1 hz2
      have hji : (j : Int) < (l.length : Int) := by omega
      rcases (show q1 = false ∨ (q1 = true ∧ q2 = false) ∨ (q1 = true ∧ q2 = true ∧ q3 = false) ∨ (q1 = true ∧ q2 = true ∧ q3 = true) by cases q1 <;> cases q2 <;> cases q3 <;> simp) with rfl | ⟨rfl, rfl⟩ | ⟨rfl, rfl, rfl⟩ | ⟨rfl, rfl, rfl⟩
      iterate 3
        · have HF := Lib.hid (HNF.out (by rw [hlx]; simp))
          clear hlx HNF HNX
          go_wp2
          go_ret
          exact ⟨by rw [HF.out]; rfl, rfl⟩
      · have HT := Lib.hid (HNX.out (by rw [hlx]; simp))
        clear hlx HNF HNX
        go_wp2
        go_round
        case rel => exact ⟨j + 1, by omega, by go_num, HT.out⟩
        case measure => simp [intOf]; omega
    · obtain rfl : j = l.length := by omega
      have hf : Hid (lightS l = true) := Lib.hid (by
        unfold lightS
        rw [decide_eq_true hle, Bool.true_and, List.all_eq_true]
        intro x hx
        obtain ⟨i, hi, rfl⟩ := List.getElem_of_mem hx
        have := OK.out i hi
        simpa only [List.getD, List.getElem?_eq_getElem hi, Option.getD_some] using this)
      go_wp2
      go_ret
      exact ⟨by rw [hf.out]; rfl, rfl⟩

section
variable {H : Type} {enc : TypeId × Value → H} {r : Reach} {b0 : Nat}
theorem len5 {α : Type} (l : List α) (h : l.length = 5) : ∃ a b c d e, l = [a, b, c, d, e] := by
  match l, h with
  | [a, b, c, d, e], _ => exact ⟨a, b, c, d, e, rfl⟩
theorem trod_struct5 {P : Program} {w : World} {base : Nat} {spare : Nat → Bool} {held : Bool} {t : TypeId} {f0 f1 f2 f3 f4 : Field} {fuel : Nat} {cs : List Value} {x : DataW H × List MemPlace} (ht : P.underlying t = some (.struct #[f0, f1, f2, f3, f4])) (h : DataW.trod enc P w base spare held fuel t cs = some x) :
    ∃ y0 y1 y2 y3 y4 n, cs.length = P.cellsOf t ∧ DataW.trod enc P w base spare held n f0.type ((cs.drop f0.offset).take (P.cellsOf f0.type)) = some y0 ∧
      DataW.trod enc P w base spare held n f1.type ((cs.drop f1.offset).take (P.cellsOf f1.type)) = some y1 ∧ DataW.trod enc P w base spare held n f2.type ((cs.drop f2.offset).take (P.cellsOf f2.type)) = some y2 ∧
      DataW.trod enc P w base spare held n f3.type ((cs.drop f3.offset).take (P.cellsOf f3.type)) = some y3 ∧ DataW.trod enc P w base spare held n f4.type ((cs.drop f4.offset).take (P.cellsOf f4.type)) = some y4 := by
  obtain ⟨xs, n, _, rfl, hl, hlen, hf⟩ := DataW.trod_struct ht h
  match xs, hlen with
  | [y0, y1, y2, y3, y4], _ => exact ⟨y0, y1, y2, y3, y4, n, hl, by simpa using hf 0 f0 rfl, by simpa using hf 1 f1 rfl, by simpa using hf 2 f2 rfl, by simpa using hf 3 f3 rfl, by simpa using hf 4 f4 rfl⟩
set_option maxRecDepth 100000 in
theorem el_ract (w : World) (n : Nat) (cs' : List Value) (y : DataW H × List MemPlace) (h : DataW.trod enc Try.prog w 0 (fun _ => true) true n 38 cs' = some y) :
    ∃ x : SAct, cs' = x.rcells ∧ x.rgood w := by
  obtain ⟨y0, y1, y2, y3, y4, n', hl, h0, h1, h2, h3, h4⟩ := trod_struct5 Try.underlying38 h
  obtain ⟨c0, c1, c2, c3, c4, rfl⟩ := len5 cs' (hl.trans (by kernel_rfl))
  have k0 : Try.prog.cellsOf 3 = 1 := by kernel_rfl
  have k1 : Try.prog.cellsOf 9 = 1 := by kernel_rfl
  have k2 : Try.prog.cellsOf 33 = 1 := by kernel_rfl
  simp [k0, k1, k2] at h0 h1 h2 h3 h4
  obtain ⟨a0, e0, _, w0⟩ := DataW.trod_int Try.underlying3 h0
  obtain ⟨a3, e3, _, w3⟩ := DataW.trod_int Try.underlying3 h3
  obtain ⟨s1, e1, _, _⟩ := DataW.trod_string Try.underlying9 h1
  obtain ⟨s2, e2, _, _⟩ := DataW.trod_string Try.underlying9 h2
  simp at e0 e1 e2 e3
  subst e0 e1 e2 e3
  have hsl : ∃ a l c, c4 = .slice a l c := by
    rcases open_slice Try.underlying33 h4 with ⟨hcs, _⟩ | ⟨a, len, cap, m, n, D, Pl, hcs, _⟩
    · simp at hcs
      exact ⟨_, _, _, hcs⟩
    · simp at hcs
      exact ⟨_, _, _, hcs⟩
  obtain ⟨xs, a, cap, rfl, hr, _, _⟩ := open_slice_as (fun x : Int => [Value.int .i64 x]) (fun x => (Lit.int .i64 x).wf = true) 1 (by omega) Try.underlying33 (by kernel_rfl) (fun _ => rfl) (el_int Try.underlying3) h4
  have hfl : ∀ l : List Int, (l.flatMap fun x : Int => [Value.int .i64 x]) = intsV l := fun l => by
    induction l with
    | nil => rfl
    | cons x l ih => simp [intsV] at ih ⊢; exact ih
  rw [hfl] at hr
  refine ⟨⟨a0, s1.data.toList.map (fun b => b.toNat), s2.data.toList.map (fun b => b.toNat), a3, xs, none, none, a, 0, 0, cap⟩, ?_, fun y hy => ?_, fun y hy => ?_, hr⟩
  · unfold SAct.rcells
    dsimp only
    rw [strN_of, strN_of]
  · obtain ⟨b, _, rfl⟩ := List.mem_map.1 hy
    exact b.toNat_lt
  · obtain ⟨b, _, rfl⟩ := List.mem_map.1 hy
    exact b.toNat_lt

set_option maxRecDepth 100000 in
theorem arg_racts (w : World) {v0 : Value} {d0 : DataW H} {p0 : List MemPlace} (k0 : Value.okWide Try.prog w r b0 22 v0) (h0 : DataW.Trod enc Try.prog w 0 (fun _ => true) true 22 v0 d0 p0) :
    ∃ (l : List SAct) (a : Option Addr) (c : Nat), v0 = .slice a l.length c ∧ Rds w 5 (.slice a l.length c) l.length (ractsV l) ∧ l.length ≤ c ∧ ∀ x ∈ l, x.rgood w := by
  obtain ⟨xs, a, cap, rfl, hr, hc, hg⟩ := arg_slice SAct.rcells (fun x => x.rgood w) 5 (by omega) Try.underlying22 (by kernel_rfl) (fun _ => rfl) (el_ract w) k0 h0
  exact ⟨xs, a, cap, rfl, hr, hc, hg⟩
end

end Go.Proofs.Ytbjpjnkaaiajlaa
