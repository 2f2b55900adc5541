/- package script: Name, Kind. -/
import Derived.Test.YtbjpjnkaaiajlaaForm
import Derived.Lib.SlicesS
namespace Go.Proofs.Ytbjpjnkaaiajlaa
open Go.RowKit

/-- What a number has, if it is a kind. -/
def isK (x : Int) : Bool := decide (0 ≤ x) && decide (x < 10)
def formX (x : Int) : Form := if isK x = true then formOf x.toNat else noForm
theorem isK_iff {x : Int} : isK x = true ↔ 0 ≤ x ∧ x < 10 := by simp [isK]
theorem run_lookX (W : World) (b : Nat) (x : Int) (c : Bool) (h : W.heap[b]? = some (formO 10)) : (Instr.lookup 66 (.map (some b)) (.int .i64 x) c).run Try.prog W = .ok (if c then .tuple #[(formX x).val, .bool (isK x)] else (formX x).val) W := by
  unfold formX
  cases hk : isK x
  · rw [if_neg Bool.false_ne_true]
    refine run_look_no W b x c h ?_
    have := mt isK_iff.2 (by rw [hk]; simp : ¬ isK x = true)
    omega
  · rw [if_pos rfl]
    have h1 := isK_iff.1 hk
    obtain ⟨k, rfl⟩ := Int.eq_ofNat_of_zero_le h1.1
    exact run_look W b k c h (by omega)
theorem new_formO (w : World) : (w.alloc (formO 10)).heap[w.heap.size]? = some (formO 10) := (MapKept.heap_alloc w _).1

theorem name_any (x : Int) (w : World) :
    Calls Try.prog 17 #[.int .i64 x] w fun e w' => e = .returned (.string (formX x).name) ∧ w.grownBy w' none := by
  have hl := run_lookX (w.alloc (formO 10)) w.heap.size x false (new_formO w)
  rw [if_neg (by simp)] at hl
  unfold Form.val at hl
  generalize formX x = f at *
  have hfd : ∀ W : World, (Instr.field 64 (.agg #[.string f.name, .bool f.key, .bool f.value, .bool f.num, .int .i64 (f.nums : Int), .bool f.just]) 0).run Try.prog W = .ok (.string f.name) W := fun W => by kernel_rfl
  go_enter Try.func17, Try.ntmps17
  go_wp2_with fail
  refine (forms_any w).mono ?_
  rintro e w1 ⟨rfl, rfl⟩
  go_wp2_with fail
  go_ret
  exact ⟨rfl, World.grownBy_alloc _ _ none⟩

/-- Which kind has a name. -/
def kindOf (s : ByteArray) : Option Nat := (List.range 10).find? fun k => decide ((formOf k).name = s)
theorem names_apart : ∀ j k : Fin 10, (formOf j).name = (formOf k).name → j = k := by decide +kernel
theorem kindOf_some {s : ByteArray} {k : Nat} (hk : k < 10) (h : (formOf k).name = s) : kindOf s = some k := by
  unfold kindOf
  rw [List.find?_range_eq_some]
  refine ⟨by simp [h], by simpa using hk, fun j hj => ?_⟩
  rw [Bool.not_eq_true', decide_eq_false_iff_not]
  intro e
  have := names_apart ⟨j, by omega⟩ ⟨k, hk⟩ (by rw [h]; exact e)
  simp at this
  omega
theorem kindOf_none {s : ByteArray} (h : ∀ k, k < 10 → (formOf k).name ≠ s) : kindOf s = none := by
  unfold kindOf
  rw [List.find?_eq_none]
  intro k hk
  rw [List.mem_range] at hk
  simpa using h k hk

/-- The loop under way. -/
structure KL (w wr : World) (bm r : Nat) (s : ByteArray) (seen : Array Nat) : Prop where
  map : wr.heap[bm]? = some (formO 10)
  it : ∃ c, wr.heap[r]? = some (.mapIter (some bm) 10 seen c) ∧ 10 ≤ c
  no : ∀ k, k < 10 → seen.contains k = true → (formOf k).name ≠ s
  grown : w.grownBy wr none
  newR : w.heap.size ≤ r
  ne : bm ≠ r
def leftAt (r : Nat) (wr : World) : Nat := match wr.heap[r]? with | some (.mapIter _ _ seen _) => (leftOf (formL 10).toArray seen).size | _ => 0

theorem kind_any (s : ByteArray) (w : World) :
    Calls Try.prog 16 #[.string s] w fun e w' => e = .returned (.tuple #[.int .i64 ((kindOf s).getD 0 : Nat), .bool (kindOf s).isSome]) ∧ w.grownBy w' none := by
  have hrg : (Instr.range 66 (.map (some w.heap.size))).run Try.prog (w.alloc (formO 10)) = .ok (.pointer (some ⟨w.heap.size + 1, 0, none⟩)) ((w.alloc (formO 10)).alloc (.mapIter (some w.heap.size) 10 #[] 10)) := by
    have hb : (w.alloc (formO 10)).heap[w.heap.size]? = some (.map (formL 10).toArray 10) := new_formO w
    simp only [Instr.range, Sem.run_bind, run_underlying und_map, MapKept.run_getObj_map hb, Result.andThen, Sem.run_pure]
    rw [show (newObj (.mapIter (some w.heap.size) 10 #[] 10)).run Try.prog (w.alloc (formO 10)) = .ok (w.alloc (formO 10)).heap.size ((w.alloc (formO 10)).alloc (.mapIter (some w.heap.size) 10 #[] 10)) from rfl]
    simp only [World.size_alloc, Sem.run_pure]
  go_enter Try.func16, Try.ntmps16
  go_wp2_with fail
  refine (forms_any w).mono ?_
  rintro e w1 ⟨rfl, rfl⟩
  go_wp2_with fail
  have hk0 : KL w ((w.alloc (formO 10)).alloc (.mapIter (some w.heap.size) 10 #[] 10)) w.heap.size (w.heap.size + 1) s #[] := by
    refine ⟨?_, ⟨10, ?_, by omega⟩, fun k _ h => by simp at h, grownBy_trans (World.grownBy_alloc _ _ none) (World.grownBy_alloc _ _ none), by omega, by omega⟩
    · rw [(MapKept.heap_alloc (w.alloc (formO 10)) _).2 _ (by simp)]
      exact new_formO w
    · have := (MapKept.heap_alloc (w.alloc (formO 10)) (.mapIter (some w.heap.size) 10 #[] 10)).1
      rw [World.size_alloc] at this
      exact this
  obtain ⟨bm, hbm⟩ : ∃ bm, w.heap.size = bm := ⟨_, rfl⟩
  rw [hbm] at hk0 ⊢
  obtain ⟨r, hr⟩ : ∃ r, bm + 1 = r := ⟨_, rfl⟩
  rw [hr] at hk0 ⊢
  generalize (w.alloc (formO 10)).alloc (.mapIter (some bm) 10 #[] 10) = w2 at *
  have K0 := Lib.hid hk0
  clear hk0 hrg hbm hr
  go_loopw [4] (fun _ wr => ∃ seen, KL w wr bm r s seen) (fun _ wr => leftAt r wr)
  case atStart => exact ⟨_, K0.out⟩
  case round =>
    clear K0
    obtain ⟨seen, hk⟩ := hrel
    obtain ⟨c, hit, hc⟩ := hk.it
    have hold : ∀ x ∈ (formL 10).toArray.toList, x.born < 10 := by
      intro x hx
      simp only [formL] at hx
      obtain ⟨k, hk, rfl⟩ := List.mem_map.1 hx
      exact List.mem_range.1 hk
    rcases run_next_at (P := Try.prog) wr 0 r bm 10 c seen (formL 10).toArray 10 hit hk.map hold hc with ⟨h0, hn⟩ | ⟨e, he, w1, hw1, hn⟩
    · have hno : kindOf s = none := kindOf_none (fun k hk' => hk.no k hk' (by
        have := all_seen _ seen h0 (formE k) (by simp [formL]; exact ⟨k, hk', rfl⟩)
        exact this))
      have HN := Lib.hid hno
      have HG := Lib.hid hk.grown
      clear hold hno hk hit h0
      go_wp2
      go_ret2
      exact ⟨by rw [HN.out]; rfl, HG.out⟩
    · obtain ⟨hel, hse⟩ := mem_left he
      obtain ⟨k, hkr, rfl⟩ : ∃ k, k < 10 ∧ e = formE k := by
        simp only [formL] at hel
        obtain ⟨k, hk, rfl⟩ := List.mem_map.1 hel
        exact ⟨k, List.mem_range.1 hk, rfl⟩
      have hw1g : wr.grownBy w1 none := by
        rcases hw1 with rfl | rfl
        · exact grownBy_refl _ _
        · exact grownBy_drewN wr 1 none
      have hw1h : w1.heap = wr.heap := by rcases hw1 with rfl | rfl <;> rfl
      obtain ⟨w3, hw3⟩ : ∃ w3, Go.ChangeMaps.setBlock w1 r (.mapIter (some bm) 10 (seen.push (formE k).born) 10) = w3 := ⟨_, rfl⟩
      have hrw : r < wr.heap.size := (Array.getElem?_eq_some_iff.1 hit).1
      have hmap3 : w3.heap[bm]? = some (formO 10) := by
        rw [← hw3]
        show (w1.heap.setIfInBounds r _)[bm]? = _
        rw [Array.getElem?_setIfInBounds_ne (Ne.symm hk.ne), hw1h]
        exact hk.map
      have hit3 : w3.heap[r]? = some (.mapIter (some bm) 10 (seen.push (formE k).born) 10) := by
        rw [← hw3]
        show (w1.heap.setIfInBounds r _)[r]? = _
        rw [Array.getElem?_setIfInBounds_self_of_lt (by rw [hw1h]; exact hrw)]
      have hg3 : w.grownBy w3 none := by
        have h13 : w1.grownBy w3 (some r) := by
          rw [← hw3]
          exact ⟨rfl, rfl, rfl, by simp [Go.ChangeMaps.setBlock], fun i _ hi => by
            show (w1.heap.setIfInBounds r _)[i]? = _
            rw [Array.getElem?_setIfInBounds_ne (fun e => hi (by rw [e]))]⟩
        exact grownBy_base2 (grownBy_trans hk.grown hw1g) h13 hk.newR
      have hlt : leftAt r w3 < leftAt r wr := by
        unfold leftAt
        rw [hit3, hit]
        exact left_shrinks _ seen (formE k) he
      have hen := run_entry_at (P := Try.prog) w3 r bm 10 seen (formL 10).toArray 10 (formE k) hit3 hmap3 (by simpa using hel) (by
        have : ((formL 10).toArray.toList.map (·.born)) = List.range 10 := by decide
        rw [this]
        exact List.nodup_range)
      have hno := hk.no
      have hR := hk.newR
      have hN := hk.ne
      rw [hw3] at hn
      simp only [formE, Form.val] at hn hen
      have HM := Lib.hid hmap3
      have HI : Hid (w3.heap[r]? = some (.mapIter (some bm) 10 (seen.push k) 10)) := Lib.hid hit3
      have HG := Lib.hid hg3
      have HLT := Lib.hid hlt
      have HNO := Lib.hid hno
      have HRN := Lib.hid (And.intro hR hN)
      clear hold hk hit he hel hse hw1 hw1g hw1h hw3 hmap3 hit3 hg3 hlt hno hR hN
      by_cases hnm : (formOf k).name = s
      · go_wp2
        go_ret2
        have HKO := kindOf_some hkr hnm
        exact ⟨by rw [HKO]; rfl, grownBy_trans HG.out (World.grownBy_alloc _ _ none)⟩
      · have hnb : ((formOf k).name.toList == s.toList) = false := by
          exact (Go.Lib.bytes_beq_false_iff _ _).2 hnm
        go_wp2
        have hgA := World.grownBy_alloc w3 (.cells #[.string (formOf k).name, .bool (formOf k).key, .bool (formOf k).value, .bool (formOf k).num, .int .i64 ((formOf k).nums : Int), .bool (formOf k).just] 64) none
        have hrl : r < w3.heap.size := (Array.getElem?_eq_some_iff.1 HI.out).1
        have hml : bm < w3.heap.size := (Array.getElem?_eq_some_iff.1 HM.out).1
        refine ⟨⟨seen.push k, ⟨(hgA.block bm hml (by simp)).trans HM.out, ⟨10, (hgA.block r hrl (by simp)).trans HI.out, by omega⟩, fun k' hk' hc => ?_, grownBy_trans HG.out hgA, HRN.out.1, HRN.out.2⟩⟩, ?_⟩
        · by_cases e : k' = k
          · subst e; exact hnm
          · refine HNO.out k' hk' ?_
            simpa [e] using hc
        · have e : ∀ W W' : World, W'.heap[r]? = W.heap[r]? → leftAt r W' = leftAt r W := fun W W' h => by unfold leftAt; rw [h]
          rw [e _ _ (hgA.block r hrl (by simp))]
          exact HLT.out

end Go.Proofs.Ytbjpjnkaaiajlaa
