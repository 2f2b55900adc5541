/- Layer 20: ScriptReads. -/
import Derived.Test.YtbjpjnkaaiajlaaScRu
import Derived.Test.YtbjpjnkaaiajlaaScTd
import Derived.Test.YtbjpjnkaaiajlaaArgBc
namespace Go.Proofs.Ytbjpjnkaaiajlaa
open Go.RowKit Go.WideShapes Go.ChangeShapes Go.ChangeAt

theorem UnR.one {ys : List Nat} {l m : List SAct} {e f : Int} (h : UnR ys l e) (k : UnR ys m f) : e = f ∧ l.map SAct.data = m.map SAct.data := by
  rcases h with h | h | h <;> rcases k with k | k | k
  · exact ⟨h.2.2.trans k.2.2.symm, by rw [h.2.1, k.2.1]⟩
  · omega
  · omega
  · omega
  · exact ⟨h.2.2.2.trans k.2.2.2.symm, by rw [h.2.2.1, k.2.2.1]⟩
  · exact absurd k.2.1 h.2.1
  · omega
  · exact absurd h.2.1 k.2.1
  · exact ⟨h.2.2.1.trans k.2.2.1.symm, by rw [h.2.2.2, k.2.2.2]⟩

set_option maxRecDepth 100000 in
set_option maxHeartbeats 8000000 in
theorem scriptReads_walk0 (bs : List Nat) (a : Option Addr) (c : Nat) (w : World) (hr : Rds w 1 (.slice a bs.length c) bs.length (bytesV bs)) (hc : bs.length ≤ c) (hs : ∀ y ∈ bs, y < 256) :
    Calls Try.prog 5 #[.slice a bs.length c] w fun e w' => e = .returned (.bool true) ∧ Below w.heap.size w w' := by
  obtain ⟨i0, hi, hz0, hz1, hz2⟩ := info_parts infoByte
  have hbm := hr.2.1
  unfold maxLen at hbm
  by_cases h2k : 2000 < bs.length
  · have h2i : (2000 : Int) < (bs.length : Int) := by omega
    clear hr hs
    go_enter Try.func5, Try.ntmps5
    go_wp2_with fail
    go_ret
    exact ⟨rfl, Below.refl _ _⟩
  have h2i : ¬ (2000 : Int) < (bs.length : Int) := by omega
  have HR := Lib.hid hr
  have HS := Lib.hid hs
  have HC := Lib.hid hc
  have HM0 : Hid ((w.alloc (.cells #[] 5)).ownsRow w.heap.size 5 1 (.slice (some ⟨w.heap.size, 0, none⟩) 0 0) 0 []) := Lib.hid (World.ownsRow_made w #[] 0 (Nat.le_refl _) (by simp) (by simp))
  have R0 := Lib.hid (hr.grown (World.grownBy_alloc w (.cells #[] 5) none) (by simp))
  clear hr hs hc
  go_enter Try.func5, Try.ntmps5
  go_wp2_with (at_builtin; refine wpList_append_rds rfl _ _ 24 rfl w.heap.size 5 i0 (.int .u8 0) 1 1 Try.underlying24 hi hz0 hz1 hz2 rfl (by decide) (v := .slice (some ⟨w.heap.size, 0, none⟩) 0 0) (n := 0) (xs := []) (sv := .slice a bs.length c) rfl HM0.out rfl R0.out (bytesV_one bs) (by unfold maxLen; omega) (by omega) (by simp) ?_; intro v5 w5 h1 h2 _; rw [Nat.zero_add, List.nil_append] at h1; (obtain ⟨a5, c5, rfl⟩ := (Rds.of_owns h1).slice); have G5 := Lib.hid (grownBy_new h2); have R5 := Lib.hid (Rds.of_owns h1); clear h1 h2)
  have hun := punpack_any bs a5 c5 w5 (by omega) HS.out R5.out
  refine hun.mono ?_
  rintro e w6 ⟨l, a6, c6, er, rfl, hu, hrl, hml, g6⟩
  have HU := Lib.hid hu
  have HRL := Lib.hid hrl
  have HML : Hid (∀ x ∈ l, x.good w6) := Lib.hid (fun x hx => (hml x hx).good)
  have G6 := Lib.hid (grownBy_trans G5.out g6)
  clear hun hu hrl hml g6 G5 R5 HM0 R0
  have HRU := Lib.hid (runpack_any bs a c w6 (by omega) HS.out (HR.out.grown G6.out (by simp)) HC.out)
  unfold UnRPost at HRU
  go_wp2_with fail
  refine HRU.out.mono ?_
  rintro e w7 ⟨m, a7, c7, ef, rfl, hu7, hr7, hn7, g7⟩
  obtain ⟨rfl, hd⟩ := HU.out.one hu7
  have hll := len_same hd
  have HTD := Lib.hid (told_yes l m a6 a7 c6 c7 w7 hd (HRL.out.grown g7 (by simp)) (fun x hx => (HML.out x hx).grown g7) hr7 hn7)
  have G7 := Lib.hid (grownBy_trans G6.out g7)
  have hee : (er == er) = true := by simp
  clear hu7 hr7 hn7 g7 hd hll HU HRL HML G6 HRU
  go_wp2_with fail
  refine HTD.out.mono ?_
  rintro e w8 ⟨rfl, g8⟩
  have G8 := Lib.hid (grownBy_trans G7.out g8)
  clear g8 HTD G7
  go_wp2_with fail
  refine (awake_any _).mono ?_
  rintro e w9 ⟨rfl, g9⟩
  have HE := Lib.hid (grownBy_trans G8.out g9)
  clear g9
  go_wp2_with fail
  go_ret
  exact ⟨rfl, below_grownBy HE.out⟩

section
variable {H : Type} {enc : TypeId × Value → H} {r : Reach} {b0 : Nat}
theorem scriptReads_walk (w : World) {v0 : Value} {d0 : DataW H} {p0 : List MemPlace} (k0 : Value.okWide Try.prog w r b0 24 v0)
    (h0 : DataW.Trod enc Try.prog w 0 (fun _ => true) true 24 v0 d0 p0) :
    Calls Try.prog 5 #[v0] w fun e w' => e = .returned (.bool true) ∧ Below w.heap.size w w' := by
  obtain ⟨bs, a, c, rfl, hr, hc, hs⟩ := arg_bytesC w k0 h0
  exact scriptReads_walk0 bs a c w hr hc hs
end

end Go.Proofs.Ytbjpjnkaaiajlaa
