/- The law TopDue returns true at every input, and leaves what came in as it was: its row, closed over the walk. No condition. -/
import Derived.Test.YtcedibmdelehdaaGreatDoorH12
import Derived.Test.YtcedibmdelehdaaGreatDoorH50
import Derived.Below
import Derived.ChangeOld
import Derived.SevenTiedAt
import Derived.ShutString
import Derived.Test.YtcedibmdelehdaaGreatDoorCards
import Derived.Test.YtcedibmdelehdaaGreatDoorTie
namespace Go.Proofs.YtcedibmdelehdaaGreatDoor.topDue
open Go.ChangeShapes Go.WideShapes Go.ChangeAt Go.RowKit
theorem aM : ownKnob Tryz.prog.godebug = none := by kernel_rfl
theorem laidOut : laidOutB Tryz.prog = true := by kernel_rfl
set_option maxRecDepth 100000 in
theorem lifted (os : Os) (started : os.Started) (H : Type) (enc : TypeId × Value → H) :
    ReturnsInHanded {} Tryz.checked os 4 .any (fun w args => (Rows.topDueSpec.pre enc Tryz.prog Tryz.f4 [] false w args ∧ laidMetH Tryz.prog KY w) ∧ sizedMet enc Tryz.prog Tryz.f4 (OpenSpec.ofChange Rows.topDueSpec) false w args) (Rows.topDueSpec.post enc Tryz.prog Tryz.f4 false true false false) := by
  refine returnsInHanded_of_change_and (C := Tryz.checked) (X := fun w _ => laidMetH Tryz.prog KY w) (fun _ _ _ hh h => h.of_heap hh) aM started (by kernel_rfl) Tryz.func4
    (ChangeSpec.witness_shaped (enc := enc) (C := Tryz.checked) (os := os) (X := fun w _ => laidMetH Tryz.prog KY w) false (World.doorLaid Tryz.prog 14 os) #[.slice none 0 0] 8 rfl (World.shaped_of_RefB (by kernel_rfl) (by kernel_rfl)) (by kernel_rfl) (by kernel_rfl) (by kernel_rfl) (dL os _)) ?_
  intro W base args ds gs before hval0 hW _ _ hL _
  obtain ⟨hT, hG⟩ := Wj hL
  have hval : ∀ (j : Nat) t v, Tryz.f4.params[j]? = some t → args[j]? = some v → Value.okWide Tryz.prog W .any base t v := hval0
  have hW' := hW
  obtain ⟨p, q, hA0, hV, rfl, _, _⟩ := hW
  have hA : DataW.TrodAll enc Tryz.prog W 0 (fun _ => true) true Tryz.f4.params.toList args.toList ds p := hA0
  rw [Tryz.params4] at hA hval
  obtain ⟨v0, vs0, d0, ds0, p0, q0, hargs, rfl, rfl, h0, r0⟩ := trodAll_cons hA
  obtain ⟨rfl, rfl, rfl⟩ := trodAll_nil r0
  obtain rfl : args = #[v0] := by cases args; simp_all
  obtain ⟨rfl, rfl⟩ := trodVars_none hV
  have lt0 : ∀ x ∈ p0, x.block < W.heap.size := by obtain ⟨m, hm⟩ := h0; exact DataW.trod_lt m _ _ _ hm
  refine (Wp W hT hG (hval 0 25 v0 rfl rfl) h0).mono fun e W' ⟨he, bel⟩ => ?_
  subst he
  exact ⟨_, rfl, _, _, _, [], _, [], hW', trodAll_mk1 (shut_bool Tryz.underlying4 _), (trodAll_cons_mk (Below.trod laidOut (by kernel_rfl) (of_decide_eq_true (by kernel_rfl)) h0 bel lt0) trodAll_mk0), rfl, bel.frame _, fun h => by cases h⟩
theorem o1 : Tryz.pinned.checked.prog.funcNamed Rows.topDueRow.func = some 4 := by kernel_rfl
theorem o2 : joinedFacts Tryz.pinned.checked.prog 4 Tryz.f4 Rows.topDueSpec Rows.topDueRow = true := by kernel_rfl
theorem o3 : Tryz.f4.isInstance Tryz.pinned.checked.prog Rows.topDueRow.origin Rows.topDueRow.targs := of_decide_eq_true (by kernel_rfl)
theorem o4 : Tryz.f4.isWrapper Tryz.pinned.checked.prog Rows.topDueRow.wrapper Rows.topDueRow.mainSum := by unfold Func.isWrapper; first | (rw [if_pos (by decide +kernel)]; kernel_rfl) | (rw [if_neg (by decide +kernel)]; exact ⟨rfl, rfl⟩)
theorem over : Rows.topDueRow.holds Tryz.pinned (OpenSpec.ofChange Rows.topDueSpec) :=
  OpenClaim.holds_of_wide 4 Tryz.f4 rfl rfl rfl rfl rfl rfl rfl ⟨rfl, rfl, rfl, rfl, rfl⟩ rfl rfl rfl rfl rfl o1 Tryz.func4 o2 o3 o4
    (fun os started H enc _ => lifted os started H enc)
theorem holds : Rows.TopDueSaid := over
theorem proved : Rows.TopDueCardSaid :=
  Claim7.holds_tied_plain_at .later [] [.data] true Rows.topDueCard.stood.harness false
    holds (fun _ h => by cases h) (by kernel_rfl) (fun _ h => by cases h) topDue_row_tie rfl ⟨rfl, rfl⟩ (by kernel_rfl) rfl
    (fun f fn hf hfn => by
      obtain rfl : f = 4 := Option.some.inj ((show Tryz.prog.funcNamed "sgraffito/sgraffitotop.TopDue" = some 4 by kernel_rfl).symm.trans hf) |>.symm
      obtain rfl : fn = Tryz.f4 := (Option.some.inj (Tryz.func4.symm.trans hfn)).symm
      exact ⟨by kernel_rfl, fun j t ht => by
        rw [Tryz.params4] at ht
        have hm : t ∈ [25] := by simpa using Array.mem_of_getElem? ht
        have hall : ([25].all fun u => !Tryz.prog.wantsStandIn u) = true := by kernel_rfl
        exact (show Tryz.prog.wantsStandIn t = false by simpa using List.all_eq_true.1 hall t hm)⟩)
    (by kernel_rfl)
#print axioms proved
end Go.Proofs.YtcedibmdelehdaaGreatDoor.topDue
