/- Layer 3: the chapter's examples. -/
import Derived.Test.YtmmkfchijafjeaaStr
import Derived.Lib.SlBytesConst
import Derived.Laws.IdiomStrings
import Derived.Test.YtmmkfchijafjeaaWriter2
import Derived.Test.YtmmkfchijafjeaaReader3
namespace Go.Proofs.Ytmmkfchijafjeaa
open Go.RowKit

theorem aw1 : putNum [] 9 false 258 2 = ([2, 1], false) := by decide +kernel
theorem aw2 : putText [2, 1] 9 false [97] = ([2, 1, 1, 0, 97], false) := by decide +kernel
theorem aw3 : ofB (takeN [1, 2, 3] (askN 4)) = 0 := by decide +kernel
theorem aw4 : badN [1, 2, 3] false (askN 4) = true := by decide +kernel
theorem aw5 : ((strN [2, 1, 1, 0, 97]).toList == ([2, 1, 1, 0, 97] : List UInt8)) = true := by rw [strN_list]; decide

theorem rds_mark (W : World) (T : TypeId) (fr : Nat × Nat) (vs : List Value) (hl : vs.length ≤ 1000) : Rds (W.alloc (.cells vs.toArray T fr)) 1 (.slice (some ⟨W.heap.size, 0, none⟩) vs.length vs.length) vs.length vs :=
  ⟨by omega, by unfold maxLen; omega, .inr ⟨⟨W.heap.size, 0, none⟩, vs.length, rfl, fun _ => rfl, fun j u hj => by rw [Nat.zero_add, World.cell?_alloc_mark]; simpa using hj⟩⟩

set_option maxRecDepth 100000 in
set_option maxHeartbeats 1000000 in
theorem awake_any (w : World) : Calls Try.prog 18 #[] w fun e w' => e = .returned (.bool true) ∧ w.grownBy w' none := by
  have kc := fun (W : World) (C : Array Value) (n c : Nat) => Lib.run_convert_bytes_const (P := Try.prog) W 26 5 C n c Try.underlying26 Try.underlying5
  go_enter Try.func18, Try.ntmps18
  go_wp2_with fail
  refine (newWriter_any 9 (by omega) w).mono ?_
  rintro e w1 ⟨rfl, h1, g1⟩
  rw [if_pos (by omega)] at h1
  have HW1 := Lib.hid h1
  have G1 := Lib.hid g1
  clear h1 g1
  go_wp2_with fail
  refine (wnumber_any _ _ _ _ _ 258 2 w1 HW1.out (by omega) (by simp)).mono ?_
  rintro e w2 ⟨v2, rfl, h2, t2, s2⟩
  rw [aw1] at h2
  have HW2 := Lib.hid h2
  have S2 : Hid (∀ k, WOwn w.heap.size v2 k → w.heap.size ≤ k) := Lib.hid (fun k hk => by
    rcases s2 k hk with h | h
    · rcases h with h | h
      · omega
      · simp [Value.ownBlock] at h
    · exact Nat.le_trans G1.out.size h)
  have G2 := Lib.hid (Touch.grown G1.out t2 (fun k hk => by
    rcases hk with h | h
    · omega
    · simp [Value.ownBlock] at h))
  clear h2 t2 s2
  go_wp2_with fail
  have hbn := rds_mark w2 5 (1, 2) [.int .u8 97] (by simp)
  have hlt := HW2.out.lt w.heap.size (.inl rfl)
  refine (wtext_any w.heap.size v2 [2, 1] [97] 9 false (some ⟨w2.heap.size, 0, none⟩) 1 _ (HW2.out.grown (World.grownBy_alloc w2 _ none)) (by simp) hbn).mono ?_
  rintro e w3 ⟨v3, rfl, h3, t3, s3⟩
  rw [aw2] at h3
  have HW3 := Lib.hid h3
  have S3 : Hid (∀ k, WOwn w.heap.size v3 k → w.heap.size ≤ k) := Lib.hid (fun k hk => by
    rcases s3 k hk with h | h
    · exact S2.out k h
    · have := G2.out.size
      simp at h
      omega)
  have G3 := Lib.hid (Touch.grown (grownBy_trans G2.out (World.grownBy_alloc w2 _ none)) t3 S2.out)
  clear h3 t3 s3 hbn hlt
  go_wp2_with fail
  have hbn := Blk.new w3 5 [.int .u8 1, .int .u8 2, .int .u8 3]
  refine (newReader_any [1, 2, 3] (some ⟨w3.heap.size, 0, none⟩) 3 _ (by simp) (by simp) (Rds.of_blk hbn (by simp) (by unfold maxLen; simp))).mono ?_
  rintro e w4 ⟨B, v4, rfl, r4, hB, hv4, g4⟩
  have hlt := HW3.out.lt w.heap.size (.inl rfl)
  have G4 := Lib.hid (grownBy_trans G3.out (grownBy_trans (World.grownBy_alloc w3 _ none) g4))
  have HW4 := Lib.hid (HW3.out.grown (grownBy_trans (World.grownBy_alloc w3 _ none) g4))
  have R4 := Lib.hid r4
  have HB : Hid (w.heap.size < B) := Lib.hid (by simp at hB; omega)
  clear hbn r4 hB hv4 g4 hlt
  go_wp2_with fail
  refine (wbytes_any _ _ _ _ _ w4 HW4.out).mono ?_
  rintro e w5 ⟨a, c, rfl, o5, g5⟩
  have hconv : (convert 26 9 (.slice a 5 c)).run Try.prog w5 = .ok (.string (strN [2, 1, 1, 0, 97])) w5 := conv_rds (xs := [2, 1, 1, 0, 97]) (Rds.of_owns o5)
  have hstr := aw5
  have HW5 := Lib.hid (HW4.out.grown g5)
  have R5 := Lib.hid (R4.out.grown g5)
  have G5 := Lib.hid (grownBy_trans G4.out g5)
  clear o5 g5
  go_wp2_with fail
  refine (wfull_any _ _ _ _ _ _ HW5.out).mono ?_
  rintro e w6 ⟨rfl, rfl⟩
  go_wp2_with fail
  refine (rnum_any B v4 [1, 2, 3] false 4 _ R5.out).mono ?_
  rintro e w7 ⟨v7, rfl, r7, hv7, g7⟩
  rw [aw3]
  rw [aw4] at r7
  have R7 := Lib.hid r7
  have G7 := Lib.hid (Touch.grown (S := fun k => k = B) G5.out (Touch.of g7 (fun k e => by cases e; rfl)) (fun k hk => by have := HB.out; omega))
  clear r7 hv7 g7
  go_wp2_with fail
  refine (rbad_any B v7 _ true _ R7.out).mono ?_
  rintro e w8 ⟨rfl, rfl⟩
  go_wp2
  go_ret
  exact ⟨rfl, G7.out⟩

end Go.Proofs.Ytmmkfchijafjeaa
