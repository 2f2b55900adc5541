/- Layer 20, the document: a text's bytes. -/
import Derived.Test.YtbjpjnkaaiajlaaScP
import Derived.Test.YtbjpjnkaaiajlaaStr
import Derived.Lib.ConvBytes
namespace Go.Proofs.Ytbjpjnkaaiajlaa
open Go.RowKit

/-- '[]byte(s)'. -/
theorem conv_str (xs : List Nat) (hs : ∀ x ∈ xs, x < 256) (hl : xs.length ≤ 1000000) (W : World) : ∃ (c : Nat) (W' : World), (convert 9 24 (.string (strN xs))).run Try.prog W = .ok (.slice (some ⟨W.heap.size, 0, none⟩) xs.length c) W' ∧ W.grownBy W' none ∧ Rds W' 1 (.slice (some ⟨W.heap.size, 0, none⟩) xs.length c) xs.length (bytesV xs) := by
  have h := Lib.run_convert_string_bytes (P := Try.prog) W 9 24 5 (strN xs) Try.underlying9 Try.underlying24 Try.underlying5
  rw [strN_size] at h
  refine ⟨_, _, h, ⟨rfl, rfl, rfl, by rw [Lib.bytesWorld_size]; omega, fun k hk _ => Lib.bytesWorld_at_old W _ _ k hk⟩, by simp [bytesV_len], by unfold maxLen; omega, .inr ⟨_, _, rfl, fun _ => rfl, fun j u hj => ?_⟩⟩
  have hjl : j < xs.length := by
    have := (List.getElem?_eq_some_iff.1 hj).1
    rwa [bytesV_len] at this
  rw [bytesV_get xs j hjl] at hj
  cases hj
  rw [Nat.zero_add, Lib.bytesWorld_cell W _ _ j (by rw [strN_size]; exact hjl)]
  have h1 : (strN xs).data.toList.getD j 0 = UInt8.ofNat (xs.getD j 0) := by
    have h2 := strN_list xs
    have h3 : (strN xs).data.toList = (strN xs).toList := by simp [strN, strOfNums, Lib.strOfNums_toList, Lib.bytesOf]
    rw [h3, h2]
    simp [List.getD, hjl]
  rw [h1]
  have h4 : xs.getD j 0 < 256 := getD_small xs hs j
  rw [List.getD_eq_getElem?_getD] at h4
  simp
  omega

set_option maxHeartbeats 1000000 in
theorem dtext_any (ys : List Nat) (hs : ∀ x ∈ ys, x < 256) (hl : ys.length ≤ 65535) (w : World) :
    Calls Try.prog 27 #[.string (strN ys)] w fun e w' => ∃ a c, e = .returned (.slice a (2 + ys.length) c) ∧ w'.ownsRow w.heap.size 5 1 (.slice a (2 + ys.length) c) (2 + ys.length) (bytesV (numB ys.length 2 ++ ys)) ∧ w.grownBy w' none := by
  obtain ⟨i0, hi, hz0, hz1, hz2⟩ := info_parts infoByte
  have hcl : IntKind.u64.wrap (ys.length : Int) = ys.length := by rw [IntKind.wrap_u64]; omega
  have hsz := strN_size ys
  have HCV := Lib.hid (fun W => conv_str ys hs (by omega) W)
  clear hs
  go_enter Try.func27, Try.ntmps27
  go_wp2_with fail
  refine (rnumber_any ys.length 2 (by omega) (by omega) _).mono ?_
  rintro e w2 ⟨a, c, rfl, o2, g2⟩
  obtain ⟨c3, w3, hc3, g3, r3⟩ := HCV.out w2
  have O2 := Lib.hid (owns_grown o2 g3)
  have G2 := Lib.hid (grownBy_trans g2 g3)
  have R3 := Lib.hid r3
  have HS := Lib.hid G2.out.size
  clear o2 g2 g3 r3
  go_wp2_with (at_builtin; refine wpList_append_rds_at rfl _ _ 24 rfl w.heap.size 5 i0 (.int .u8 0) 1 1 Try.underlying24 hi hz0 hz1 hz2 rfl (by decide) (v := .slice a 2 c) (sv := .slice (some ⟨w2.heap.size, 0, none⟩) ys.length c3) rfl O2.out rfl R3.out (bytesV_one ys) (by unfold maxLen; omega) (by omega) HS.out ?_; intro v3 w4 h1 h2 h3; obtain ⟨a3, c4, rfl⟩ := (Rds.of_owns h1).slice; have G3 := Lib.hid (grownBy_own2 G2.out O2.out (Nat.le_refl _) h2); have O3 := Lib.hid h1; clear h1 h2 h3)
  go_ret
  exact ⟨a3, c4, rfl, by rw [bytesV_app]; exact O3.out, G3.out⟩

end Go.Proofs.Ytbjpjnkaaiajlaa
