/- Layer 20: the chapter's example; the document's names. -/
import Derived.Test.YtbjpjnkaaiajlaaScP
import Derived.Test.YtbjpjnkaaiajlaaStr
import Derived.Lib.SlBytesConst
namespace Go.Proofs.Ytbjpjnkaaiajlaa
open Go.RowKit

theorem aw_pack (ka va na : Option Addr) (kc vc nc : Nat) : packOf [⟨0, [107], [], 0, [], ka, va, na, kc, vc, nc⟩] = ([1, 0, 0, 0, 0, 1, 0, 107], 0) := by kernel_rfl
theorem aw_str : ((strN [1, 0, 0, 0, 0, 1, 0, 107]).toList == ([1, 0, 0, 0, 0, 1, 0, 107] : List UInt8)) = true := by rw [strN_list]; decide
theorem aw_kind : kindOf ⟨#[114, 111, 116]⟩ = some 8 := kindOf_some (by omega) rfl
theorem aw_name : (formX 9).name = ⟨#[115, 116, 97, 116, 115]⟩ := rfl
theorem rds_mark20 (W : World) (T : TypeId) (fr : Nat × Nat) (vs : List Value) (hl : vs.length ≤ 1000) : Rds (W.alloc (.cells vs.toArray T fr)) 1 (.slice (some ⟨W.heap.size, 0, none⟩) vs.length vs.length) vs.length vs :=
  ⟨by omega, by unfold maxLen; omega, .inr ⟨⟨W.heap.size, 0, none⟩, vs.length, rfl, fun _ => rfl, fun j u hj => by rw [Nat.zero_add, World.cell?_alloc_mark]; simpa using hj⟩⟩

set_option maxRecDepth 100000 in
set_option maxHeartbeats 1000000 in
theorem awake_any (w : World) : Calls Try.prog 14 #[] w fun e w' => e = .returned (.bool true) ∧ w.grownBy w' none := by
  have kc := fun (W : World) (C : Array Value) (n c : Nat) => Lib.run_convert_bytes_const (P := Try.prog) W 24 5 C n c Try.underlying24 Try.underlying5
  go_enter Try.func14, Try.ntmps14
  go_wp2_with fail
  have hb1 := rds_mark20 w 5 (1, 2) [.int .u8 107] (by simp)
  have hb2 := Blk.new (w.alloc (.cells #[.int .u8 107] 5 (1, 2))) 35 [.int .i64 0, .slice (some ⟨w.heap.size, 0, none⟩) 1 1, .slice none 0 0, .int .i64 0, .slice none 0 0]
  have hg1 := World.grownBy_alloc w (.cells #[.int .u8 107] 5 (1, 2)) none
  have hg2 := World.grownBy_alloc (w.alloc (.cells #[.int .u8 107] 5 (1, 2))) (.cells #[.int .i64 0, .slice (some ⟨w.heap.size, 0, none⟩) 1 1, .slice none 0 0, .int .i64 0, .slice none 0 0] 35) none
  have hb1 := Rds.grown (row := none) hb1 hg2 (by simp)
  have hg := grownBy_trans hg1 hg2
  rw [World.size_alloc] at hb2
  have hpk := ppack_any [⟨0, [107], [], 0, [], some ⟨w.heap.size, 0, none⟩, none, none, 1, 0, 0⟩] (some ⟨w.heap.size + 1, 0, none⟩) 1 _ (Rds.of_blk (n := 1) hb2 rfl (by unfold maxLen; omega)) (fun x hx => by
    rw [List.mem_singleton.1 hx]
    exact ⟨hb1, Rds.nil _ 1, Rds.nil _ 1⟩) (by simp) (Nat.le_of_ble_eq_true (by kernel_rfl))
  rw [aw_pack] at hpk
  have HPK := Lib.hid hpk
  have HG := Lib.hid hg
  clear hb1 hb2 hg1 hg2 hpk hg
  refine HPK.out.mono ?_
  rintro e w1 ⟨a1, c1, rfl, o1, g1⟩
  have hconv : (convert 24 9 (.slice a1 8 c1)).run Try.prog w1 = .ok (.string (strN [1, 0, 0, 0, 0, 1, 0, 107])) w1 := conv_rds (xs := [1, 0, 0, 0, 0, 1, 0, 107]) (Rds.of_owns o1)
  have G1 := Lib.hid (grownBy_trans HG.out g1)
  have R1 := Lib.hid (Rds.of_owns o1)
  clear hconv o1 g1 HPK
  go_wp2_with fail
  refine (kind_any ⟨#[114, 111, 116]⟩ _).mono ?_
  rintro e w2 ⟨rfl, g2⟩
  rw [aw_kind]
  have hconv : (convert 24 9 (.slice a1 8 c1)).run Try.prog w2 = .ok (.string (strN [1, 0, 0, 0, 0, 1, 0, 107])) w2 := conv_rds (xs := [1, 0, 0, 0, 0, 1, 0, 107]) (Rds.grown (row := none) R1.out g2 (by simp))
  have hstr := aw_str
  have G2 := Lib.hid (grownBy_trans G1.out g2)
  clear g2 R1 G1
  go_wp2_with fail
  refine (name_any 9 _).mono ?_
  rintro e w3 ⟨rfl, g3⟩
  rw [aw_name]
  have G3 := Lib.hid (grownBy_trans G2.out g3)
  clear g3 G2 hconv
  go_wp2_with fail
  go_ret
  exact ⟨rfl, G3.out⟩

set_option maxRecDepth 100000 in
set_option maxHeartbeats 4000000 in
theorem rname_any (x : Int) (w : World) :
    Calls Try.prog 15 #[.int .i64 x] w fun e w' => e = .returned (.string (formX x).name) ∧ w.grownBy w' none := by
  rcases (show x < 0 ∨ 9 < x ∨ x = 0 ∨ x = 1 ∨ x = 2 ∨ x = 3 ∨ x = 4 ∨ x = 5 ∨ x = 6 ∨ x = 7 ∨ x = 8 ∨ x = 9 by omega) with h | h | rfl | rfl | rfl | rfl | rfl | rfl | rfl | rfl | rfl | rfl
  · have hk : (formX x).name = ⟨#[]⟩ := by
      unfold formX
      rw [if_neg (fun h' => by have := isK_iff.1 h'; omega)]
      rfl
    have d1 : decide (x < 0) = true := decide_eq_true h
    rw [hk]
    clear hk h
    go_enter Try.func15, Try.ntmps15
    go_wp2_with fail
    go_ret
    exact ⟨rfl, grownBy_refl _ _⟩
  · have hk : (formX x).name = ⟨#[]⟩ := by
      unfold formX
      rw [if_neg (fun h' => by have := isK_iff.1 h'; omega)]
      rfl
    have d1 : decide (x < 0) = false := decide_eq_false (by omega)
    have d2 : decide (9 < x) = true := decide_eq_true h
    rw [hk]
    clear hk h
    go_enter Try.func15, Try.ntmps15
    go_wp2_with fail
    go_ret
    exact ⟨rfl, grownBy_refl _ _⟩
  · have hix : ∀ W : World, (Instr.index 68 (.agg #[.string ⟨#[103, 101, 116]⟩, .string ⟨#[115, 101, 116]⟩, .string ⟨#[100, 101, 108, 101, 116, 101]⟩, .string ⟨#[102, 108, 117, 115, 104]⟩, .string ⟨#[99, 104, 101, 99, 107, 112, 111, 105, 110, 116]⟩, .string ⟨#[116, 105, 99, 107]⟩, .string ⟨#[97, 114, 109]⟩, .string ⟨#[99, 114, 97, 115, 104]⟩, .string ⟨#[114, 111, 116]⟩, .string ⟨#[115, 116, 97, 116, 115]⟩]) (.int .i64 0)).run Try.prog W = .ok (.string ⟨#[103, 101, 116]⟩) W := fun W => by kernel_rfl
    rw [show (formX 0).name = ⟨#[103, 101, 116]⟩ from rfl]
    go_enter Try.func15, Try.ntmps15
    go_wp2_with fail
    go_ret
    exact ⟨rfl, grownBy_refl _ _⟩
  · have hix : ∀ W : World, (Instr.index 68 (.agg #[.string ⟨#[103, 101, 116]⟩, .string ⟨#[115, 101, 116]⟩, .string ⟨#[100, 101, 108, 101, 116, 101]⟩, .string ⟨#[102, 108, 117, 115, 104]⟩, .string ⟨#[99, 104, 101, 99, 107, 112, 111, 105, 110, 116]⟩, .string ⟨#[116, 105, 99, 107]⟩, .string ⟨#[97, 114, 109]⟩, .string ⟨#[99, 114, 97, 115, 104]⟩, .string ⟨#[114, 111, 116]⟩, .string ⟨#[115, 116, 97, 116, 115]⟩]) (.int .i64 1)).run Try.prog W = .ok (.string ⟨#[115, 101, 116]⟩) W := fun W => by kernel_rfl
    rw [show (formX 1).name = ⟨#[115, 101, 116]⟩ from rfl]
    go_enter Try.func15, Try.ntmps15
    go_wp2_with fail
    go_ret
    exact ⟨rfl, grownBy_refl _ _⟩
  · have hix : ∀ W : World, (Instr.index 68 (.agg #[.string ⟨#[103, 101, 116]⟩, .string ⟨#[115, 101, 116]⟩, .string ⟨#[100, 101, 108, 101, 116, 101]⟩, .string ⟨#[102, 108, 117, 115, 104]⟩, .string ⟨#[99, 104, 101, 99, 107, 112, 111, 105, 110, 116]⟩, .string ⟨#[116, 105, 99, 107]⟩, .string ⟨#[97, 114, 109]⟩, .string ⟨#[99, 114, 97, 115, 104]⟩, .string ⟨#[114, 111, 116]⟩, .string ⟨#[115, 116, 97, 116, 115]⟩]) (.int .i64 2)).run Try.prog W = .ok (.string ⟨#[100, 101, 108, 101, 116, 101]⟩) W := fun W => by kernel_rfl
    rw [show (formX 2).name = ⟨#[100, 101, 108, 101, 116, 101]⟩ from rfl]
    go_enter Try.func15, Try.ntmps15
    go_wp2_with fail
    go_ret
    exact ⟨rfl, grownBy_refl _ _⟩
  · have hix : ∀ W : World, (Instr.index 68 (.agg #[.string ⟨#[103, 101, 116]⟩, .string ⟨#[115, 101, 116]⟩, .string ⟨#[100, 101, 108, 101, 116, 101]⟩, .string ⟨#[102, 108, 117, 115, 104]⟩, .string ⟨#[99, 104, 101, 99, 107, 112, 111, 105, 110, 116]⟩, .string ⟨#[116, 105, 99, 107]⟩, .string ⟨#[97, 114, 109]⟩, .string ⟨#[99, 114, 97, 115, 104]⟩, .string ⟨#[114, 111, 116]⟩, .string ⟨#[115, 116, 97, 116, 115]⟩]) (.int .i64 3)).run Try.prog W = .ok (.string ⟨#[102, 108, 117, 115, 104]⟩) W := fun W => by kernel_rfl
    rw [show (formX 3).name = ⟨#[102, 108, 117, 115, 104]⟩ from rfl]
    go_enter Try.func15, Try.ntmps15
    go_wp2_with fail
    go_ret
    exact ⟨rfl, grownBy_refl _ _⟩
  · have hix : ∀ W : World, (Instr.index 68 (.agg #[.string ⟨#[103, 101, 116]⟩, .string ⟨#[115, 101, 116]⟩, .string ⟨#[100, 101, 108, 101, 116, 101]⟩, .string ⟨#[102, 108, 117, 115, 104]⟩, .string ⟨#[99, 104, 101, 99, 107, 112, 111, 105, 110, 116]⟩, .string ⟨#[116, 105, 99, 107]⟩, .string ⟨#[97, 114, 109]⟩, .string ⟨#[99, 114, 97, 115, 104]⟩, .string ⟨#[114, 111, 116]⟩, .string ⟨#[115, 116, 97, 116, 115]⟩]) (.int .i64 4)).run Try.prog W = .ok (.string ⟨#[99, 104, 101, 99, 107, 112, 111, 105, 110, 116]⟩) W := fun W => by kernel_rfl
    rw [show (formX 4).name = ⟨#[99, 104, 101, 99, 107, 112, 111, 105, 110, 116]⟩ from rfl]
    go_enter Try.func15, Try.ntmps15
    go_wp2_with fail
    go_ret
    exact ⟨rfl, grownBy_refl _ _⟩
  · have hix : ∀ W : World, (Instr.index 68 (.agg #[.string ⟨#[103, 101, 116]⟩, .string ⟨#[115, 101, 116]⟩, .string ⟨#[100, 101, 108, 101, 116, 101]⟩, .string ⟨#[102, 108, 117, 115, 104]⟩, .string ⟨#[99, 104, 101, 99, 107, 112, 111, 105, 110, 116]⟩, .string ⟨#[116, 105, 99, 107]⟩, .string ⟨#[97, 114, 109]⟩, .string ⟨#[99, 114, 97, 115, 104]⟩, .string ⟨#[114, 111, 116]⟩, .string ⟨#[115, 116, 97, 116, 115]⟩]) (.int .i64 5)).run Try.prog W = .ok (.string ⟨#[116, 105, 99, 107]⟩) W := fun W => by kernel_rfl
    rw [show (formX 5).name = ⟨#[116, 105, 99, 107]⟩ from rfl]
    go_enter Try.func15, Try.ntmps15
    go_wp2_with fail
    go_ret
    exact ⟨rfl, grownBy_refl _ _⟩
  · have hix : ∀ W : World, (Instr.index 68 (.agg #[.string ⟨#[103, 101, 116]⟩, .string ⟨#[115, 101, 116]⟩, .string ⟨#[100, 101, 108, 101, 116, 101]⟩, .string ⟨#[102, 108, 117, 115, 104]⟩, .string ⟨#[99, 104, 101, 99, 107, 112, 111, 105, 110, 116]⟩, .string ⟨#[116, 105, 99, 107]⟩, .string ⟨#[97, 114, 109]⟩, .string ⟨#[99, 114, 97, 115, 104]⟩, .string ⟨#[114, 111, 116]⟩, .string ⟨#[115, 116, 97, 116, 115]⟩]) (.int .i64 6)).run Try.prog W = .ok (.string ⟨#[97, 114, 109]⟩) W := fun W => by kernel_rfl
    rw [show (formX 6).name = ⟨#[97, 114, 109]⟩ from rfl]
    go_enter Try.func15, Try.ntmps15
    go_wp2_with fail
    go_ret
    exact ⟨rfl, grownBy_refl _ _⟩
  · have hix : ∀ W : World, (Instr.index 68 (.agg #[.string ⟨#[103, 101, 116]⟩, .string ⟨#[115, 101, 116]⟩, .string ⟨#[100, 101, 108, 101, 116, 101]⟩, .string ⟨#[102, 108, 117, 115, 104]⟩, .string ⟨#[99, 104, 101, 99, 107, 112, 111, 105, 110, 116]⟩, .string ⟨#[116, 105, 99, 107]⟩, .string ⟨#[97, 114, 109]⟩, .string ⟨#[99, 114, 97, 115, 104]⟩, .string ⟨#[114, 111, 116]⟩, .string ⟨#[115, 116, 97, 116, 115]⟩]) (.int .i64 7)).run Try.prog W = .ok (.string ⟨#[99, 114, 97, 115, 104]⟩) W := fun W => by kernel_rfl
    rw [show (formX 7).name = ⟨#[99, 114, 97, 115, 104]⟩ from rfl]
    go_enter Try.func15, Try.ntmps15
    go_wp2_with fail
    go_ret
    exact ⟨rfl, grownBy_refl _ _⟩
  · have hix : ∀ W : World, (Instr.index 68 (.agg #[.string ⟨#[103, 101, 116]⟩, .string ⟨#[115, 101, 116]⟩, .string ⟨#[100, 101, 108, 101, 116, 101]⟩, .string ⟨#[102, 108, 117, 115, 104]⟩, .string ⟨#[99, 104, 101, 99, 107, 112, 111, 105, 110, 116]⟩, .string ⟨#[116, 105, 99, 107]⟩, .string ⟨#[97, 114, 109]⟩, .string ⟨#[99, 114, 97, 115, 104]⟩, .string ⟨#[114, 111, 116]⟩, .string ⟨#[115, 116, 97, 116, 115]⟩]) (.int .i64 8)).run Try.prog W = .ok (.string ⟨#[114, 111, 116]⟩) W := fun W => by kernel_rfl
    rw [show (formX 8).name = ⟨#[114, 111, 116]⟩ from rfl]
    go_enter Try.func15, Try.ntmps15
    go_wp2_with fail
    go_ret
    exact ⟨rfl, grownBy_refl _ _⟩
  · have hix : ∀ W : World, (Instr.index 68 (.agg #[.string ⟨#[103, 101, 116]⟩, .string ⟨#[115, 101, 116]⟩, .string ⟨#[100, 101, 108, 101, 116, 101]⟩, .string ⟨#[102, 108, 117, 115, 104]⟩, .string ⟨#[99, 104, 101, 99, 107, 112, 111, 105, 110, 116]⟩, .string ⟨#[116, 105, 99, 107]⟩, .string ⟨#[97, 114, 109]⟩, .string ⟨#[99, 114, 97, 115, 104]⟩, .string ⟨#[114, 111, 116]⟩, .string ⟨#[115, 116, 97, 116, 115]⟩]) (.int .i64 9)).run Try.prog W = .ok (.string ⟨#[115, 116, 97, 116, 115]⟩) W := fun W => by kernel_rfl
    rw [show (formX 9).name = ⟨#[115, 116, 97, 116, 115]⟩ from rfl]
    go_enter Try.func15, Try.ntmps15
    go_wp2_with fail
    go_ret
    exact ⟨rfl, grownBy_refl _ _⟩

end Go.Proofs.Ytbjpjnkaaiajlaa
