/- The program's hash. -/
import Derived.Test.YtnlcjelmdfjkcaaMixC
import Derived.Test.YtnlcjelmdfjkcaaArgBs
import Derived.Laws.EntriesVeiled
namespace Go.Proofs.Ytnlcjelmdfjkcaa
open Go.RowKit

def hb (n : BitVec 64) (x : Nat) : BitVec 64 := (n ^^^ BitVec.ofNat 64 x) * 1099511628211#64
def foldB (n : BitVec 64) (xs : List Nat) : BitVec 64 := xs.foldl hb n
def begB (s : BitVec 64) : BitVec 64 := s ^^^ 14695981039346656037#64
def hashB (s : BitVec 64) (xs : List Nat) : BitVec 64 := scr (foldB (begB s) xs + BitVec.ofNat 64 xs.length)

theorem U_byte (x : Nat) (h : x < 256) : (x : Int) = U (BitVec.ofNat 64 x) := by
  unfold U
  rw [BitVec.toNat_ofNat]
  omega
theorem hb_eq (n : BitVec 64) (x : Nat) (h : x < 256) : IntKind.u64.wrap (bits BinOp.xor IntKind.u64 (U n) (x : Int) * 1099511628211) = U (hb n x) := by
  rw [U_byte x h, U_xor]
  exact U_mul _ 1099511628211#64
theorem beg_eq (s : BitVec 64) : bits BinOp.xor IntKind.u64 (U s) 14695981039346656037 = U (begB s) := U_xor s 14695981039346656037#64

theorem hash1_any (n : BitVec 64) (x : Nat) (h : x < 256) (w : World) :
    Calls Try.prog 26 #[.int .u64 (U n), .int .u8 (x : Int)] w fun e w' => e = .returned (.int .u64 (U (hb n x))) ∧ w = w' := by
  have h0 := U_lo n
  have h1 := U_hi n
  have e := hb_eq n x h
  go_enter Try.func26, Try.ntmps26
  go_wp2
  go_ret
  exact ⟨rfl, rfl⟩

theorem take_next (xs : List Nat) (k : Nat) (h : k < xs.length) : xs.take (k + 1) = xs.take k ++ [xs.getD k 0] := by
  rw [List.take_add_one, List.getElem?_eq_getElem h, List.getD_eq_getElem?_getD, List.getElem?_eq_getElem h]
  rfl
theorem foldB_next (n : BitVec 64) (xs : List Nat) (k : Nat) (h : k < xs.length) : foldB n (xs.take (k + 1)) = hb (foldB n (xs.take k)) (xs.getD k 0) := by
  rw [take_next xs k h, foldB, List.foldl_append]
  rfl
theorem fold_any (n : BitVec 64) (xs : List Nat) (a : Option Addr) (c : Nat) (w : World) (hg : ∀ x ∈ xs, x < 256) (hr : Rds w 1 (.slice a xs.length c) xs.length (bytesV xs)) :
    Calls Try.prog 25 #[.int .u64 (U n), .slice a xs.length c, .func (.func 26) #[] #[]] w fun e w' => e = .returned (.int .u64 (U (foldB n xs))) ∧ w.grownBy w' none := by
  have hm := hr.2.1
  unfold maxLen at hm
  have HR := Lib.hid hr
  have HGD := Lib.hid (getD_small xs hg)
  clear hr hg
  go_enter Try.func25, Try.ntmps25
  go_wp2
  go_loopw [0, 11] (fun s i wr => ∃ k : Nat, k ≤ xs.length ∧ i = .int .i64 k ∧ s = .int .u64 (U (foldB n (xs.take k))) ∧ w.grownBy wr none) (fun _ i _ => xs.length - (intOf i).toNat)
  case atStart => exact ⟨0, by omega, rfl, rfl, by first | exact grownBy_refl _ _ | exact World.grownBy_alloc _ _ _⟩
  case round =>
    obtain ⟨k, hk, rfl, rfl, hgr⟩ := hrel
    by_cases hlt : k < xs.length
    · obtain ⟨b, o, rfl, hc⟩ := HR.out.at' (by omega)
      have hx := hc k _ (bytesV_get xs k hlt)
      have hbl : b < w.heap.size := by
        by_cases hb : b < w.heap.size
        · exact hb
        · have : w.heap[b]? = none := Array.getElem?_eq_none (by omega)
          simp [World.cell?, this] at hx
      have hx2 : wr.cell? ⟨b, o + k, none⟩ = some (.int .u8 ((xs.getD k 0 : Nat) : Int)) := hgr.cell hx (by simp)
      have HN := Lib.hid (foldB_next n xs k hlt)
      have HGR := Lib.hid hgr
      have hsm := HGD.out k
      clear hc hx hgr
      generalize xs.getD k 0 = x at *
      go_wp2_with fail
      refine (hash1_any _ x hsm _).mono ?_
      rintro e w1 ⟨rfl, rfl⟩
      go_wp2
      go_roundw
      case rel => exact ⟨k + 1, by omega, by go_num, by rw [HN.out], HGR.out⟩
      case measure => simp [intOf]; omega
    · obtain rfl : k = xs.length := by omega
      rw [List.take_length]
      go_wp2
      go_ret
      exact ⟨rfl, hgr⟩

theorem phash_any (s : BitVec 64) (xs : List Nat) (a : Option Addr) (c : Nat) (w : World) (hg : ∀ x ∈ xs, x < 256) (hr : Rds w 1 (.slice a xs.length c) xs.length (bytesV xs)) :
    Calls Try.prog 15 #[.int .u64 (U s), .slice a xs.length c] w fun e w' => e = .returned (.int .u64 (U (hashB s xs))) ∧ w.grownBy w' none := by
  have hm := hr.2.1
  unfold maxLen at hm
  have h0 := U_lo s
  have h1 := U_hi s
  have hbeg := beg_eq s
  have HF := Lib.hid (fold_any (begB s) xs a c · hg)
  have HR := Lib.hid hr
  have hlen : (xs.length : Int) = U (BitVec.ofNat 64 xs.length) := by
    unfold U
    rw [BitVec.toNat_ofNat]
    omega
  have hadd : IntKind.u64.wrap (U (foldB (begB s) xs) + (xs.length : Int)) = U (foldB (begB s) xs + BitVec.ofNat 64 xs.length) := by
    rw [hlen, U_add]
  clear hr hg hlen
  go_enter Try.func15, Try.ntmps15
  go_wp2_with fail
  refine (HF.out _ HR.out).mono ?_
  rintro e w1 ⟨rfl, g1⟩
  go_wp2_with fail
  refine (scramble_any _ _).mono ?_
  rintro e w2 ⟨rfl, g2⟩
  go_wp2
  go_ret
  exact ⟨rfl, grownBy_trans g1 g2⟩

end Go.Proofs.Ytnlcjelmdfjkcaa
