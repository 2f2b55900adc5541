/- Layer 3: the reader and the reference's, side by side. -/
import Derived.Test.YtmmkfchijafjeaaWTake
import Derived.Test.YtmmkfchijafjeaaPlan2
import Derived.Test.YtmmkfchijafjeaaStr
import Derived.Test.YtmmkfchijafjeaaWW
import Derived.Test.YtmmkfchijafjeaaArgBs
namespace Go.Proofs.Ytmmkfchijafjeaa
open Go.RowKit Go.WideShapes Go.ChangeShapes Go.ChangeAt

section
variable {H : Type} {enc : TypeId × Value → H} {r : Reach} {b0 : Nat}
theorem arg_bytes2 (w : World) {v0 : Value} {d0 : DataW H} {p0 : List MemPlace} (k0 : Value.okWide Try.prog w r b0 26 v0) (h0 : DataW.Trod enc Try.prog w 0 (fun _ => true) true 26 v0 d0 p0) :
    ∃ (xs : List Nat) (a : Option Addr) (c : Nat), v0 = .slice a xs.length c ∧ Rds w 1 (.slice a xs.length c) xs.length (bytesV xs) ∧ xs.length ≤ c ∧ ∀ x ∈ xs, x < 256 := by
  obtain ⟨xs, a, cap, rfl, hr, hc, hg⟩ := arg_slice (fun x : Nat => [Value.int .u8 (x : Int)]) (fun x => x < 256) 1 (by omega) Try.underlying26 (by kernel_rfl) (fun _ => rfl) (fun n cs' y h => by
    obtain ⟨x, e, wf⟩ := el_int Try.underlying5 n cs' y h
    have hb := bounds_u8 wf
    obtain ⟨m, rfl⟩ := Int.eq_ofNat_of_zero_le hb.1
    exact ⟨m, e, by omega⟩) k0 h0
  exact ⟨xs, a, cap, rfl, by rw [← bytesV_flat]; exact hr, hc, hg⟩
end

theorem newReader_any2 (xs : List Nat) (a : Option Addr) (c : Nat) (w : World) (hx : xs.length ≤ 50000000) (hsm : ∀ x ∈ xs, x < 256) (hr : Rds w 1 (.slice a xs.length c) xs.length (bytesV xs)) :
    Calls Try.prog 19 #[.slice a xs.length c] w fun e w' => ∃ B v, e = .returned (.pointer (some ⟨B, 0, none⟩)) ∧ RR w' B v xs false ∧ w.heap.size ≤ B ∧ (∀ b, v.ownBlock = some b → w.heap.size ≤ b ∧ b < w'.heap.size) ∧ w.grownBy w' none := by
  have HR := Lib.hid hr
  have HSM := Lib.hid hsm
  clear hr hsm
  go_enter Try.func19, Try.ntmps19
  go_wp2_with fail
  refine (clone_any xs a c w (by omega) HR.out).mono ?_
  rintro e w1 ⟨a1, c1, rfl, o1, g1⟩
  have O1 := Lib.hid o1
  have G1 := Lib.hid g1
  clear o1 g1
  go_wp2
  go_ret
  refine ⟨w1.heap.size, .slice a1 xs.length c1, rfl, ⟨Blk.new w1 60 [.slice a1 xs.length c1, .bool false], (Rds.of_owns O1.out).alloc _, fun h => by have := (O1.out.lt _ h).2; omega, ?_, hx, ?_, HSM.out⟩, G1.out.size, fun b hb => ⟨(O1.out.lt b hb).1, by have := (O1.out.lt b hb).2; rw [World.size_alloc]; omega⟩, grownBy_trans G1.out (World.grownBy_alloc _ _ none)⟩
  · intro a n cc h
    rcases O1.out.2 with ⟨h1, h2⟩ | ⟨g, cap, cur, h1, _, _, h2, h3, _⟩
    · rw [h1] at h
      simp at h
      omega
    · rw [h1] at h
      simp at h
      unfold maxLen at h3
      omega
  · intro ad n cc h
    rcases O1.out.2 with ⟨h1, h2⟩ | ⟨g, cap, cur, h1, _, _, h2, h3, _⟩
    · rw [h1] at h
      simp at h
    · rw [h1] at h
      simp at h
      rw [← h.1]

/-- The reader (v, ys, bad) and the reference's (a, c, zs, bad'). -/
structure DR (w0 w : World) (B Bx : Nat) (v : Value) (ys : List Nat) (bad : Bool) (a : Option Addr) (c : Nat) (zs : List Nat) (bad' : Bool) : Prop where
  rr : RR w B v ys bad
  xblk : Blk w Bx 44 [.slice a zs.length c, .bool bad']
  xr : Rds w0 1 (.slice a zs.length c) zs.length (bytesV zs)
  cap : zs.length ≤ c
  few : zs.length ≤ 2000
  neq : Bx ≠ B
  own : ∀ b, v.ownBlock = some b → b ≠ Bx
  newB : w0.heap.size ≤ B
  newX : w0.heap.size ≤ Bx
  grown : w0.grownBy w none

theorem DR.later {w0 w w' : World} {B Bx : Nat} {v : Value} {ys : List Nat} {bad : Bool} {a : Option Addr} {c : Nat} {zs : List Nat} {bad' : Bool} (h : DR w0 w B Bx v ys bad a c zs bad') (hg : w.grownBy w' none) : DR w0 w' B Bx v ys bad a c zs bad' :=
  ⟨h.rr.grown hg, h.xblk.grown hg (by simp), h.xr, h.cap, h.few, h.neq, h.own, h.newB, h.newX, grownBy_trans h.grown hg⟩
/-- Behind a call on the reader. -/
theorem DR.read {w0 w w' : World} {B Bx : Nat} {v v1 : Value} {ys ys1 : List Nat} {bad bad1 : Bool} {a : Option Addr} {c : Nat} {zs : List Nat} {bad' : Bool} (h : DR w0 w B Bx v ys bad a c zs bad') (hr : RR w' B v1 ys1 bad1) (ho : ∀ b, v1.ownBlock = some b → v.ownBlock = some b) (hg : w.grownBy w' (some B)) : DR w0 w' B Bx v1 ys1 bad1 a c zs bad' :=
  ⟨hr, h.xblk.grown hg (fun e => h.neq (by simpa using e)), h.xr, h.cap, h.few, h.neq, fun b hb => h.own b (ho b hb), h.newB, h.newX, grownBy_base2 h.grown hg h.newB⟩
/-- Behind the store of the reference's reader. -/
theorem DR.take {w0 w : World} {B Bx : Nat} {v : Value} {ys : List Nat} {bad : Bool} {a a1 : Option Addr} {c c1 : Nat} {zs zs1 : List Nat} {bad' bad1 : Bool} (h : DR w0 w B Bx v ys bad a c zs bad') (hr : Rds w0 1 (.slice a1 zs1.length c1) zs1.length (bytesV zs1)) (hc : zs1.length ≤ c1) (hl : zs1.length ≤ zs.length) :
    DR w0 ((w.setCell ⟨Bx, 0, none⟩ (.slice a1 zs1.length c1)).setCell ⟨Bx, 1, none⟩ (.bool bad1)) B Bx v ys bad a1 c1 zs1 bad1 := by
  have ht : Touch (fun k => k = Bx) w ((w.setCell ⟨Bx, 0, none⟩ (.slice a1 zs1.length c1)).setCell ⟨Bx, 1, none⟩ (.bool bad1)) :=
    Touch.of (grownBy_trans (grownBy_setCell w ⟨Bx, 0, none⟩ _) (grownBy_setCell _ ⟨Bx, 1, none⟩ _)) (fun k e => by cases e; rfl)
  refine ⟨h.rr.touch ht (fun k hk e => ?_), (h.xblk.setCell 0 _).setCell 1 _, hr, hc, Nat.le_trans hl h.few, h.neq, h.own, h.newB, h.newX, ht.grown h.grown (fun k e => by rw [e]; exact h.newX)⟩
  rcases hk with hk | hk
  · exact h.neq (by rw [← e, hk])
  · exact h.own k hk e
theorem left_len (xs : List Nat) (n : Int) : (leftN xs n).length ≤ xs.length := by
  unfold leftN
  split
  · simp
  · rw [List.length_drop]; omega
theorem left_small {xs : List Nat} (h : ∀ x ∈ xs, x < 256) (n : Int) : ∀ x ∈ leftN xs n, x < 256 := by
  intro x hx
  unfold leftN at hx
  split at hx
  · simp at hx
  · exact h x (List.mem_of_mem_drop hx)

end Go.Proofs.Ytmmkfchijafjeaa
