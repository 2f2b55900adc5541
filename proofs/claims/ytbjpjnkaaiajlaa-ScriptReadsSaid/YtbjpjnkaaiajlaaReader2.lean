/- package wire: the Reader. package wire: the Reader's Raw, Number, Text. -/
import Derived.Test.YtbjpjnkaaiajlaaWireNum
import Derived.Test.YtbjpjnkaaiajlaaTouch
namespace Go.Proofs.Ytbjpjnkaaiajlaa
section
open Go.RowKit

/-- A reader in memory: what is left, whether it is bad. -/
structure RR (w : World) (B : Nat) (v : Value) (xs : List Nat) (bad : Bool) : Prop where
  blk : Blk w B 85 [v, .bool bad]
  rds : Rds w 1 v xs.length (bytesV xs)
  apart : v.ownBlock ≠ some B
  cap : ∀ a n c, v = .slice a n c → n ≤ c ∧ c ≤ 9223372036854775807
  few : xs.length ≤ 50000000
  spot : ∀ ad n c, v = .slice (some ad) n c → ad.spot = none
  small : ∀ x ∈ xs, x < 256
theorem RR.slice {w : World} {B : Nat} {v : Value} {xs : List Nat} {bad : Bool} (h : RR w B v xs bad) : ∃ a c, v = .slice a xs.length c := h.rds.slice
theorem RR.touch {S : Nat → Prop} {w w' : World} {B : Nat} {v : Value} {xs : List Nat} {bad : Bool} (h : RR w B v xs bad) (ht : Touch S w w') (hs : ∀ k, k = B ∨ v.ownBlock = some k → ¬ S k) : RR w' B v xs bad :=
  ⟨ht.blk h.blk (hs B (.inl rfl)), ht.rds h.rds (fun b hb => hs b (.inr hb)), h.apart, h.cap, h.few, h.spot, h.small⟩
theorem RR.grown {w w' : World} {B : Nat} {v : Value} {xs : List Nat} {bad : Bool} (h : RR w B v xs bad) (hg : w.grownBy w' none) : RR w' B v xs bad :=
  h.touch (S := fun _ => False) (Touch.of_none hg) (fun _ _ h => h)

theorem newReader_any (xs : List Nat) (a : Option Addr) (c : Nat) (w : World) (hx : xs.length ≤ 50000000) (hsm : ∀ x ∈ xs, x < 256) (hr : Rds w 1 (.slice a xs.length c) xs.length (bytesV xs)) :
    Calls Try.prog 29 #[.slice a xs.length c] w fun e w' => ∃ B v, e = .returned (.pointer (some ⟨B, 0, none⟩)) ∧ RR w' B v xs false ∧ w.heap.size ≤ B ∧ (∀ b, v.ownBlock = some b → w.heap.size ≤ b) ∧ w.grownBy w' none := by
  have HR := Lib.hid hr
  have HSM := Lib.hid hsm
  clear hr hsm
  go_enter Try.func29, Try.ntmps29
  go_wp2_with fail
  refine (clone_any xs a c w (by omega) HR.out).mono ?_
  rintro e w1 ⟨a1, c1, rfl, o1, g1⟩
  have O1 := Lib.hid o1
  have G1 := Lib.hid g1
  clear o1 g1
  go_wp2
  go_ret
  refine ⟨w1.heap.size, .slice a1 xs.length c1, rfl, ⟨Blk.new w1 85 [.slice a1 xs.length c1, .bool false], (Rds.of_owns O1.out).alloc _, fun h => by have := (O1.out.lt _ h).2; omega, ?_, hx, ?_, HSM.out⟩, G1.out.size, fun b hb => (O1.out.lt b hb).1, grownBy_trans G1.out (World.grownBy_alloc _ _ none)⟩
  · intro a n cc h
    rcases O1.out.2 with ⟨h1, h2⟩ | ⟨g, cap, cur, h1, _, _, h2, h3, _⟩
    · rw [h1] at h
      simp at h
      omega
    · rw [h1] at h
      simp at h
      unfold maxLen at h3
      omega
  · intro ad n cc h
    rcases O1.out.2 with ⟨h1, h2⟩ | ⟨g, cap, cur, h1, _, _, h2, h3, _⟩
    · rw [h1] at h
      simp at h
    · rw [h1] at h
      simp at h
      rw [← h.1]

theorem rbad_any (B : Nat) (v : Value) (xs : List Nat) (bad : Bool) (w : World) (h : RR w B v xs bad) :
    Calls Try.prog 32 #[.pointer (some ⟨B, 0, none⟩)] w fun e w' => e = .returned (.bool bad) ∧ w = w' := by
  have k1 := h.blk.cell (j := 1) rfl
  clear h
  go_enter Try.func32, Try.ntmps32
  go_wp2
  go_ret
  exact ⟨rfl, rfl⟩

theorem rrest_any (B : Nat) (v : Value) (xs : List Nat) (bad : Bool) (w : World) (h : RR w B v xs bad) :
    Calls Try.prog 33 #[.pointer (some ⟨B, 0, none⟩)] w fun e w' => ∃ a c, e = .returned (.slice a xs.length c) ∧ w'.ownsRow w.heap.size 5 1 (.slice a xs.length c) xs.length (bytesV xs) ∧ w.grownBy w' none := by
  obtain ⟨av, cv, rfl⟩ := h.slice
  have k0 := h.blk.cell (j := 0) rfl
  have hf := h.few
  have HR := Lib.hid h.rds
  clear h
  go_enter Try.func33, Try.ntmps33
  go_wp2_with fail
  refine (clone_any xs av cv w (by omega) HR.out).mono ?_
  rintro e w1 ⟨a, c, rfl, o1, g1⟩
  go_wp2
  go_ret
  exact ⟨a, c, rfl, o1, g1⟩

/-- Too many bytes are asked. -/
theorem rraw_bad (B : Nat) (v : Value) (xs : List Nat) (bad : Bool) (n : Int) (w : World) (h : RR w B v xs bad) (hn : n < 0 ∨ (xs.length : Int) < n) :
    Calls Try.prog 41 #[.pointer (some ⟨B, 0, none⟩), .int .i64 n] w fun e w' => e = .returned (.slice none 0 0) ∧ RR w' B (.slice none 0 0) [] true ∧ w.grownBy w' (some B) := by
  obtain ⟨av, cv, rfl⟩ := h.slice
  have k0 := h.blk.cell (j := 0) rfl
  have k1 := h.blk.cell (j := 1) rfl
  have f0 := h.blk.frozen 0
  have f1 := h.blk.frozen 1
  have hf := h.few
  have HB := Lib.hid ((h.blk.setCell 0 (.slice none 0 0)).setCell 1 (.bool true))
  clear h
  rcases (show n < 0 ∨ (¬ n < 0 ∧ (xs.length : Int) < n) by omega) with h1 | ⟨h1, h2⟩
  all_goals
    clear hn
    go_enter Try.func41, Try.ntmps41
    go_wp2
    go_ret
    exact ⟨rfl, ⟨HB.out, Rds.nil _ 1, by simp [Value.ownBlock], fun a n c e => by simp at e; omega, by simp, fun ad n c e => by simp at e, by simp⟩, grownBy_trans (grownBy_setCell w ⟨B, 0, none⟩ _) (grownBy_setCell _ ⟨B, 1, none⟩ _)⟩
end

section
open Go.RowKit

theorem bytesV_take (xs : List Nat) (n : Nat) : bytesV (xs.take n) = (bytesV xs).take n := by simp [bytesV, List.map_take]
theorem bytesV_drop (xs : List Nat) (n : Nat) : bytesV (xs.drop n) = (bytesV xs).drop n := by simp [bytesV, List.map_drop]

theorem Rds.takeB {w : World} {ad : Addr} {xs : List Nat} {c n : Nat} (h : Rds w 1 (.slice (some ad) xs.length c) xs.length (bytesV xs)) (hn : n ≤ xs.length) (c' : Nat) : Rds w 1 (.slice (some ad) n c') n (bytesV (xs.take n)) := by
  obtain ⟨_, hm, h⟩ := h
  rcases h with ⟨h, _⟩ | ⟨ad', cap, hv, hs, hc⟩
  · simp at h
  · simp at hv
    obtain ⟨rfl, _⟩ := hv
    refine ⟨by simp [bytesV_len]; omega, by omega, .inr ⟨ad, c', rfl, fun h0 => hs (by omega), fun j u hj => hc j u ?_⟩⟩
    rw [bytesV_take] at hj
    rw [List.getElem?_take] at hj
    split at hj
    · exact hj
    · simp at hj
theorem Rds.dropB {w : World} {b o : Nat} {xs : List Nat} {c n : Nat} (h : Rds w 1 (.slice (some ⟨b, o, none⟩) xs.length c) xs.length (bytesV xs)) (hn : n ≤ xs.length) (c' : Nat) : Rds w 1 (.slice (some ⟨b, o + n, none⟩) (xs.drop n).length c') (xs.drop n).length (bytesV (xs.drop n)) := by
  obtain ⟨_, hm, h⟩ := h
  rcases h with ⟨h, _⟩ | ⟨ad', cap, hv, hs, hc⟩
  · simp at h
  · simp at hv
    obtain ⟨rfl, _⟩ := hv
    refine ⟨by simp [bytesV_len], by rw [List.length_drop]; omega, .inr ⟨⟨b, o + n, none⟩, c', rfl, fun _ => rfl, fun j u hj => ?_⟩⟩
    rw [bytesV_drop, List.getElem?_drop] at hj
    have := hc _ _ hj
    rwa [← Nat.add_assoc] at this
theorem Rds.none_nil {w : World} {xs : List Nat} {c : Nat} (h : Rds w 1 (.slice none xs.length c) xs.length (bytesV xs)) : xs = [] ∧ c = 0 := by
  rcases h.2.2 with ⟨h, h0⟩ | ⟨ad, cap, h, _⟩
  · simp at h
    exact ⟨List.eq_nil_of_length_eq_zero h0, h.2⟩
  · simp at h

theorem owns_set' {w : World} {base : Nat} {e : TypeId} {sz n : Nat} {v u : Value} {p : Addr} {xs : List Value} (h : w.ownsRow base e sz v n xs) (hp : p.block < base) : (w.setCell p u).ownsRow base e sz v n xs := owns_set h p u hp

/-- What is asked of a call that reads: the bytes, new; what is left. -/
def RPost (w : World) (B : Nat) (v : Value) (xs : List Nat) (bad : Bool) (n : Nat) (e : Ending) (w' : World) : Prop :=
  ∃ a c v', e = .returned (.slice a n c) ∧ w'.ownsRow w.heap.size 5 1 (.slice a n c) n (bytesV (xs.take n)) ∧ RR w' B v' (xs.drop n) bad ∧ (v'.ownBlock = v.ownBlock) ∧ w.grownBy w' (some B)

set_option maxRecDepth 100000 in
set_option maxHeartbeats 1000000 in
theorem rraw_good (B : Nat) (v : Value) (xs : List Nat) (bad : Bool) (n : Nat) (w : World) (h : RR w B v xs bad) (hn : n ≤ xs.length) :
    Calls Try.prog 41 #[.pointer (some ⟨B, 0, none⟩), .int .i64 n] w (RPost w B v xs bad n) := by
  obtain ⟨av, cv, rfl⟩ := h.slice
  have k0 := h.blk.cell (j := 0) rfl
  have hf := h.few
  have hcap := h.cap _ _ _ rfl
  have d1 : decide ((n : Int) < 0) = false := by simp
  have d2 : decide ((xs.length : Int) < (n : Int)) = false := decide_eq_false (by omega)
  have d3 : decide (xs.length < n) = false := decide_eq_false (by omega)
  cases av with
  | none =>
    obtain ⟨rfl, rfl⟩ := Rds.none_nil h.rds
    obtain rfl : n = 0 := by simpa using hn
    have HW := Lib.hid h
    have HN := Lib.hid (fun W => clone_any [] none 0 W (by simp) (Rds.nil W 1))
    have f0 := h.blk.frozen 0
    clear h d1 d2 d3
    go_enter Try.func41, Try.ntmps41
    go_wp2_with fail
    refine (HN.out _).mono ?_
    rintro e w1 ⟨a1, c1, rfl, o1, g1⟩
    have k1 := (HW.out.blk.grown g1 (by simp)).cell (j := 0) rfl
    have f1 := (HW.out.blk.grown g1 (by simp)).frozen 0
    have HW1 := Lib.hid (HW.out.grown g1)
    have O1 := Lib.hid o1
    have G1 := Lib.hid g1
    clear o1 g1
    go_wp2
    go_ret
    refine ⟨a1, c1, .slice none 0 0, rfl, owns_set' O1.out HW.out.blk.lt, ⟨HW1.out.blk.setCell 0 _, Rds.nil _ 1, by simp [Value.ownBlock], fun a n c e => by simp at e; omega, by simp, fun ad n c e => by simp at e, by simp⟩, rfl, grownBy_trans (grownBy_none G1.out _) (grownBy_setCell _ _ _)⟩
  | some ad =>
    obtain ⟨b, o, sp⟩ := ad
    obtain rfl : sp = none := h.spot _ _ _ rfl
    have hn2 : n ≤ cv := by omega
    have hp1 : (0 : Int) ≤ (n : Int) := by omega
    have hp2 : (n : Int) ≤ (cv : Int) := by omega
    have hp3 : (n : Int) ≤ (xs.length : Int) := by omega
    have hl : (xs.take n).length = n := by rw [List.length_take]; omega
    have hl2 : (xs.drop n).length = xs.length - n := List.length_drop
    have hc := clone_any (xs.take n) (some ⟨b, o, none⟩) cv w (by omega) (by rw [hl]; exact h.rds.takeB hn cv)
    rw [hl] at hc
    have HCL := Lib.hid hc
    have HL := Lib.hid hl
    have HL2 := Lib.hid hl2
    have HW := Lib.hid h
    have hbB : b ≠ B := fun e => h.apart (by simp [Value.ownBlock, e])
    have HBB := Lib.hid hbB
    clear h hc hl hl2 hbB
    by_cases hcn : cv = n
    · subst hcn
      obtain ⟨hcap1, hcap2⟩ := hcap
      go_enter Try.func41, Try.ntmps41
      go_wp2_with fail
      refine HCL.out.mono ?_
      rintro e w1 ⟨a1, c1, rfl, o1, g1⟩
      have k1 := (HW.out.blk.grown g1 (by simp)).cell (j := 0) rfl
      have f1 := (HW.out.blk.grown g1 (by simp)).frozen 0
      have HW1 := Lib.hid (HW.out.grown g1)
      have O1 := Lib.hid o1
      have G1 := Lib.hid g1
      clear o1 g1
      go_wp2
      go_ret
      have hw1 := HW1.out
      have hd : xs.drop cv = [] := List.drop_of_length_le (by omega)
      refine ⟨a1, c1, .slice (some ⟨b, o, none⟩) 0 0, rfl, owns_set' O1.out HW.out.blk.lt, ?_, rfl, grownBy_trans (grownBy_none G1.out _) (grownBy_setCell _ _ _)⟩
      rw [hd]
      exact ⟨hw1.blk.setCell 0 _, ⟨by simp [bytesV], by simp, .inr ⟨⟨b, o, none⟩, 0, rfl, fun h => absurd rfl h, fun j u hj => by simp [bytesV] at hj⟩⟩, by simp [Value.ownBlock]; exact HBB.out, fun a n c e => by simp at e; omega, by simp, fun ad n c e => by simp at e; rw [← e.1], by simp⟩
    · have hcn2 : ¬ n = cv := fun e => hcn e.symm
      go_enter Try.func41, Try.ntmps41
      go_wp2_with fail
      refine HCL.out.mono ?_
      rintro e w1 ⟨a1, c1, rfl, o1, g1⟩
      have k1 := (HW.out.blk.grown g1 (by simp)).cell (j := 0) rfl
      have f1 := (HW.out.blk.grown g1 (by simp)).frozen 0
      have HW1 := Lib.hid (HW.out.grown g1)
      have O1 := Lib.hid o1
      have G1 := Lib.hid g1
      clear o1 g1
      go_wp2
      go_ret
      have hw1 := HW1.out
      refine ⟨a1, c1, .slice (some ⟨b, o + n, none⟩) (xs.length - n) (cv - n), rfl, owns_set' O1.out HW.out.blk.lt, ⟨hw1.blk.setCell 0 _, ?_, by simp [Value.ownBlock]; exact HBB.out, fun a n c e => by simp at e; omega, by rw [HL2.out]; omega, fun ad n c e => by simp at e; rw [← e.1], fun x hx => hw1.small x (List.mem_of_mem_drop hx)⟩, rfl, grownBy_trans (grownBy_none G1.out _) (grownBy_setCell _ _ _)⟩
      have hd := hw1.rds.dropB hn (cv - n)
      rw [HL2.out] at hd ⊢
      exact rds_set hd _ _ (by simp [Value.ownBlock]; exact HBB.out)

/-- What a call that asks for n bytes gets; what is left; whether it is bad. -/
def overB (xs : List Nat) (n : Int) : Bool := decide (n < 0 ∨ (xs.length : Int) < n)
def takeN (xs : List Nat) (n : Int) : List Nat := if overB xs n = true then [] else xs.take n.toNat
def leftN (xs : List Nat) (n : Int) : List Nat := if overB xs n = true then [] else xs.drop n.toNat
def badN (xs : List Nat) (bad : Bool) (n : Int) : Bool := overB xs n || bad

def RPost2 (w : World) (B : Nat) (v : Value) (xs : List Nat) (bad : Bool) (n : Int) (e : Ending) (w' : World) : Prop :=
  ∃ a c v', e = .returned (.slice a (takeN xs n).length c) ∧ w'.ownsRow w.heap.size 5 1 (.slice a (takeN xs n).length c) (takeN xs n).length (bytesV (takeN xs n)) ∧ RR w' B v' (leftN xs n) (badN xs bad n) ∧ (∀ b, v'.ownBlock = some b → v.ownBlock = some b) ∧ w.grownBy w' (some B)

theorem rraw_any (B : Nat) (v : Value) (xs : List Nat) (bad : Bool) (n : Int) (w : World) (h : RR w B v xs bad) :
    Calls Try.prog 41 #[.pointer (some ⟨B, 0, none⟩), .int .i64 n] w (RPost2 w B v xs bad n) := by
  cases ho : overB xs n
  · have hn := of_decide_eq_false ho
    obtain ⟨k, rfl⟩ := Int.eq_ofNat_of_zero_le (show 0 ≤ n by omega)
    refine (rraw_good B v xs bad k w h (by omega)).mono ?_
    rintro e w' ⟨a, c, v', rfl, o, r, hv, g⟩
    have e1 : takeN xs (k : Int) = xs.take k := by unfold takeN; rw [ho]; simp
    have e2 : leftN xs (k : Int) = xs.drop k := by unfold leftN; rw [ho]; simp
    have e3 : badN xs bad (k : Int) = bad := by unfold badN; rw [ho]; simp
    have hl : (xs.take k).length = k := by rw [List.length_take]; omega
    refine ⟨a, c, v', ?_, ?_, ?_, fun b hb => by rw [← hv]; exact hb, g⟩
    · rw [e1, hl]
    · rw [e1, hl]; exact o
    · rw [e2, e3]; exact r
  · have hn := of_decide_eq_true ho
    refine (rraw_bad B v xs bad n w h hn).mono ?_
    rintro e w' ⟨rfl, r, g⟩
    have e1 : takeN xs n = [] := by unfold takeN; rw [ho]; simp
    have e2 : leftN xs n = [] := by unfold leftN; rw [ho]; simp
    have e3 : badN xs bad n = true := by unfold badN; rw [ho]; simp
    refine ⟨none, 0, .slice none 0 0, ?_, ?_, ?_, fun b hb => by simp [Value.ownBlock] at hb, g⟩
    · rw [e1]; rfl
    · rw [e1]; exact World.ownsRow_nil _ _ _ _
    · rw [e2, e3]; exact r
end

end Go.Proofs.Ytbjpjnkaaiajlaa
