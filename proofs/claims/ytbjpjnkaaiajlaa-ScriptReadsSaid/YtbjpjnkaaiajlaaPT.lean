/- A writer that is not full, and what a call that writes to it turns. -/
import Derived.Test.YtbjpjnkaaiajlaaWriter2
namespace Go.Proofs.Ytbjpjnkaaiajlaa
open Go.RowKit

theorem Touch.rds2 {S : Nat → Prop} {w w' : World} (h : Touch S w w') {sz n : Nat} {v : Value} {xs : List Value} (hr : Rds w sz v n xs) (hv : xs ≠ [] → ∀ b, v.ownBlock = some b → ¬ S b) : Rds w' sz v n xs :=
  hr.same fun hne b hb hlt => h.block b hlt (hv hne b hb)

structure PT (w : World) (B : Nat) (v0 : Value) (lim : Int) (W : World) (v : Value) (xs : List Nat) : Prop where
  wr : WR W B v xs lim false
  touch : Touch (WOwn B v0) w W
  own : ∀ k, WOwn B v k → WOwn B v0 k ∨ w.heap.size ≤ k
theorem PT.begin {w : World} {B : Nat} {v : Value} {lim : Int} {xs : List Nat} (h : WR w B v xs lim false) : PT w B v lim w v xs := ⟨h, Touch.refl _ _, fun _ hk => .inl hk⟩
theorem PT.later {w W W' : World} {B : Nat} {v0 v : Value} {lim : Int} {xs : List Nat} (h : PT w B v0 lim W v xs) (hg : W.grownBy W' none) : PT w B v0 lim W' v xs := ⟨h.wr.grown hg, h.touch.trans (Touch.of_none hg), h.own⟩
theorem PT.of {w W w' : World} {B : Nat} {v0 v : Value} {lim : Int} {xs ys : List Nat} {e : Ending} (h : PT w B v0 lim W v xs) (hp : WPost W B v lim (ys, false) e w') : ∃ v', e = .returned (.tuple #[]) ∧ PT w B v0 lim w' v' ys ∧ ∀ b t vs, Blk W b t vs → ¬ WOwn B v b → Blk w' b t vs ∧ ¬ WOwn B v' b := by
  obtain ⟨v', he, hw, ht, hs⟩ := hp
  refine ⟨v', he, ⟨hw, h.touch.step ht h.own, fun k hk => ?_⟩, fun b t vs hb hno => ⟨ht.blk hb hno, fun hw' => ?_⟩⟩
  · rcases hs k hk with h1 | h1
    · exact h.own k h1
    · exact .inr (Nat.le_trans h.touch.size h1)
  · rcases hs b hw' with h1 | h1
    · exact hno h1
    · have := hb.lt
      omega
theorem PT.num {w W : World} {B : Nat} {v0 v : Value} {lim : Int} {xs : List Nat} (h : PT w B v0 lim W v xs) (n k : Nat) (hn : n < 18446744073709551616) (hk : mayB k = true) (hroom : (xs.length : Int) + k ≤ lim) (hy : xs.length ≤ 49000000) :
    Calls Try.prog 22 #[.pointer (some ⟨B, 0, none⟩), .int .u64 n, .int .i64 k] W fun e w' => ∃ v', e = .returned (.tuple #[]) ∧ PT w B v0 lim w' v' (xs ++ numB n k) ∧ ∀ b t vs, Blk W b t vs → ¬ WOwn B v b → Blk w' b t vs ∧ ¬ WOwn B v' b := by
  refine (wnumber_any B v xs lim false n k W h.wr hn hy).mono ?_
  intro e w' hp
  have : putNum xs lim false n k = (xs ++ numB n k, false) := by
    unfold putNum putW
    rw [if_pos hk, Int.toNat_natCast, if_neg]
    rw [numB_len]
    intro hc
    rcases hc with hc | hc
    · cases hc
    · omega
  rw [this] at hp
  exact h.of hp
theorem PT.text {w W : World} {B : Nat} {v0 v : Value} {lim : Int} {xs : List Nat} (h : PT w B v0 lim W v xs) (ys : List Nat) (sa : Option Addr) (sc : Nat) (hs : ys.length ≤ 65535) (hroom : (xs.length : Int) + (2 + ys.length) ≤ lim) (hy : xs.length ≤ 49000000) (hr : Rds W 1 (.slice sa ys.length sc) ys.length (bytesV ys)) :
    Calls Try.prog 39 #[.pointer (some ⟨B, 0, none⟩), .slice sa ys.length sc] W fun e w' => ∃ v', e = .returned (.tuple #[]) ∧ PT w B v0 lim w' v' (xs ++ (numB ys.length 2 ++ ys)) ∧ ∀ b t vs, Blk W b t vs → ¬ WOwn B v b → Blk w' b t vs ∧ ¬ WOwn B v' b := by
  refine (wtext_any B v xs ys lim false sa sc W h.wr hy hr).mono ?_
  intro e w' hp
  have : putText xs lim false ys = (xs ++ (numB ys.length 2 ++ ys), false) := by
    unfold putText putW
    rw [if_neg (by omega), if_neg]
    rw [List.length_append, numB_len]
    intro hc
    rcases hc with hc | hc
    · cases hc
    · omega
  rw [this] at hp
  exact h.of hp

end Go.Proofs.Ytbjpjnkaaiajlaa
