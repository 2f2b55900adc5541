/- The document of layer 14: Put. -/
import Derived.Test.YtddpjfmogjcimaaRSplit
import Derived.Test.YtddpjfmogjcimaaNeed
namespace Go.Proofs.Ytddpjfmogjcimaa
open Go Go.RowKit

theorem setD_le {D : Nat → Bool} {k j : Nat} (h : D j = true) : setD D k j = true := by
  unfold setD
  rw [h, Bool.or_true]
theorem setD_ne {D : Nat → Bool} {k j : Nat} (h : j ≠ k) : setD D k j = D j := by
  unfold setD
  rw [beq_eq_false_iff_ne.2 h, Bool.false_or]
theorem setD_eq {D : Nat → Bool} {k : Nat} : setD D k k = true := by simp [setD]
theorem setV_no {vals : Nat → Value} {i j : Nat} {v : Value} (h : j ≠ i) : setV vals i v j = vals j := by unfold setV; rw [if_neg h]
theorem setV_at {vals : Nat → Value} {i : Nat} {v : Value} : setV vals i v i = v := by unfold setV; rw [if_pos rfl]
/-- Two chains of appends at once: what is known by what is done. -/
structure GP (w0 : World) (B k : Nat) (tk xc : List Value) (D : Nat → Bool) (vals : Nat → Value) (W : World) : Prop where
  grown : w0.grownBy W none
  size : B ≤ W.heap.size
  k0 : D 0 = true → D 4 = false → ∃ b, vals 0 = .slice (some ⟨b, 0, none⟩) 0 0 ∧ B ≤ b ∧ w0.heap.size ≤ b ∧ Blk W b 44 []
  k4 : D 4 = true → D 7 = false → ∃ a c, vals 4 = .slice a k c ∧ W.ownsRow B 44 4 (.slice a k c) k tk ∧ ∀ q, (Value.slice a k c).ownBlock = some q → w0.heap.size ≤ q
  k6 : D 6 = true → D 7 = false → ∃ b, vals 6 = .slice (some ⟨b, 0, none⟩) 1 1 ∧ Blk W b 44 xc
  k7 : D 7 = true → ∃ a c, vals 7 = .slice a (k + 1) c ∧ W.ownsRow B 44 4 (.slice a (k + 1) c) (k + 1) (tk ++ xc)
  k8 : D 8 = true → vals 8 = vals 7
  o4 : D 4 = true → D 0 = true
  o7 : D 7 = true → D 4 = true ∧ D 6 = true ∧ D 0 = true
  o8 : D 8 = true → D 7 = true
theorem GP.keep {w0 W : World} {B k : Nat} {tk xc : List Value} {D : Nat → Bool} {vals : Nat → Value} (h : GP w0 B k tk xc D vals W) (j : Nat) (v : Value) (hj : j = 1 ∨ j = 2 ∨ j = 3 ∨ j = 5) : GP w0 B k tk xc (setD D j) (setV vals j v) W := by
  have e0 : setD D j 0 = D 0 := setD_ne (by omega)
  have e4 : setD D j 4 = D 4 := setD_ne (by omega)
  have e6 : setD D j 6 = D 6 := setD_ne (by omega)
  have e7 : setD D j 7 = D 7 := setD_ne (by omega)
  have e8 : setD D j 8 = D 8 := setD_ne (by omega)
  have v8 : setV vals j v 8 = vals 8 := setV_no (by omega)
  have v0 : setV vals j v 0 = vals 0 := setV_no (by omega)
  have v4 : setV vals j v 4 = vals 4 := setV_no (by omega)
  have v6 : setV vals j v 6 = vals 6 := setV_no (by omega)
  have v7 : setV vals j v 7 = vals 7 := setV_no (by omega)
  refine ⟨h.grown, h.size, ?_, ?_, ?_, ?_, ?_, ?_, ?_, ?_⟩
  · rw [e0, e4, v0]; exact h.k0
  · rw [e4, e7, v4]; exact h.k4
  · rw [e6, e7, v6]; exact h.k6
  · rw [e7, v7]; exact h.k7
  · rw [e8, v8, v7]; exact h.k8
  · rw [e4, e0]; exact h.o4
  · rw [e7, e4, e6, e0]; exact h.o7
  · rw [e8, e7]; exact h.o8
theorem GP.s0 {w0 W : World} {B k : Nat} {tk xc : List Value} {D : Nat → Bool} {vals : Nat → Value} (h : GP w0 B k tk xc D vals W) (hD : D 0 = false) : GP w0 B k tk xc (setD D 0) (setV vals 0 (.slice (some ⟨W.heap.size, 0, none⟩) 0 0)) (W.alloc (.cells #[] 44)) := by
  have hg := World.grownBy_alloc W (.cells #[] 44) none
  have n4 : D 4 = false := by
    cases e : D 4
    · rfl
    · rw [h.o4 e] at hD; cases hD
  have n7 : D 7 = false := by
    cases e : D 7
    · rfl
    · rw [(h.o7 e).2.2] at hD; cases hD
  have e4 : setD D 0 4 = D 4 := setD_ne (by decide)
  have n8 : D 8 = false := by
    cases e : D 8
    · rfl
    · rw [h.o8 e] at n7; cases n7
  have e8 : setD D 0 8 = D 8 := setD_ne (by decide)
  have e6 : setD D 0 6 = D 6 := setD_ne (by decide)
  have e7 : setD D 0 7 = D 7 := setD_ne (by decide)
  have v6 : setV vals 0 (.slice (some ⟨W.heap.size, 0, none⟩) 0 0) 6 = vals 6 := setV_no (by decide)
  refine ⟨grownBy_trans h.grown hg, Nat.le_trans h.size hg.size, fun _ _ => ⟨_, setV_at, h.size, h.grown.size, Blk.new W _ []⟩, ?_, ?_, ?_, (fun hc => by rw [e8, n8] at hc; cases hc), ?_, ?_, (fun hc => by rw [e8, n8] at hc; cases hc)⟩
  · rw [e4, n4]; intro hc; cases hc
  · rw [e6, e7, v6]
    intro a b
    obtain ⟨b6, h1, h2⟩ := h.k6 a b
    exact ⟨b6, h1, h2.grown hg (by simp)⟩
  · rw [e7, n7]; intro hc; cases hc
  · rw [e4, n4]; intro hc; cases hc
  · rw [e7, n7]; intro hc; cases hc
theorem GP.s6 {w0 W : World} {B k : Nat} {tk xc : List Value} {D : Nat → Bool} {vals : Nat → Value} (h : GP w0 B k tk xc D vals W) (hD : D 6 = false) : GP w0 B k tk xc (setD D 6) (setV vals 6 (.slice (some ⟨W.heap.size, 0, none⟩) 1 1)) (W.alloc (.cells xc.toArray 44)) := by
  have hg := World.grownBy_alloc W (.cells xc.toArray 44) none
  have n7 : D 7 = false := by
    cases e : D 7
    · rfl
    · rw [(h.o7 e).2.1] at hD; cases hD
  have n8 : D 8 = false := by
    cases e : D 8
    · rfl
    · rw [h.o8 e] at n7; cases n7
  have e8 : setD D 6 8 = D 8 := setD_ne (by decide)
  have e0 : setD D 6 0 = D 0 := setD_ne (by decide)
  have e4 : setD D 6 4 = D 4 := setD_ne (by decide)
  have e7 : setD D 6 7 = D 7 := setD_ne (by decide)
  have v0 : setV vals 6 (.slice (some ⟨W.heap.size, 0, none⟩) 1 1) 0 = vals 0 := setV_no (by decide)
  have v4 : setV vals 6 (.slice (some ⟨W.heap.size, 0, none⟩) 1 1) 4 = vals 4 := setV_no (by decide)
  refine ⟨grownBy_trans h.grown hg, Nat.le_trans h.size hg.size, ?_, ?_, fun _ _ => ⟨_, setV_at, Blk.new W _ _⟩, ?_, (fun hc => by rw [e8, n8] at hc; cases hc), ?_, ?_, (fun hc => by rw [e8, n8] at hc; cases hc)⟩
  · rw [e0, e4, v0]
    intro a b
    obtain ⟨b0, h1, h2, h2', h3⟩ := h.k0 a b
    exact ⟨b0, h1, h2, h2', h3.grown hg (by simp)⟩
  · rw [e4, e7, v4]
    intro a b
    obtain ⟨a4, c4, h1, h2, h3⟩ := h.k4 a b
    exact ⟨a4, c4, h1, owns_grown h2 hg, h3⟩
  · rw [e7, n7]; intro hc; cases hc
  · rw [e4, e0]; exact h.o4
  · rw [e7, n7]; intro hc; cases hc
theorem GP.s4 {w0 W W' : World} {B k : Nat} {tk xc : List Value} {D : Nat → Bool} {vals : Nat → Value} (h : GP w0 B k tk xc D vals W) (hxc : xc ≠ []) (h0 : D 0 = true) (hD : D 4 = false) (a : Option Addr) (c b : Nat) (hv : vals 0 = .slice (some ⟨b, 0, none⟩) 0 0) (hb : Blk W b 44 []) (hB : w0.heap.size ≤ b) (hg : W.grownBy W' (some b)) (ho : W'.ownsRow B 44 4 (.slice a k c) k tk) (hq : ∀ q, (Value.slice a k c).ownBlock = some q → w0.heap.size ≤ q) : GP w0 B k tk xc (setD D 4) (setV vals 4 (.slice a k c)) W' := by
  have n7 : D 7 = false := by
    cases e : D 7
    · rfl
    · rw [(h.o7 e).1] at hD; cases hD
  have e0 : setD D 4 0 = D 0 := setD_ne (by decide)
  have n8 : D 8 = false := by
    cases e : D 8
    · rfl
    · rw [h.o8 e] at n7; cases n7
  have e8 : setD D 4 8 = D 8 := setD_ne (by decide)
  have e6 : setD D 4 6 = D 6 := setD_ne (by decide)
  have e7 : setD D 4 7 = D 7 := setD_ne (by decide)
  have v6 : setV vals 4 (.slice a k c) 6 = vals 6 := setV_no (by decide)
  refine ⟨grownBy_base2 h.grown hg hB, Nat.le_trans h.size hg.size, fun _ hc => ?_, fun _ _ => ⟨a, c, setV_at, ho, hq⟩, ?_, ?_, (fun hc => by rw [e8, n8] at hc; cases hc), ?_, ?_, (fun hc => by rw [e8, n8] at hc; cases hc)⟩
  · rw [setD_eq] at hc; cases hc
  · rw [e6, e7, v6]
    intro x y
    obtain ⟨b6, h1, h2⟩ := h.k6 x y
    refine ⟨b6, h1, h2.grown hg (fun e => ?_)⟩
    cases e
    unfold Blk at h2 hb
    rw [h2] at hb
    simp at hb
    exact hxc hb
  · rw [e7, n7]; intro hc; cases hc
  · rw [e0]; exact fun _ => h0
  · rw [e7, n7]; intro hc; cases hc
theorem GP.s7 {w0 W W' : World} {B k : Nat} {tk xc : List Value} {D : Nat → Bool} {vals : Nat → Value} (h : GP w0 B k tk xc D vals W) (h4 : D 4 = true) (h6 : D 6 = true) (h0 : D 0 = true) (hD : D 7 = false) (a a' : Option Addr) (c c' : Nat) (hq : ∀ q, (Value.slice a' k c').ownBlock = some q → w0.heap.size ≤ q) (hown : W.ownsRow B 44 4 (.slice a' k c') k tk) (hg : W.grownBy W' (Value.slice a' k c').ownBlock) (ho : W'.ownsRow B 44 4 (.slice a (k + 1) c) (k + 1) (tk ++ xc)) : GP w0 B k tk xc (setD D 7) (setV vals 7 (.slice a (k + 1) c)) W' := by
  have n8 : D 8 = false := by
    cases e : D 8
    · rfl
    · rw [h.o8 e] at hD; cases hD
  have e8 : setD D 7 8 = D 8 := setD_ne (by decide)
  have e0 : setD D 7 0 = D 0 := setD_ne (by decide)
  have e4 : setD D 7 4 = D 4 := setD_ne (by decide)
  have e6 : setD D 7 6 = D 6 := setD_ne (by decide)
  have hgn : w0.grownBy W' none := by
    rcases hbq : (Value.slice a' k c').ownBlock with _ | q
    · rw [hbq] at hg; exact grownBy_trans h.grown hg
    · rw [hbq] at hg
      exact grownBy_base2 h.grown hg (hq q hbq)
  refine ⟨hgn, Nat.le_trans h.size hg.size, fun _ hc => ?_, fun _ hc => ?_, fun _ hc => ?_, fun _ => ⟨a, c, setV_at, ho⟩, (fun hc => by rw [e8, n8] at hc; cases hc), ?_, (fun _ => ⟨by rw [e4]; exact h4, by rw [e6]; exact h6, by rw [e0]; exact h0⟩), (fun _ => setD_eq)⟩
  · rw [e4, h4] at hc; cases hc
  · rw [setD_eq] at hc; cases hc
  · rw [setD_eq] at hc; cases hc
  · rw [e4, e0]; exact h.o4
theorem GP.s8 {w0 W : World} {B k : Nat} {tk xc : List Value} {D : Nat → Bool} {vals : Nat → Value} (h : GP w0 B k tk xc D vals W) (h7 : D 7 = true) : GP w0 B k tk xc (setD D 8) (setV vals 8 (vals 7)) W := by
  have e0 : setD D 8 0 = D 0 := setD_ne (by decide)
  have e4 : setD D 8 4 = D 4 := setD_ne (by decide)
  have e6 : setD D 8 6 = D 6 := setD_ne (by decide)
  have e7 : setD D 8 7 = D 7 := setD_ne (by decide)
  have v0 : setV vals 8 (vals 7) 0 = vals 0 := setV_no (by decide)
  have v4 : setV vals 8 (vals 7) 4 = vals 4 := setV_no (by decide)
  have v6 : setV vals 8 (vals 7) 6 = vals 6 := setV_no (by decide)
  have v7 : setV vals 8 (vals 7) 7 = vals 7 := setV_no (by decide)
  refine ⟨h.grown, h.size, ?_, ?_, ?_, ?_, fun _ => by rw [v7]; exact setV_at, ?_, ?_, fun _ => by rw [e7]; exact h7⟩
  · rw [e0, e4, v0]; exact h.k0
  · rw [e4, e7, v4]; exact h.k4
  · rw [e6, e7, v6]; exact h.k6
  · rw [e7, v7]; exact h.k7
  · rw [e4, e0]; exact h.o4
  · rw [e7, e4, e6, e0]; exact h.o7
theorem row_partsR {w : World} {B n : Nat} {v : Value} {xs : List Value} (h : w.ownsRow B 44 4 v n xs) (hn : 0 < n) : ∃ g c sp, v = .slice (some ⟨g, 0, none⟩) n c ∧ B ≤ g ∧ Blk w g 44 (xs ++ sp) ∧ n ≤ c ∧ c ≤ maxLen ∧ (xs ++ sp).length = c * 4 := by
  rcases h.2 with ⟨_, h0⟩ | ⟨g, c, cur, rfl, hB, hg, h1, h2, h3, h4⟩
  · omega
  · refine ⟨g, c, cur.toList.drop (n * 4), rfl, hB, ?_, h1, h2, ?_⟩
    · rw [← h4, List.take_append_drop]
      exact hg
    · rw [← h4, List.take_append_drop, Array.length_toList, h3]
theorem Rds.takeE {w : World} {a : Option Addr} {c n : Nat} {xs : List Ent} (h : Rds w 4 (.slice a n c) n (entsV xs)) (hn : xs.length = n) (k : Nat) (hk : k ≤ n) : Rds w 4 (.slice a k c) k (entsV (xs.take k)) := by
  obtain ⟨h1, h2, h3⟩ := h
  refine ⟨by rw [entsV_len, List.length_take, Nat.min_eq_left (by omega)], by omega, ?_⟩
  rcases h3 with ⟨e, h0⟩ | ⟨b, cap, e, hsp, hc⟩
  · left
    simp only [Value.slice.injEq] at e
    obtain ⟨rfl, rfl, rfl⟩ := e
    obtain rfl : k = 0 := by omega
    exact ⟨rfl, rfl⟩
  · right
    simp only [Value.slice.injEq, true_and] at e
    obtain ⟨rfl, rfl⟩ := e
    refine ⟨b, c, rfl, fun hk0 => hsp (by omega), fun j u hj => hc j u ?_⟩
    have e2 : entsV xs = entsV (xs.take k) ++ entsV (xs.drop k) := ents_cut xs k (by omega)
    rw [e2, List.getElem?_append_left (List.getElem?_eq_some_iff.1 hj).1]
    exact hj
theorem Rds.dropE {w : World} {b o c n : Nat} {xs : List Ent} (h : Rds w 4 (.slice (some ⟨b, o, none⟩) n c) n (entsV xs)) (hn : xs.length = n) (k : Nat) (hk : k ≤ n) (c' : Nat) : Rds w 4 (.slice (some ⟨b, o + k * 4, none⟩) (n - k) c') (n - k) (entsV (xs.drop k)) := by
  obtain ⟨h1, h2, h3⟩ := h
  refine ⟨by rw [entsV_len, List.length_drop, hn], by omega, ?_⟩
  rcases h3 with ⟨e, h0⟩ | ⟨b', cap, e, hsp, hc⟩
  · cases e
  · right
    simp only [Value.slice.injEq, true_and, Option.some.injEq] at e
    obtain ⟨rfl, rfl⟩ := e
    refine ⟨⟨b, o + k * 4, none⟩, c', rfl, fun _ => rfl, fun j u hj => ?_⟩
    have e2 : entsV xs = entsV (xs.take k) ++ entsV (xs.drop k) := ents_cut xs k (by omega)
    have hl : (entsV (xs.take k)).length = k * 4 := by rw [entsV_len, List.length_take, Nat.min_eq_left (by omega)]
    have := hc (k * 4 + j) u (by rw [e2, List.getElem?_append_right (by omega), hl, show k * 4 + j - k * 4 = j by omega]; exact hj)
    dsimp only at this ⊢
    rwa [← Nat.add_assoc] at this

theorem owns_empty {W : World} {b B : Nat} (h : Blk W b 44 []) (hB : B ≤ b) : W.ownsRow B 44 4 (.slice (some ⟨b, 0, none⟩) 0 0) 0 [] := ⟨rfl, .inr ⟨b, 0, #[], rfl, hB, h, Nat.le_refl _, by unfold maxLen; omega, rfl, rfl⟩⟩

set_option maxRecDepth 100000 in
set_option maxHeartbeats 8000000 in
theorem rput_any (d p : Int) (xs : List Ent) (x : Ent) (a : Option Addr) (c : Nat) (w : World) (hx : xs.length ≤ 255) (hs : xs.Pairwise (fun x y => U x.h < U y.h)) (hr : Rds w 4 (.slice a xs.length c) xs.length (entsV xs)) :
    Calls Try.prog 27 #[.agg #[.int .i64 d, .int .i64 p, .slice a xs.length c], x.val] w fun e w' => ∃ (i : Nat) (a' : Option Addr) (c' : Nat), Plc xs (U x.h) i ∧ e = .returned (.agg #[.int .i64 d, .int .i64 p, .slice a' (putL xs x i (hasB xs (U x.h) i)).length c']) ∧ Rds w' 4 (.slice a' (putL xs x i (hasB xs (U x.h) i)).length c') (putL xs x i (hasB xs (U x.h) i)).length (entsV (putL xs x i (hasB xs (U x.h) i))) ∧ w.grownBy w' none := by
  obtain ⟨i0, hi, hz0, hz1, hz2⟩ := info_parts infoREnt
  have HR := Lib.hid hr
  have HSR : Hid (∀ i j, i < j → j < xs.length → U (xs.getD i Ent.zero).h < U (xs.getD j Ent.zero).h) := Lib.hid (fun i j hij hj => by
    have := (List.pairwise_iff_getElem.1 hs) i j (by omega) hj hij
    simp only [List.getD, List.getElem?_eq_getElem (show i < xs.length by omega), List.getElem?_eq_getElem hj, Option.getD_some]
    exact this)
  have HXC : Hid (x.cells = [.int .u64 (U x.h), .int .i64 x.r, .int .i64 x.a, .int .i64 x.s]) := Lib.hid rfl
  unfold Ent.val
  obtain ⟨h, hh⟩ : ∃ h, U x.h = h := ⟨_, rfl⟩
  obtain ⟨r, hr'⟩ : ∃ r, x.r = r := ⟨_, rfl⟩
  obtain ⟨at', ha'⟩ : ∃ r, x.a = r := ⟨_, rfl⟩
  obtain ⟨s, hs'⟩ : ∃ r, x.s = r := ⟨_, rfl⟩
  rw [hh, hr', ha', hs'] at HXC
  rw [hh, hr', ha', hs']
  clear hr hs hh hr' ha' hs'
  obtain ⟨P, hP⟩ : ∃ P, w.heap.size = P := ⟨_, rfl⟩
  obtain ⟨wx, hwx⟩ : ∃ wx, w.alloc (.cells #[.int .i64 d, .int .i64 p, .slice a xs.length c] 24) = wx := ⟨_, rfl⟩
  obtain ⟨wy, hwy⟩ : ∃ wy, wx.alloc (.cells #[.int .u64 h, .int .i64 r, .int .i64 at', .int .i64 s] 44) = wy := ⟨_, rfl⟩
  obtain ⟨w1, hw1⟩ : ∃ w1, wy.alloc (.cells #[.int .i64 0, .int .i64 0, .slice none 0 0] 24) = w1 := ⟨_, rfl⟩
  obtain ⟨w2, hw2⟩ : ∃ w2, w1.alloc (.cells #[] 44) = w2 := ⟨_, rfl⟩
  have hzx : wx.heap.size = P + 1 := by rw [← hwx, World.size_alloc, hP]
  have hzy : wy.heap.size = P + 1 + 1 := by rw [← hwy, World.size_alloc, hzx]
  have hz1w : w1.heap.size = P + 1 + 1 + 1 := by rw [← hw1, World.size_alloc, hzy]
  have hb0 : Blk w2 P 24 [.int .i64 d, .int .i64 p, .slice a xs.length c] := by rw [← hw2, ← hw1, ← hwy, ← hwx, ← hP]; exact (((Blk.new w _ _).alloc _).alloc _).alloc _
  have hb1 : Blk w2 (P + 1) 44 [.int .u64 h, .int .i64 r, .int .i64 at', .int .i64 s] := by rw [← hw2, ← hw1, ← hwy, ← hzx]; exact ((Blk.new wx _ _).alloc _).alloc _
  have hb2 : Blk w2 (P + 1 + 1) 24 [.int .i64 0, .int .i64 0, .slice none 0 0] := by rw [← hw2, ← hw1, ← hzy]; exact (Blk.new wy _ _).alloc _
  have hb3 : w2.ownsRow (P + 1 + 1 + 1) 44 4 (.slice (some ⟨P + 1 + 1 + 1, 0, none⟩) 0 0) 0 [] := by
    refine owns_empty ?_ (Nat.le_refl _)
    rw [← hw2, ← hz1w]
    exact Blk.new w1 _ []
  have hg2 : w.grownBy w2 none := by rw [← hw2, ← hw1, ← hwy, ← hwx]; exact grownBy_trans (grownBy_trans (grownBy_trans (World.grownBy_alloc _ _ none) (World.grownBy_alloc _ _ none)) (World.grownBy_alloc _ _ none)) (World.grownBy_alloc _ _ none)
  have hs2 : w2.heap.size = P + 1 + 1 + 1 + 1 := by rw [← hw2, World.size_alloc, hz1w]
  have HB0 := Lib.hid hb0
  have HB1 := Lib.hid hb1
  have HB2 := Lib.hid hb2
  have HB3 := Lib.hid hb3
  have HG2 := Lib.hid hg2
  have HPW : Hid (w.heap.size = P) := Lib.hid hP
  have HS2 := Lib.hid hs2
  have HR2 := Lib.hid (HR.out.grown hg2 (by simp))
  have x2 : w1.cell? ⟨P, 2, none⟩ = some (.slice a xs.length c) := by
    have : Blk w1 P 24 [.int .i64 d, .int .i64 p, .slice a xs.length c] := by rw [← hw1, ← hwy, ← hwx, ← hP]; exact ((Blk.new w _ _).alloc _).alloc _
    exact this.cell (j := 2) rfl
  have x2' := hb0.cell (j := 2) rfl
  clear hb0 hb1 hb2 hb3 hg2 hs2
  go_enter Try.func27, Try.ntmps27
  go_wp2_with (at_builtin; refine wpList_append_rds rfl _ _ 22 rfl (P + 1 + 1 + 1) 44 i0 _ 4 32 Try.underlying22 hi hz0 hz1 hz2 rfl (by decide) (v := .slice (some ⟨P + 1 + 1 + 1, 0, none⟩) 0 0) (n := 0) (xs := []) (sv := .slice a xs.length c) rfl HB3.out rfl HR2.out (ents_one xs) (by unfold maxLen; omega) (by omega) (by rw [HS2.out]; omega) ?_; intro v5 w5 h1 h2 _; rw [Nat.zero_add, List.nil_append] at h1; have HB0 := Lib.hid (HB0.out.grown h2 (by simp [Value.ownBlock]; omega)); have HB1 := Lib.hid (HB1.out.grown h2 (by simp [Value.ownBlock])); have HB2 := Lib.hid (HB2.out.grown h2 (by simp [Value.ownBlock])); have G5 := Lib.hid (grownBy_own2 HG2.out HB3.out (by have := HPW.out; omega) h2); have S5 := Lib.hid (Nat.le_trans (Nat.le_of_eq HS2.out.symm) h2.size); have O5 := Lib.hid h1; clear h1 h2 x2 x2'; have x0 := HB0.out.cell (j := 0) rfl; have x1 := HB0.out.cell (j := 1) rfl; have x2 := HB0.out.cell (j := 2) rfl; have y0 := HB1.out.cell (j := 0) rfl)
  obtain ⟨av, cv, rfl⟩ := (Rds.of_owns O5.out).slice
  have HCV : Hid (xs.length ≤ cv) := Lib.hid (by
    rcases O5.out.2 with ⟨h1, h2⟩ | ⟨g, cap, cur, h1, _, _, h4, _⟩
    · omega
    · simp only [Value.slice.injEq, true_and] at h1
      rw [h1.2]; exact h4)
  refine (rfind_any d p h xs a c w5 (by omega) (HR.out.grown G5.out (by simp))).mono ?_
  rintro e w6 ⟨q, rfl, hq, g6⟩
  have HB0 := Lib.hid (HB0.out.grown g6 (by simp))
  have HB1 := Lib.hid (HB1.out.grown g6 (by simp))
  have HB2 := Lib.hid (HB2.out.grown g6 (by simp))
  have G6 := Lib.hid (grownBy_trans G5.out g6)
  have S6 := Lib.hid (Nat.le_trans S5.out g6.size)
  have O6 := Lib.hid (owns_grown O5.out g6)
  clear g6 x0 x1 x2 y0 hw1 hw2 hwx hwy hzx hzy hz1w hP
  have y0 := HB1.out.cell (j := 0) rfl; have y1 := HB1.out.cell (j := 1) rfl; have y2 := HB1.out.cell (j := 2) rfl; have y3 := HB1.out.cell (j := 3) rfl
  rcases hq with ⟨rfl, hno⟩ | ⟨i, rfl, hil, hih⟩
  · have HNO := Lib.hid hno
    clear hno
    go_wp2_with fail
    go_loopw [7] (fun i wr => ∃ k : Nat, k ≤ xs.length ∧ i = .int .i64 k ∧ (∀ m, m < k → U (xs.getD m Ent.zero).h < h) ∧ w6.grownBy wr none) (fun i _ => xs.length - (intOf i).toNat)
    case atStart => exact ⟨0, by omega, rfl, fun m hm => by omega, grownBy_refl _ _⟩
    case round =>
      obtain ⟨k, hk, rfl, hlo, hgr⟩ := hrel
      have HLO := Lib.hid hlo
      have HGR := Lib.hid hgr
      clear hlo hgr y0 y1 y2 y3
      have HB0 := Lib.hid (HB0.out.grown HGR.out (by simp))
      have HB1 := Lib.hid (HB1.out.grown HGR.out (by simp))
      have HB2 := Lib.hid (HB2.out.grown HGR.out (by simp))
      have G9 := Lib.hid (grownBy_trans G6.out HGR.out)
      have S9 := Lib.hid (Nat.le_trans S6.out HGR.out.size)
      have O9 := Lib.hid (owns_grown O6.out HGR.out)
      have y0 := HB1.out.cell (j := 0) rfl
      by_cases hlt : k < xs.length
      · have hki : (k : Int) < (xs.length : Int) := by omega
        obtain ⟨b, o, rfl, hc⟩ := (Rds.of_owns O9.out).at' (by omega)
        obtain ⟨e0, _, _, _⟩ := entsV_cells xs k hlt
        have x0 := hc _ _ e0
        obtain ⟨z, hz⟩ : ∃ z, U (xs.getD k Ent.zero).h = z := ⟨_, rfl⟩
        rw [hz] at x0
        have HZ := Lib.hid hz
        clear hc e0 hz
        by_cases hzh : z < h
        · have hb : decide (z < h) = true := decide_eq_true hzh
          have HLO2 : Hid (∀ m, m < k + 1 → U (xs.getD m Ent.zero).h < h) := Lib.hid (fun m hm => by
            rcases Nat.lt_or_ge m k with h1 | h1
            · exact HLO.out m h1
            · obtain rfl : m = k := by omega
              rw [HZ.out]; exact hzh)
          clear hzh
          go_wp2_with fail
          go_quiet (fail)
          go_wp2_with fail
          exact ⟨⟨k + 1, by omega, by go_num, HLO2.out, grownBy_trans HGR.out (grownBy_drewN _ _ _)⟩, by simp [intOf]; omega⟩
        · have hb : decide (z < h) = false := decide_eq_false hzh
          have HPL : Hid (Plc xs h k) := Lib.hid ⟨hk, HLO.out, fun m hm hm2 => by
            rcases Nat.eq_or_lt_of_le hm with rfl | h1
            · rw [HZ.out]; omega
            · have := HSR.out k m h1 hm2
              rw [HZ.out] at this
              omega⟩
          clear hzh HZ
          go_wp2_with fail
          go_quiet (fail)
          clear x0 y0 hb hki
          have hcvk : ¬ cv = k := by have := (O9.out.2); have := HCV.out; omega
          have hkc : (k : Int) ≤ (cv : Int) := by have := HCV.out; omega
          go_wp2_with fail
          obtain ⟨w9, hw9⟩ : ∃ w9, wr.drewN nq = w9 := ⟨_, rfl⟩
          have hg9 : wr.grownBy w9 none := by rw [← hw9]; exact grownBy_drewN _ _ _
          rw [hw9]
          have HB0 := Lib.hid (HB0.out.grown hg9 (by simp))
          have HB1 := Lib.hid (HB1.out.grown hg9 (by simp))
          have HB2 := Lib.hid (HB2.out.grown hg9 (by simp))
          have G9 := Lib.hid (grownBy_trans G9.out hg9)
          have HBS : Hid (P + 1 + 1 + 1 + 1 ≤ w9.heap.size) := Lib.hid (Nat.le_trans S9.out hg9.size)
          have O9 := Lib.hid (owns_grown O9.out hg9)
          have HLK := Lib.hid (Rds.takeE (Rds.of_owns O9.out) rfl (k) (by first | omega | simp))
          have h1K : ∀ u ∈ entsV (xs.take k), u.oneCell' = true := ents_one _
          have hxc : ([.int .u64 h, .int .i64 r, .int .i64 at', .int .i64 s] : List Value) ≠ [] := by simp
          have y0 := HB1.out.cell (j := 0) rfl; have y1 := HB1.out.cell (j := 1) rfl; have y2 := HB1.out.cell (j := 2) rfl; have y3 := HB1.out.cell (j := 3) rfl
          clear hw9 hg9 S9
          refine wp_region_NG (fun j v => match j with
              | 1 => v = .slice (some ⟨b, o, none⟩) xs.length cv
              | 2 => v = .int .i64 (k : Nat)
              | 3 => v = .slice (some ⟨b, o, none⟩) k cv
              | 5 => v = .agg #[.int .u64 h, .int .i64 r, .int .i64 at', .int .i64 s]
              | _ => True) (GP w9 (P + 1 + 1 + 1 + 1) k (entsV (xs.take k)) [.int .u64 h, .int .i64 r, .int .i64 at', .int .i64 s]) [0, 0, 0, 6, 15, 0, 32, 127, 255] [[], [], [], [1, 2], [0, 3], [], [5], [4, 6], [7]] (by kernel_rfl) (by kernel_rfl) (fun vals => ⟨grownBy_drewN w9 1 none, HBS.out, fun h => (by cases h), fun h => (by cases h), fun h => (by cases h), fun h => (by cases h), fun h => (by cases h), fun h => (by cases h), fun h => (by cases h), fun h => (by cases h)⟩) ?xobs ?xend
          case xobs =>
            refine ngObs_cons (fun D vals W hG hD hC => ?_) (ngObs_cons (fun D vals W hG hD hC => ?_) (ngObs_cons (fun D vals W hG hD hC => ?_) (ngObs_cons (fun D vals W hG hD hC => ?_) (ngObs_cons (fun D vals W hG hD hC => ?_) (ngObs_cons (fun D vals W hG hD hC => ?_) (ngObs_cons (fun D vals W hG hD hC => ?_) (ngObs_cons (fun D vals W hG hD hC => ?_) (ngObs_cons (fun D vals W hG hD hC => ?_) (ngObs_nil)))))))))
            case _ =>
              refine givenV_nil ?_
              (try simp only [Act.put, List.setIfInBounds_toArray, List.set_cons_zero, List.set_cons_succ])
              refine wpOp_list rfl (fun K hK => ?_)
              go_simp
              exact hK _ _ ⟨_, rfl, True.intro, hG.s0 hD⟩
            case _ =>
              (repeat (refine givenV_step rfl (fun v h hv => ?_); (try dsimp only at h); first | subst h | (clear h; subst hv)))
              refine givenV_nil ?_
              (try simp only [Act.put, List.setIfInBounds_toArray, List.set_cons_zero, List.set_cons_succ])
              refine free_read rfl (by rfl) (v := _) ?_ ⟨rfl, hG.keep 1 _ (by decide)⟩
              go_simp
              (try with_reducible rfl)
            case _ =>
              (repeat (refine givenV_step rfl (fun v h hv => ?_); (try dsimp only at h); first | subst h | (clear h; subst hv)))
              refine givenV_nil ?_
              (try simp only [Act.put, List.setIfInBounds_toArray, List.set_cons_zero, List.set_cons_succ])
              refine free_read rfl (by rfl) (v := _) ?_ ⟨rfl, hG.keep 2 _ (by decide)⟩
              go_simp
              (try with_reducible rfl)
            case _ =>
              (repeat (refine givenV_step rfl (fun v h hv => ?_); (try dsimp only at h); first | subst h | (clear h; subst hv)))
              refine givenV_nil ?_
              (try simp only [Act.put, List.setIfInBounds_toArray, List.set_cons_zero, List.set_cons_succ])
              refine free_read rfl (by rfl) (v := _) ?_ ⟨rfl, hG.keep 3 _ (by decide)⟩
              go_simp
              (try with_reducible rfl)
            case _ =>
              obtain ⟨b, hv0, hbB, hbw, hbk⟩ := hG.k0 (hC 0 (by decide) (by decide)) hD
              have hrd := HLK.out.grown hG.grown (by simp)
              (repeat (refine givenV_step rfl (fun v h hv => ?_); (try dsimp only at h); first | subst h | (clear h; subst hv)))
              refine givenV_nil ?_
              (try simp only [Act.put, List.setIfInBounds_toArray, List.set_cons_zero, List.set_cons_succ])
              (try rw [hv0])
              refine wpOp_list rfl (fun K hK => ?_)
              refine step_append_rds (by rfl) _ _ 22 (by rfl) (P + 1 + 1 + 1 + 1) 44 i0 _ 4 32 Try.underlying22 hi hz0 hz1 hz2 rfl (by decide) (v := .slice (some ⟨b, 0, none⟩) 0 0) (n := 0) (xs := []) (by rfl) (owns_empty hbk hbB) (by rfl) hrd h1K (by unfold maxLen; omega) (by omega) hG.size ?_
              intro vv w8 g1 g2 g3
              rw [Nat.zero_add, List.nil_append] at g1
              obtain ⟨a8, c8, rfl⟩ := (Rds.of_owns g1).slice
              refine hK _ _ ⟨_, rfl, True.intro, hG.s4 hxc (hC 0 (by decide) (by decide)) hD a8 c8 b hv0 hbk hbw g2 g1 (fun q hq => ?_)⟩
              rw [hq] at g3
              rcases g3 with e | e
              · simp [Value.ownBlock] at e; omega
              · simp at e; have := hG.grown.size; omega
            case _ =>
              have q0 := hG.grown.cell y0 (by simp); have q1 := hG.grown.cell y1 (by simp); have q2 := hG.grown.cell y2 (by simp); have q3 := hG.grown.cell y3 (by simp)
              (repeat (refine givenV_step rfl (fun v h hv => ?_); (try dsimp only at h); first | subst h | (clear h; subst hv)))
              refine givenV_nil ?_
              (try simp only [Act.put, List.setIfInBounds_toArray, List.set_cons_zero, List.set_cons_succ])
              refine free_read rfl (by rfl) (v := _) ?_ ⟨rfl, hG.keep 5 _ (by decide)⟩
              go_simp
              (try with_reducible rfl)
            case _ =>
              (repeat (refine givenV_step rfl (fun v h hv => ?_); (try dsimp only at h); first | subst h | (clear h; subst hv)))
              refine givenV_nil ?_
              (try simp only [Act.put, List.setIfInBounds_toArray, List.set_cons_zero, List.set_cons_succ])
              refine wpOp_list rfl (fun K hK => ?_)
              go_simp
              exact hK _ _ ⟨_, rfl, True.intro, hG.s6 hD⟩
            case _ =>
              have h4 := hC 4 (by decide) (by decide)
              have h6 := hC 6 (by decide) (by decide)
              obtain ⟨a4, c4, hv4, ho4, hq4⟩ := hG.k4 h4 hD
              obtain ⟨b6, hv6, hb6⟩ := hG.k6 h6 hD
              have hrd := Rds.of_blk (sz := 4) (n := 1) (c := 1) hb6 rfl (by unfold maxLen; omega)
              (repeat (refine givenV_step rfl (fun v h hv => ?_); (try dsimp only at h); first | subst h | (clear h; subst hv)))
              refine givenV_nil ?_
              (try simp only [Act.put, List.setIfInBounds_toArray, List.set_cons_zero, List.set_cons_succ])
              (try rw [hv4, hv6])
              refine wpOp_list rfl (fun K hK => ?_)
              refine step_append_rds (by rfl) _ _ 22 (by rfl) (P + 1 + 1 + 1 + 1) 44 i0 _ 4 32 Try.underlying22 hi hz0 hz1 hz2 rfl (by decide) (v := .slice a4 (k) c4) (n := k) (by rfl) ho4 (by rfl) hrd (by simp [Value.oneCell']) (by unfold maxLen; omega) (by omega) hG.size ?_
              intro vv w8 g1 g2 g3
              obtain ⟨a8, c8, rfl⟩ := (Rds.of_owns g1).slice
              exact hK _ _ ⟨_, rfl, True.intro, hG.s7 h4 h6 (hC 0 (by decide) (by decide)) hD a8 a4 c8 c4 hq4 ho4 g2 g1⟩
            case _ =>
              (repeat (refine givenV_step rfl (fun v h hv => ?_); (try dsimp only at h); first | subst h | (clear h; subst hv)))
              refine givenV_nil ?_
              (try simp only [Act.put, List.setIfInBounds_toArray, List.set_cons_zero, List.set_cons_succ])
              refine free_read rfl (by rfl) (v := vals 7) ?_ ⟨True.intro, hG.s8 (hC 7 (by decide) (by decide))⟩
              go_simp
              (try with_reducible rfl)
          case xend =>
            intro D vals W hG hD
            obtain ⟨a8, c8, e7, ho8, -⟩ : ∃ a c, vals 7 = .slice a (k + 1) c ∧ W.ownsRow (P + 1 + 1 + 1 + 1) 44 4 (.slice a (k + 1) c) (k + 1) (entsV (xs.take k) ++ [.int .u64 h, .int .i64 r, .int .i64 at', .int .i64 s]) ∧ True := by
              obtain ⟨a, c, h1, h2⟩ := hG.k7 (hD 7 (by decide))
              exact ⟨a, c, h1, h2, trivial⟩
            have e8 := hG.k8 (hD 8 (by decide))
            rw [e7] at e8
            have hgW := hG.grown
            (repeat (refine givenV_step rfl (fun v h hv => ?_); (try dsimp only at h); first | subst h | (clear h; subst hv)))
            refine givenV_nil ?_
            (try simp only [Act.put, List.setIfInBounds_toArray, List.set_cons_zero, List.set_cons_succ])
            (try rw [e8])
            have HB0 := Lib.hid (HB0.out.grown hgW (by simp))
            have HB2 := Lib.hid (HB2.out.grown hgW (by simp))
            have G10 := Lib.hid (grownBy_trans G9.out hgW)
            have HZ := Lib.hid (Nat.le_trans HBS.out hgW.size)
            have O10 := Lib.hid (owns_grown O9.out hgW)
            have HO8 := Lib.hid ho8
            have HDR := Lib.hid (show Rds W 4 (.slice (some ⟨b, o + k * 4, none⟩) (xs.length - k) (cv - k)) (xs.length - k) (entsV (xs.drop k)) from Rds.dropE (Rds.of_owns O10.out) rfl k hk _)
            have h1D : ∀ u ∈ entsV (xs.drop k), u.oneCell' = true := ents_one _
            clear e7 e8 ho8 hgW hG hD y0 y1 y2 y3
            go_wp2_with (at_builtin; refine wpList_append_rds rfl _ _ 22 rfl (P + 1 + 1 + 1 + 1) 44 i0 _ 4 32 Try.underlying22 hi hz0 hz1 hz2 rfl (by decide) (v := .slice a8 (k + 1) c8) (n := k + 1) (sv := .slice (some ⟨b, o + k * 4, none⟩) (xs.length - k) (cv - k)) rfl HO8.out rfl HDR.out h1D (by unfold maxLen; omega) (by omega) HZ.out ?_; intro v10 w10 h1 h2 _; (obtain ⟨a10, c10, rfl⟩ := (Rds.of_owns h1).slice); (obtain ⟨nn, hnn⟩ : ∃ nn, k + 1 + (xs.length - k) = nn := ⟨_, rfl⟩); rw [hnn] at h1; rw [hnn]; have HNN := Lib.hid hnn; have hrow : ∀ z, (Value.slice a8 (k + 1) c8).ownBlock = some z → P + 1 + 1 + 1 + 1 ≤ z := (fun z hz => (HO8.out.lt z hz).1); have HB0 := Lib.hid (HB0.out.grown h2 (fun e => by have := hrow _ e.symm; omega)); have HB2 := Lib.hid (HB2.out.grown h2 (fun e => by have := hrow _ e.symm; omega)); have G11 := Lib.hid (grownBy_own2 G10.out HO8.out (by have := HPW.out; omega) h2); have O11 := Lib.hid h1; clear h1 h2 hrow hnn; (obtain ⟨wp, hwp⟩ : ∃ wp, w10.setCell ⟨P, 2, none⟩ (.slice a10 nn c10) = wp := ⟨_, rfl⟩); have hgp : w10.grownBy wp (some P) := (by rw [← hwp]; exact grownBy_setCell _ _ _); have hPp : Blk wp P 24 [.int .i64 d, .int .i64 p, .slice a10 nn c10] := (by rw [← hwp]; exact HB0.out.setCell 2 (.slice a10 nn c10)); have HRp := Lib.hid (HB2.out.grown hgp (by simp; omega)); have Gp := Lib.hid (grownBy_base2 G11.out hgp (by have := HPW.out; omega)); have Op := Lib.hid (O11.out.kept hgp (.inr (fun e => by have := (O11.out.lt _ e).1; omega))); have p2o := HB0.out.cell (j := 2) rfl; have pf2 := HB0.out.frozen 2; have p0 := hPp.cell (j := 0) rfl; have p1 := hPp.cell (j := 1) rfl; have p2 := hPp.cell (j := 2) rfl; have r0 := HRp.out.cell (j := 0) rfl; have r1 := HRp.out.cell (j := 1) rfl; have r2 := HRp.out.cell (j := 2) rfl; have rf0 := HRp.out.frozen 0; have rf1 := HRp.out.frozen 1; have rf2 := HRp.out.frozen 2; clear hgp hPp)
            have hbf := ((HRp.out.setCell 0 (.int .i64 d)).setCell 1 (.int .i64 p)).setCell 2 (.slice a10 nn c10)
            have hgf : wp.grownBy (((wp.setCell ⟨P + 1 + 1, 0, none⟩ (.int .i64 d)).setCell ⟨P + 1 + 1, 1, none⟩ (.int .i64 p)).setCell ⟨P + 1 + 1, 2, none⟩ (.slice a10 nn c10)) (some (P + 1 + 1)) := grownBy_trans (grownBy_trans (grownBy_setCell _ _ _) (grownBy_setCell _ _ _)) (grownBy_setCell _ _ _)
            simp only [List.set_cons_zero, List.set_cons_succ] at hbf
            have z0 := hbf.cell (j := 0) rfl; have z1 := hbf.cell (j := 1) rfl; have z2 := hbf.cell (j := 2) rfl
            refine bodyPost_ret (v := .agg #[.int .i64 d, .int .i64 p, .slice a10 nn c10]) (by simp [results, Try.results27, go_sem, z0, z1, z2]) rfl ?_
            have hhb : hasB xs h (k) = false := by unfold hasB; rw [decide_eq_false (HNO.out k hlt), Bool.and_false]
            have hput : putL xs x (k) (hasB xs h (k)) = xs.take (k) ++ x :: xs.drop (k) := by rw [hhb]; rfl
            have hll : (xs.take (k) ++ x :: xs.drop (k)).length = nn := by rw [← HNN.out, List.length_append, List.length_cons, List.length_take, List.length_drop]; (try (first | omega | (simp; done) | (simp; omega)))
            refine ⟨k, HPL.out, a10, c10, by rw [hput, hll], ?_, grownBy_base2 Gp.out hgf (by have := HPW.out; omega)⟩
            rw [hput, hll]
            have hev : entsV (xs.take (k) ++ x :: xs.drop (k)) = (entsV (xs.take (k)) ++ [.int .u64 h, .int .i64 r, .int .i64 at', .int .i64 s]) ++ entsV (xs.drop (k)) := by
              rw [entsV_app, show x :: xs.drop (k) = [x] ++ xs.drop (k) from rfl, entsV_app, entsV_one, HXC.out, List.append_assoc]
            rw [hev]
            refine (Rds.of_owns Op.out).grown hgf (fun z hz e => ?_)
            cases hz
            have := (Op.out.lt _ e).1
            omega
      · obtain rfl : k = xs.length := by omega
        have hki : ¬ (xs.length : Int) < (xs.length : Int) := by omega
        have HPL : Hid (Plc xs h xs.length) := Lib.hid ⟨hk, HLO.out, fun m hm hm2 => by omega⟩
        cases av with
        | none =>
          have hxs : xs = [] := by
            rcases O9.out.2 with ⟨h1, h2⟩ | ⟨g, cap, cur, h1, _⟩
            · exact List.eq_nil_of_length_eq_zero h2
            · simp at h1
          have hcv0 : cv = 0 := by
            rcases O9.out.2 with ⟨h1, h2⟩ | ⟨g, cap, cur, h1, _⟩
            · simp at h1
              exact h1.2
            · simp at h1
          subst hxs hcv0
          go_wp2_with fail
          go_quiet (fail)
          clear y0 hki
          go_wp2_with fail
          obtain ⟨w9, hw9⟩ : ∃ w9, wr.drewN nq = w9 := ⟨_, rfl⟩
          have hg9 : wr.grownBy w9 none := by rw [← hw9]; exact grownBy_drewN _ _ _
          rw [hw9]
          have HB0 := Lib.hid (HB0.out.grown hg9 (by simp))
          have HB1 := Lib.hid (HB1.out.grown hg9 (by simp))
          have HB2 := Lib.hid (HB2.out.grown hg9 (by simp))
          have G9 := Lib.hid (grownBy_trans G9.out hg9)
          have HBS : Hid (P + 1 + 1 + 1 + 1 ≤ w9.heap.size) := Lib.hid (Nat.le_trans S9.out hg9.size)
          have O9 := Lib.hid (owns_grown O9.out hg9)
          have HLK := Lib.hid (Rds.takeE (Rds.of_owns O9.out) rfl (0) (by first | omega | simp))
          have h1K : ∀ u ∈ entsV (([] : List Ent).take 0), u.oneCell' = true := ents_one _
          have hxc : ([.int .u64 h, .int .i64 r, .int .i64 at', .int .i64 s] : List Value) ≠ [] := by simp
          have y0 := HB1.out.cell (j := 0) rfl; have y1 := HB1.out.cell (j := 1) rfl; have y2 := HB1.out.cell (j := 2) rfl; have y3 := HB1.out.cell (j := 3) rfl
          clear hw9 hg9 S9
          refine wp_region_NG (fun j v => match j with
              | 1 => v = .slice none 0 0
              | 2 => v = .int .i64 (0 : Nat)
              | 3 => v = .slice none 0 0
              | 5 => v = .agg #[.int .u64 h, .int .i64 r, .int .i64 at', .int .i64 s]
              | _ => True) (GP w9 (P + 1 + 1 + 1 + 1) 0 (entsV (([] : List Ent).take 0)) [.int .u64 h, .int .i64 r, .int .i64 at', .int .i64 s]) [0, 0, 0, 6, 15, 0, 32, 127, 255] [[], [], [], [1, 2], [0, 3], [], [5], [4, 6], [7]] (by kernel_rfl) (by kernel_rfl) (fun vals => ⟨grownBy_drewN w9 1 none, HBS.out, fun h => (by cases h), fun h => (by cases h), fun h => (by cases h), fun h => (by cases h), fun h => (by cases h), fun h => (by cases h), fun h => (by cases h), fun h => (by cases h)⟩) ?xobs ?xend
          case xobs =>
            refine ngObs_cons (fun D vals W hG hD hC => ?_) (ngObs_cons (fun D vals W hG hD hC => ?_) (ngObs_cons (fun D vals W hG hD hC => ?_) (ngObs_cons (fun D vals W hG hD hC => ?_) (ngObs_cons (fun D vals W hG hD hC => ?_) (ngObs_cons (fun D vals W hG hD hC => ?_) (ngObs_cons (fun D vals W hG hD hC => ?_) (ngObs_cons (fun D vals W hG hD hC => ?_) (ngObs_cons (fun D vals W hG hD hC => ?_) (ngObs_nil)))))))))
            case _ =>
              refine givenV_nil ?_
              (try simp only [Act.put, List.setIfInBounds_toArray, List.set_cons_zero, List.set_cons_succ])
              refine wpOp_list rfl (fun K hK => ?_)
              go_simp
              exact hK _ _ ⟨_, rfl, True.intro, hG.s0 hD⟩
            case _ =>
              (repeat (refine givenV_step rfl (fun v h hv => ?_); (try dsimp only at h); first | subst h | (clear h; subst hv)))
              refine givenV_nil ?_
              (try simp only [Act.put, List.setIfInBounds_toArray, List.set_cons_zero, List.set_cons_succ])
              refine free_read rfl (by rfl) (v := _) ?_ ⟨rfl, hG.keep 1 _ (by decide)⟩
              go_simp
              (try with_reducible rfl)
            case _ =>
              (repeat (refine givenV_step rfl (fun v h hv => ?_); (try dsimp only at h); first | subst h | (clear h; subst hv)))
              refine givenV_nil ?_
              (try simp only [Act.put, List.setIfInBounds_toArray, List.set_cons_zero, List.set_cons_succ])
              refine free_read rfl (by rfl) (v := _) ?_ ⟨rfl, hG.keep 2 _ (by decide)⟩
              go_simp
              (try with_reducible rfl)
            case _ =>
              (repeat (refine givenV_step rfl (fun v h hv => ?_); (try dsimp only at h); first | subst h | (clear h; subst hv)))
              refine givenV_nil ?_
              (try simp only [Act.put, List.setIfInBounds_toArray, List.set_cons_zero, List.set_cons_succ])
              refine free_read rfl (by rfl) (v := _) ?_ ⟨rfl, hG.keep 3 _ (by decide)⟩
              go_simp
              (try with_reducible rfl)
            case _ =>
              obtain ⟨b, hv0, hbB, hbw, hbk⟩ := hG.k0 (hC 0 (by decide) (by decide)) hD
              have hrd := HLK.out.grown hG.grown (by simp)
              (repeat (refine givenV_step rfl (fun v h hv => ?_); (try dsimp only at h); first | subst h | (clear h; subst hv)))
              refine givenV_nil ?_
              (try simp only [Act.put, List.setIfInBounds_toArray, List.set_cons_zero, List.set_cons_succ])
              (try rw [hv0])
              refine wpOp_list rfl (fun K hK => ?_)
              refine step_append_rds (by rfl) _ _ 22 (by rfl) (P + 1 + 1 + 1 + 1) 44 i0 _ 4 32 Try.underlying22 hi hz0 hz1 hz2 rfl (by decide) (v := .slice (some ⟨b, 0, none⟩) 0 0) (n := 0) (xs := []) (by rfl) (owns_empty hbk hbB) (by rfl) hrd h1K (by unfold maxLen; omega) (by omega) hG.size ?_
              intro vv w8 g1 g2 g3
              rw [Nat.zero_add, List.nil_append] at g1
              obtain ⟨a8, c8, rfl⟩ := (Rds.of_owns g1).slice
              refine hK _ _ ⟨_, rfl, True.intro, hG.s4 hxc (hC 0 (by decide) (by decide)) hD a8 c8 b hv0 hbk hbw g2 g1 (fun q hq => ?_)⟩
              rw [hq] at g3
              rcases g3 with e | e
              · simp [Value.ownBlock] at e; omega
              · simp at e; have := hG.grown.size; omega
            case _ =>
              have q0 := hG.grown.cell y0 (by simp); have q1 := hG.grown.cell y1 (by simp); have q2 := hG.grown.cell y2 (by simp); have q3 := hG.grown.cell y3 (by simp)
              (repeat (refine givenV_step rfl (fun v h hv => ?_); (try dsimp only at h); first | subst h | (clear h; subst hv)))
              refine givenV_nil ?_
              (try simp only [Act.put, List.setIfInBounds_toArray, List.set_cons_zero, List.set_cons_succ])
              refine free_read rfl (by rfl) (v := _) ?_ ⟨rfl, hG.keep 5 _ (by decide)⟩
              go_simp
              (try with_reducible rfl)
            case _ =>
              (repeat (refine givenV_step rfl (fun v h hv => ?_); (try dsimp only at h); first | subst h | (clear h; subst hv)))
              refine givenV_nil ?_
              (try simp only [Act.put, List.setIfInBounds_toArray, List.set_cons_zero, List.set_cons_succ])
              refine wpOp_list rfl (fun K hK => ?_)
              go_simp
              exact hK _ _ ⟨_, rfl, True.intro, hG.s6 hD⟩
            case _ =>
              have h4 := hC 4 (by decide) (by decide)
              have h6 := hC 6 (by decide) (by decide)
              obtain ⟨a4, c4, hv4, ho4, hq4⟩ := hG.k4 h4 hD
              obtain ⟨b6, hv6, hb6⟩ := hG.k6 h6 hD
              have hrd := Rds.of_blk (sz := 4) (n := 1) (c := 1) hb6 rfl (by unfold maxLen; omega)
              (repeat (refine givenV_step rfl (fun v h hv => ?_); (try dsimp only at h); first | subst h | (clear h; subst hv)))
              refine givenV_nil ?_
              (try simp only [Act.put, List.setIfInBounds_toArray, List.set_cons_zero, List.set_cons_succ])
              (try rw [hv4, hv6])
              refine wpOp_list rfl (fun K hK => ?_)
              refine step_append_rds (by rfl) _ _ 22 (by rfl) (P + 1 + 1 + 1 + 1) 44 i0 _ 4 32 Try.underlying22 hi hz0 hz1 hz2 rfl (by decide) (v := .slice a4 (0) c4) (n := 0) (by rfl) ho4 (by rfl) hrd (by simp [Value.oneCell']) (by unfold maxLen; omega) (by omega) hG.size ?_
              intro vv w8 g1 g2 g3
              obtain ⟨a8, c8, rfl⟩ := (Rds.of_owns g1).slice
              exact hK _ _ ⟨_, rfl, True.intro, hG.s7 h4 h6 (hC 0 (by decide) (by decide)) hD a8 a4 c8 c4 hq4 ho4 g2 g1⟩
            case _ =>
              (repeat (refine givenV_step rfl (fun v h hv => ?_); (try dsimp only at h); first | subst h | (clear h; subst hv)))
              refine givenV_nil ?_
              (try simp only [Act.put, List.setIfInBounds_toArray, List.set_cons_zero, List.set_cons_succ])
              refine free_read rfl (by rfl) (v := vals 7) ?_ ⟨True.intro, hG.s8 (hC 7 (by decide) (by decide))⟩
              go_simp
              (try with_reducible rfl)
          case xend =>
            intro D vals W hG hD
            obtain ⟨a8, c8, e7, ho8, -⟩ : ∃ a c, vals 7 = .slice a (0 + 1) c ∧ W.ownsRow (P + 1 + 1 + 1 + 1) 44 4 (.slice a (0 + 1) c) (0 + 1) (entsV (([] : List Ent).take 0) ++ [.int .u64 h, .int .i64 r, .int .i64 at', .int .i64 s]) ∧ True := by
              obtain ⟨a, c, h1, h2⟩ := hG.k7 (hD 7 (by decide))
              exact ⟨a, c, h1, h2, trivial⟩
            have e8 := hG.k8 (hD 8 (by decide))
            rw [e7] at e8
            have hgW := hG.grown
            (repeat (refine givenV_step rfl (fun v h hv => ?_); (try dsimp only at h); first | subst h | (clear h; subst hv)))
            refine givenV_nil ?_
            (try simp only [Act.put, List.setIfInBounds_toArray, List.set_cons_zero, List.set_cons_succ])
            (try rw [e8])
            have HB0 := Lib.hid (HB0.out.grown hgW (by simp))
            have HB2 := Lib.hid (HB2.out.grown hgW (by simp))
            have G10 := Lib.hid (grownBy_trans G9.out hgW)
            have HZ := Lib.hid (Nat.le_trans HBS.out hgW.size)
            have O10 := Lib.hid (owns_grown O9.out hgW)
            have HO8 := Lib.hid ho8
            have HDR := Lib.hid (show Rds W 4 (.slice none 0 0) (0) (entsV (([] : List Ent).drop 0)) from Rds.nil _ _)
            have h1D : ∀ u ∈ entsV (([] : List Ent).drop 0), u.oneCell' = true := ents_one _
            clear e7 e8 ho8 hgW hG hD y0 y1 y2 y3
            go_wp2_with (at_builtin; refine wpList_append_rds rfl _ _ 22 rfl (P + 1 + 1 + 1 + 1) 44 i0 _ 4 32 Try.underlying22 hi hz0 hz1 hz2 rfl (by decide) (v := .slice a8 (0 + 1) c8) (n := 0 + 1) (sv := .slice none 0 0) rfl HO8.out rfl HDR.out h1D (by unfold maxLen; omega) (by omega) HZ.out ?_; intro v10 w10 h1 h2 _; (obtain ⟨a10, c10, rfl⟩ := (Rds.of_owns h1).slice); (obtain ⟨nn, hnn⟩ : ∃ nn, 0 + 1 + (0) = nn := ⟨_, rfl⟩); rw [hnn] at h1; rw [hnn]; have HNN := Lib.hid hnn; have hrow : ∀ z, (Value.slice a8 (0 + 1) c8).ownBlock = some z → P + 1 + 1 + 1 + 1 ≤ z := (fun z hz => (HO8.out.lt z hz).1); have HB0 := Lib.hid (HB0.out.grown h2 (fun e => by have := hrow _ e.symm; omega)); have HB2 := Lib.hid (HB2.out.grown h2 (fun e => by have := hrow _ e.symm; omega)); have G11 := Lib.hid (grownBy_own2 G10.out HO8.out (by have := HPW.out; omega) h2); have O11 := Lib.hid h1; clear h1 h2 hrow hnn; (obtain ⟨wp, hwp⟩ : ∃ wp, w10.setCell ⟨P, 2, none⟩ (.slice a10 nn c10) = wp := ⟨_, rfl⟩); have hgp : w10.grownBy wp (some P) := (by rw [← hwp]; exact grownBy_setCell _ _ _); have hPp : Blk wp P 24 [.int .i64 d, .int .i64 p, .slice a10 nn c10] := (by rw [← hwp]; exact HB0.out.setCell 2 (.slice a10 nn c10)); have HRp := Lib.hid (HB2.out.grown hgp (by simp; omega)); have Gp := Lib.hid (grownBy_base2 G11.out hgp (by have := HPW.out; omega)); have Op := Lib.hid (O11.out.kept hgp (.inr (fun e => by have := (O11.out.lt _ e).1; omega))); have p2o := HB0.out.cell (j := 2) rfl; have pf2 := HB0.out.frozen 2; have p0 := hPp.cell (j := 0) rfl; have p1 := hPp.cell (j := 1) rfl; have p2 := hPp.cell (j := 2) rfl; have r0 := HRp.out.cell (j := 0) rfl; have r1 := HRp.out.cell (j := 1) rfl; have r2 := HRp.out.cell (j := 2) rfl; have rf0 := HRp.out.frozen 0; have rf1 := HRp.out.frozen 1; have rf2 := HRp.out.frozen 2; clear hgp hPp)
            have hbf := ((HRp.out.setCell 0 (.int .i64 d)).setCell 1 (.int .i64 p)).setCell 2 (.slice a10 nn c10)
            have hgf : wp.grownBy (((wp.setCell ⟨P + 1 + 1, 0, none⟩ (.int .i64 d)).setCell ⟨P + 1 + 1, 1, none⟩ (.int .i64 p)).setCell ⟨P + 1 + 1, 2, none⟩ (.slice a10 nn c10)) (some (P + 1 + 1)) := grownBy_trans (grownBy_trans (grownBy_setCell _ _ _) (grownBy_setCell _ _ _)) (grownBy_setCell _ _ _)
            simp only [List.set_cons_zero, List.set_cons_succ] at hbf
            have z0 := hbf.cell (j := 0) rfl; have z1 := hbf.cell (j := 1) rfl; have z2 := hbf.cell (j := 2) rfl
            refine bodyPost_ret (v := .agg #[.int .i64 d, .int .i64 p, .slice a10 nn c10]) (by simp [results, Try.results27, go_sem, z0, z1, z2]) rfl ?_
            have hhb : hasB ([] : List Ent) h (0) = false := by unfold hasB; rw [decide_eq_false (by simp), Bool.false_and]
            have hput : putL ([] : List Ent) x (0) (hasB ([] : List Ent) h (0)) = ([] : List Ent).take (0) ++ x :: ([] : List Ent).drop (0) := by rw [hhb]; rfl
            have hll : (([] : List Ent).take (0) ++ x :: ([] : List Ent).drop (0)).length = nn := by rw [← HNN.out, List.length_append, List.length_cons, List.length_take, List.length_drop]; (try (first | omega | (simp; done) | (simp; omega)))
            refine ⟨0, HPL.out, a10, c10, by rw [hput, hll], ?_, grownBy_base2 Gp.out hgf (by have := HPW.out; omega)⟩
            rw [hput, hll]
            have hev : entsV (([] : List Ent).take (0) ++ x :: ([] : List Ent).drop (0)) = (entsV (([] : List Ent).take (0)) ++ [.int .u64 h, .int .i64 r, .int .i64 at', .int .i64 s]) ++ entsV (([] : List Ent).drop (0)) := by
              rw [entsV_app, show x :: ([] : List Ent).drop (0) = [x] ++ ([] : List Ent).drop (0) from rfl, entsV_app, entsV_one, HXC.out, List.append_assoc]
            rw [hev]
            refine (Rds.of_owns Op.out).grown hgf (fun z hz e => ?_)
            cases hz
            have := (Op.out.lt _ e).1
            omega
        | some ad =>
          have hkc : (xs.length : Int) ≤ (cv : Int) := by have := HCV.out; omega
          by_cases hcvn : cv = xs.length
          · subst hcvn
            go_wp2_with fail
            go_quiet (fail)
            clear y0 hki
            go_wp2_with fail
            obtain ⟨w9, hw9⟩ : ∃ w9, wr.drewN nq = w9 := ⟨_, rfl⟩
            have hg9 : wr.grownBy w9 none := by rw [← hw9]; exact grownBy_drewN _ _ _
            rw [hw9]
            have HB0 := Lib.hid (HB0.out.grown hg9 (by simp))
            have HB1 := Lib.hid (HB1.out.grown hg9 (by simp))
            have HB2 := Lib.hid (HB2.out.grown hg9 (by simp))
            have G9 := Lib.hid (grownBy_trans G9.out hg9)
            have HBS : Hid (P + 1 + 1 + 1 + 1 ≤ w9.heap.size) := Lib.hid (Nat.le_trans S9.out hg9.size)
            have O9 := Lib.hid (owns_grown O9.out hg9)
            have HLK := Lib.hid (Rds.takeE (Rds.of_owns O9.out) rfl (xs.length) (by first | omega | simp))
            have h1K : ∀ u ∈ entsV (xs.take xs.length), u.oneCell' = true := ents_one _
            have hxc : ([.int .u64 h, .int .i64 r, .int .i64 at', .int .i64 s] : List Value) ≠ [] := by simp
            have y0 := HB1.out.cell (j := 0) rfl; have y1 := HB1.out.cell (j := 1) rfl; have y2 := HB1.out.cell (j := 2) rfl; have y3 := HB1.out.cell (j := 3) rfl
            clear hw9 hg9 S9
            refine wp_region_NG (fun j v => match j with
                | 1 => v = .slice (some ad) xs.length xs.length
                | 2 => v = .int .i64 (xs.length : Nat)
                | 3 => v = .slice (some ad) xs.length xs.length
                | 5 => v = .agg #[.int .u64 h, .int .i64 r, .int .i64 at', .int .i64 s]
                | _ => True) (GP w9 (P + 1 + 1 + 1 + 1) xs.length (entsV (xs.take xs.length)) [.int .u64 h, .int .i64 r, .int .i64 at', .int .i64 s]) [0, 0, 0, 6, 15, 0, 32, 127, 255] [[], [], [], [1, 2], [0, 3], [], [5], [4, 6], [7]] (by kernel_rfl) (by kernel_rfl) (fun vals => ⟨grownBy_drewN w9 1 none, HBS.out, fun h => (by cases h), fun h => (by cases h), fun h => (by cases h), fun h => (by cases h), fun h => (by cases h), fun h => (by cases h), fun h => (by cases h), fun h => (by cases h)⟩) ?xobs ?xend
            case xobs =>
              refine ngObs_cons (fun D vals W hG hD hC => ?_) (ngObs_cons (fun D vals W hG hD hC => ?_) (ngObs_cons (fun D vals W hG hD hC => ?_) (ngObs_cons (fun D vals W hG hD hC => ?_) (ngObs_cons (fun D vals W hG hD hC => ?_) (ngObs_cons (fun D vals W hG hD hC => ?_) (ngObs_cons (fun D vals W hG hD hC => ?_) (ngObs_cons (fun D vals W hG hD hC => ?_) (ngObs_cons (fun D vals W hG hD hC => ?_) (ngObs_nil)))))))))
              case _ =>
                refine givenV_nil ?_
                (try simp only [Act.put, List.setIfInBounds_toArray, List.set_cons_zero, List.set_cons_succ])
                refine wpOp_list rfl (fun K hK => ?_)
                go_simp
                exact hK _ _ ⟨_, rfl, True.intro, hG.s0 hD⟩
              case _ =>
                (repeat (refine givenV_step rfl (fun v h hv => ?_); (try dsimp only at h); first | subst h | (clear h; subst hv)))
                refine givenV_nil ?_
                (try simp only [Act.put, List.setIfInBounds_toArray, List.set_cons_zero, List.set_cons_succ])
                refine free_read rfl (by rfl) (v := _) ?_ ⟨rfl, hG.keep 1 _ (by decide)⟩
                go_simp
                (try with_reducible rfl)
              case _ =>
                (repeat (refine givenV_step rfl (fun v h hv => ?_); (try dsimp only at h); first | subst h | (clear h; subst hv)))
                refine givenV_nil ?_
                (try simp only [Act.put, List.setIfInBounds_toArray, List.set_cons_zero, List.set_cons_succ])
                refine free_read rfl (by rfl) (v := _) ?_ ⟨rfl, hG.keep 2 _ (by decide)⟩
                go_simp
                (try with_reducible rfl)
              case _ =>
                (repeat (refine givenV_step rfl (fun v h hv => ?_); (try dsimp only at h); first | subst h | (clear h; subst hv)))
                refine givenV_nil ?_
                (try simp only [Act.put, List.setIfInBounds_toArray, List.set_cons_zero, List.set_cons_succ])
                refine free_read rfl (by rfl) (v := _) ?_ ⟨rfl, hG.keep 3 _ (by decide)⟩
                go_simp
                (try with_reducible rfl)
              case _ =>
                obtain ⟨b, hv0, hbB, hbw, hbk⟩ := hG.k0 (hC 0 (by decide) (by decide)) hD
                have hrd := HLK.out.grown hG.grown (by simp)
                (repeat (refine givenV_step rfl (fun v h hv => ?_); (try dsimp only at h); first | subst h | (clear h; subst hv)))
                refine givenV_nil ?_
                (try simp only [Act.put, List.setIfInBounds_toArray, List.set_cons_zero, List.set_cons_succ])
                (try rw [hv0])
                refine wpOp_list rfl (fun K hK => ?_)
                refine step_append_rds (by rfl) _ _ 22 (by rfl) (P + 1 + 1 + 1 + 1) 44 i0 _ 4 32 Try.underlying22 hi hz0 hz1 hz2 rfl (by decide) (v := .slice (some ⟨b, 0, none⟩) 0 0) (n := 0) (xs := []) (by rfl) (owns_empty hbk hbB) (by rfl) hrd h1K (by unfold maxLen; omega) (by omega) hG.size ?_
                intro vv w8 g1 g2 g3
                rw [Nat.zero_add, List.nil_append] at g1
                obtain ⟨a8, c8, rfl⟩ := (Rds.of_owns g1).slice
                refine hK _ _ ⟨_, rfl, True.intro, hG.s4 hxc (hC 0 (by decide) (by decide)) hD a8 c8 b hv0 hbk hbw g2 g1 (fun q hq => ?_)⟩
                rw [hq] at g3
                rcases g3 with e | e
                · simp [Value.ownBlock] at e; omega
                · simp at e; have := hG.grown.size; omega
              case _ =>
                have q0 := hG.grown.cell y0 (by simp); have q1 := hG.grown.cell y1 (by simp); have q2 := hG.grown.cell y2 (by simp); have q3 := hG.grown.cell y3 (by simp)
                (repeat (refine givenV_step rfl (fun v h hv => ?_); (try dsimp only at h); first | subst h | (clear h; subst hv)))
                refine givenV_nil ?_
                (try simp only [Act.put, List.setIfInBounds_toArray, List.set_cons_zero, List.set_cons_succ])
                refine free_read rfl (by rfl) (v := _) ?_ ⟨rfl, hG.keep 5 _ (by decide)⟩
                go_simp
                (try with_reducible rfl)
              case _ =>
                (repeat (refine givenV_step rfl (fun v h hv => ?_); (try dsimp only at h); first | subst h | (clear h; subst hv)))
                refine givenV_nil ?_
                (try simp only [Act.put, List.setIfInBounds_toArray, List.set_cons_zero, List.set_cons_succ])
                refine wpOp_list rfl (fun K hK => ?_)
                go_simp
                exact hK _ _ ⟨_, rfl, True.intro, hG.s6 hD⟩
              case _ =>
                have h4 := hC 4 (by decide) (by decide)
                have h6 := hC 6 (by decide) (by decide)
                obtain ⟨a4, c4, hv4, ho4, hq4⟩ := hG.k4 h4 hD
                obtain ⟨b6, hv6, hb6⟩ := hG.k6 h6 hD
                have hrd := Rds.of_blk (sz := 4) (n := 1) (c := 1) hb6 rfl (by unfold maxLen; omega)
                (repeat (refine givenV_step rfl (fun v h hv => ?_); (try dsimp only at h); first | subst h | (clear h; subst hv)))
                refine givenV_nil ?_
                (try simp only [Act.put, List.setIfInBounds_toArray, List.set_cons_zero, List.set_cons_succ])
                (try rw [hv4, hv6])
                refine wpOp_list rfl (fun K hK => ?_)
                refine step_append_rds (by rfl) _ _ 22 (by rfl) (P + 1 + 1 + 1 + 1) 44 i0 _ 4 32 Try.underlying22 hi hz0 hz1 hz2 rfl (by decide) (v := .slice a4 (xs.length) c4) (n := xs.length) (by rfl) ho4 (by rfl) hrd (by simp [Value.oneCell']) (by unfold maxLen; omega) (by omega) hG.size ?_
                intro vv w8 g1 g2 g3
                obtain ⟨a8, c8, rfl⟩ := (Rds.of_owns g1).slice
                exact hK _ _ ⟨_, rfl, True.intro, hG.s7 h4 h6 (hC 0 (by decide) (by decide)) hD a8 a4 c8 c4 hq4 ho4 g2 g1⟩
              case _ =>
                (repeat (refine givenV_step rfl (fun v h hv => ?_); (try dsimp only at h); first | subst h | (clear h; subst hv)))
                refine givenV_nil ?_
                (try simp only [Act.put, List.setIfInBounds_toArray, List.set_cons_zero, List.set_cons_succ])
                refine free_read rfl (by rfl) (v := vals 7) ?_ ⟨True.intro, hG.s8 (hC 7 (by decide) (by decide))⟩
                go_simp
                (try with_reducible rfl)
            case xend =>
              intro D vals W hG hD
              obtain ⟨a8, c8, e7, ho8, -⟩ : ∃ a c, vals 7 = .slice a (xs.length + 1) c ∧ W.ownsRow (P + 1 + 1 + 1 + 1) 44 4 (.slice a (xs.length + 1) c) (xs.length + 1) (entsV (xs.take xs.length) ++ [.int .u64 h, .int .i64 r, .int .i64 at', .int .i64 s]) ∧ True := by
                obtain ⟨a, c, h1, h2⟩ := hG.k7 (hD 7 (by decide))
                exact ⟨a, c, h1, h2, trivial⟩
              have e8 := hG.k8 (hD 8 (by decide))
              rw [e7] at e8
              have hgW := hG.grown
              (repeat (refine givenV_step rfl (fun v h hv => ?_); (try dsimp only at h); first | subst h | (clear h; subst hv)))
              refine givenV_nil ?_
              (try simp only [Act.put, List.setIfInBounds_toArray, List.set_cons_zero, List.set_cons_succ])
              (try rw [e8])
              have HB0 := Lib.hid (HB0.out.grown hgW (by simp))
              have HB2 := Lib.hid (HB2.out.grown hgW (by simp))
              have G10 := Lib.hid (grownBy_trans G9.out hgW)
              have HZ := Lib.hid (Nat.le_trans HBS.out hgW.size)
              have O10 := Lib.hid (owns_grown O9.out hgW)
              have HO8 := Lib.hid ho8
              have HDR := Lib.hid (show Rds W 4 (.slice (some ad) 0 0) (0) (entsV (xs.drop xs.length)) from ⟨by simp [entsV], by unfold maxLen; omega, .inr ⟨_, _, rfl, fun h => absurd rfl h, fun j u hj => by simp [entsV] at hj⟩⟩)
              have h1D : ∀ u ∈ entsV (xs.drop xs.length), u.oneCell' = true := ents_one _
              clear e7 e8 ho8 hgW hG hD y0 y1 y2 y3
              go_wp2_with (at_builtin; refine wpList_append_rds rfl _ _ 22 rfl (P + 1 + 1 + 1 + 1) 44 i0 _ 4 32 Try.underlying22 hi hz0 hz1 hz2 rfl (by decide) (v := .slice a8 (xs.length + 1) c8) (n := xs.length + 1) (sv := .slice (some ad) 0 0) rfl HO8.out rfl HDR.out h1D (by unfold maxLen; omega) (by omega) HZ.out ?_; intro v10 w10 h1 h2 _; (obtain ⟨a10, c10, rfl⟩ := (Rds.of_owns h1).slice); (obtain ⟨nn, hnn⟩ : ∃ nn, xs.length + 1 + (0) = nn := ⟨_, rfl⟩); rw [hnn] at h1; rw [hnn]; have HNN := Lib.hid hnn; have hrow : ∀ z, (Value.slice a8 (xs.length + 1) c8).ownBlock = some z → P + 1 + 1 + 1 + 1 ≤ z := (fun z hz => (HO8.out.lt z hz).1); have HB0 := Lib.hid (HB0.out.grown h2 (fun e => by have := hrow _ e.symm; omega)); have HB2 := Lib.hid (HB2.out.grown h2 (fun e => by have := hrow _ e.symm; omega)); have G11 := Lib.hid (grownBy_own2 G10.out HO8.out (by have := HPW.out; omega) h2); have O11 := Lib.hid h1; clear h1 h2 hrow hnn; (obtain ⟨wp, hwp⟩ : ∃ wp, w10.setCell ⟨P, 2, none⟩ (.slice a10 nn c10) = wp := ⟨_, rfl⟩); have hgp : w10.grownBy wp (some P) := (by rw [← hwp]; exact grownBy_setCell _ _ _); have hPp : Blk wp P 24 [.int .i64 d, .int .i64 p, .slice a10 nn c10] := (by rw [← hwp]; exact HB0.out.setCell 2 (.slice a10 nn c10)); have HRp := Lib.hid (HB2.out.grown hgp (by simp; omega)); have Gp := Lib.hid (grownBy_base2 G11.out hgp (by have := HPW.out; omega)); have Op := Lib.hid (O11.out.kept hgp (.inr (fun e => by have := (O11.out.lt _ e).1; omega))); have p2o := HB0.out.cell (j := 2) rfl; have pf2 := HB0.out.frozen 2; have p0 := hPp.cell (j := 0) rfl; have p1 := hPp.cell (j := 1) rfl; have p2 := hPp.cell (j := 2) rfl; have r0 := HRp.out.cell (j := 0) rfl; have r1 := HRp.out.cell (j := 1) rfl; have r2 := HRp.out.cell (j := 2) rfl; have rf0 := HRp.out.frozen 0; have rf1 := HRp.out.frozen 1; have rf2 := HRp.out.frozen 2; clear hgp hPp)
              have hbf := ((HRp.out.setCell 0 (.int .i64 d)).setCell 1 (.int .i64 p)).setCell 2 (.slice a10 nn c10)
              have hgf : wp.grownBy (((wp.setCell ⟨P + 1 + 1, 0, none⟩ (.int .i64 d)).setCell ⟨P + 1 + 1, 1, none⟩ (.int .i64 p)).setCell ⟨P + 1 + 1, 2, none⟩ (.slice a10 nn c10)) (some (P + 1 + 1)) := grownBy_trans (grownBy_trans (grownBy_setCell _ _ _) (grownBy_setCell _ _ _)) (grownBy_setCell _ _ _)
              simp only [List.set_cons_zero, List.set_cons_succ] at hbf
              have z0 := hbf.cell (j := 0) rfl; have z1 := hbf.cell (j := 1) rfl; have z2 := hbf.cell (j := 2) rfl
              refine bodyPost_ret (v := .agg #[.int .i64 d, .int .i64 p, .slice a10 nn c10]) (by simp [results, Try.results27, go_sem, z0, z1, z2]) rfl ?_
              have hhb : hasB xs h (xs.length) = false := by unfold hasB; rw [decide_eq_false (by simp), Bool.false_and]
              have hput : putL xs x (xs.length) (hasB xs h (xs.length)) = xs.take (xs.length) ++ x :: xs.drop (xs.length) := by rw [hhb]; rfl
              have hll : (xs.take (xs.length) ++ x :: xs.drop (xs.length)).length = nn := by rw [← HNN.out, List.length_append, List.length_cons, List.length_take, List.length_drop]; (try (first | omega | (simp; done) | (simp; omega)))
              refine ⟨xs.length, HPL.out, a10, c10, by rw [hput, hll], ?_, grownBy_base2 Gp.out hgf (by have := HPW.out; omega)⟩
              rw [hput, hll]
              have hev : entsV (xs.take (xs.length) ++ x :: xs.drop (xs.length)) = (entsV (xs.take (xs.length)) ++ [.int .u64 h, .int .i64 r, .int .i64 at', .int .i64 s]) ++ entsV (xs.drop (xs.length)) := by
                rw [entsV_app, show x :: xs.drop (xs.length) = [x] ++ xs.drop (xs.length) from rfl, entsV_app, entsV_one, HXC.out, List.append_assoc]
              rw [hev]
              refine (Rds.of_owns Op.out).grown hgf (fun z hz e => ?_)
              cases hz
              have := (Op.out.lt _ e).1
              omega
          · go_wp2_with fail
            go_quiet (fail)
            clear y0 hki
            go_wp2_with fail
            obtain ⟨w9, hw9⟩ : ∃ w9, wr.drewN nq = w9 := ⟨_, rfl⟩
            have hg9 : wr.grownBy w9 none := by rw [← hw9]; exact grownBy_drewN _ _ _
            rw [hw9]
            have HB0 := Lib.hid (HB0.out.grown hg9 (by simp))
            have HB1 := Lib.hid (HB1.out.grown hg9 (by simp))
            have HB2 := Lib.hid (HB2.out.grown hg9 (by simp))
            have G9 := Lib.hid (grownBy_trans G9.out hg9)
            have HBS : Hid (P + 1 + 1 + 1 + 1 ≤ w9.heap.size) := Lib.hid (Nat.le_trans S9.out hg9.size)
            have O9 := Lib.hid (owns_grown O9.out hg9)
            have HLK := Lib.hid (Rds.takeE (Rds.of_owns O9.out) rfl (xs.length) (by first | omega | simp))
            have h1K : ∀ u ∈ entsV (xs.take xs.length), u.oneCell' = true := ents_one _
            have hxc : ([.int .u64 h, .int .i64 r, .int .i64 at', .int .i64 s] : List Value) ≠ [] := by simp
            have y0 := HB1.out.cell (j := 0) rfl; have y1 := HB1.out.cell (j := 1) rfl; have y2 := HB1.out.cell (j := 2) rfl; have y3 := HB1.out.cell (j := 3) rfl
            clear hw9 hg9 S9
            refine wp_region_NG (fun j v => match j with
                | 1 => v = .slice (some ad) xs.length cv
                | 2 => v = .int .i64 (xs.length : Nat)
                | 3 => v = .slice (some ad) xs.length cv
                | 5 => v = .agg #[.int .u64 h, .int .i64 r, .int .i64 at', .int .i64 s]
                | _ => True) (GP w9 (P + 1 + 1 + 1 + 1) xs.length (entsV (xs.take xs.length)) [.int .u64 h, .int .i64 r, .int .i64 at', .int .i64 s]) [0, 0, 0, 6, 15, 0, 32, 127, 255] [[], [], [], [1, 2], [0, 3], [], [5], [4, 6], [7]] (by kernel_rfl) (by kernel_rfl) (fun vals => ⟨grownBy_drewN w9 1 none, HBS.out, fun h => (by cases h), fun h => (by cases h), fun h => (by cases h), fun h => (by cases h), fun h => (by cases h), fun h => (by cases h), fun h => (by cases h), fun h => (by cases h)⟩) ?xobs ?xend
            case xobs =>
              refine ngObs_cons (fun D vals W hG hD hC => ?_) (ngObs_cons (fun D vals W hG hD hC => ?_) (ngObs_cons (fun D vals W hG hD hC => ?_) (ngObs_cons (fun D vals W hG hD hC => ?_) (ngObs_cons (fun D vals W hG hD hC => ?_) (ngObs_cons (fun D vals W hG hD hC => ?_) (ngObs_cons (fun D vals W hG hD hC => ?_) (ngObs_cons (fun D vals W hG hD hC => ?_) (ngObs_cons (fun D vals W hG hD hC => ?_) (ngObs_nil)))))))))
              case _ =>
                refine givenV_nil ?_
                (try simp only [Act.put, List.setIfInBounds_toArray, List.set_cons_zero, List.set_cons_succ])
                refine wpOp_list rfl (fun K hK => ?_)
                go_simp
                exact hK _ _ ⟨_, rfl, True.intro, hG.s0 hD⟩
              case _ =>
                (repeat (refine givenV_step rfl (fun v h hv => ?_); (try dsimp only at h); first | subst h | (clear h; subst hv)))
                refine givenV_nil ?_
                (try simp only [Act.put, List.setIfInBounds_toArray, List.set_cons_zero, List.set_cons_succ])
                refine free_read rfl (by rfl) (v := _) ?_ ⟨rfl, hG.keep 1 _ (by decide)⟩
                go_simp
                (try with_reducible rfl)
              case _ =>
                (repeat (refine givenV_step rfl (fun v h hv => ?_); (try dsimp only at h); first | subst h | (clear h; subst hv)))
                refine givenV_nil ?_
                (try simp only [Act.put, List.setIfInBounds_toArray, List.set_cons_zero, List.set_cons_succ])
                refine free_read rfl (by rfl) (v := _) ?_ ⟨rfl, hG.keep 2 _ (by decide)⟩
                go_simp
                (try with_reducible rfl)
              case _ =>
                (repeat (refine givenV_step rfl (fun v h hv => ?_); (try dsimp only at h); first | subst h | (clear h; subst hv)))
                refine givenV_nil ?_
                (try simp only [Act.put, List.setIfInBounds_toArray, List.set_cons_zero, List.set_cons_succ])
                refine free_read rfl (by rfl) (v := _) ?_ ⟨rfl, hG.keep 3 _ (by decide)⟩
                go_simp
                (try with_reducible rfl)
              case _ =>
                obtain ⟨b, hv0, hbB, hbw, hbk⟩ := hG.k0 (hC 0 (by decide) (by decide)) hD
                have hrd := HLK.out.grown hG.grown (by simp)
                (repeat (refine givenV_step rfl (fun v h hv => ?_); (try dsimp only at h); first | subst h | (clear h; subst hv)))
                refine givenV_nil ?_
                (try simp only [Act.put, List.setIfInBounds_toArray, List.set_cons_zero, List.set_cons_succ])
                (try rw [hv0])
                refine wpOp_list rfl (fun K hK => ?_)
                refine step_append_rds (by rfl) _ _ 22 (by rfl) (P + 1 + 1 + 1 + 1) 44 i0 _ 4 32 Try.underlying22 hi hz0 hz1 hz2 rfl (by decide) (v := .slice (some ⟨b, 0, none⟩) 0 0) (n := 0) (xs := []) (by rfl) (owns_empty hbk hbB) (by rfl) hrd h1K (by unfold maxLen; omega) (by omega) hG.size ?_
                intro vv w8 g1 g2 g3
                rw [Nat.zero_add, List.nil_append] at g1
                obtain ⟨a8, c8, rfl⟩ := (Rds.of_owns g1).slice
                refine hK _ _ ⟨_, rfl, True.intro, hG.s4 hxc (hC 0 (by decide) (by decide)) hD a8 c8 b hv0 hbk hbw g2 g1 (fun q hq => ?_)⟩
                rw [hq] at g3
                rcases g3 with e | e
                · simp [Value.ownBlock] at e; omega
                · simp at e; have := hG.grown.size; omega
              case _ =>
                have q0 := hG.grown.cell y0 (by simp); have q1 := hG.grown.cell y1 (by simp); have q2 := hG.grown.cell y2 (by simp); have q3 := hG.grown.cell y3 (by simp)
                (repeat (refine givenV_step rfl (fun v h hv => ?_); (try dsimp only at h); first | subst h | (clear h; subst hv)))
                refine givenV_nil ?_
                (try simp only [Act.put, List.setIfInBounds_toArray, List.set_cons_zero, List.set_cons_succ])
                refine free_read rfl (by rfl) (v := _) ?_ ⟨rfl, hG.keep 5 _ (by decide)⟩
                go_simp
                (try with_reducible rfl)
              case _ =>
                (repeat (refine givenV_step rfl (fun v h hv => ?_); (try dsimp only at h); first | subst h | (clear h; subst hv)))
                refine givenV_nil ?_
                (try simp only [Act.put, List.setIfInBounds_toArray, List.set_cons_zero, List.set_cons_succ])
                refine wpOp_list rfl (fun K hK => ?_)
                go_simp
                exact hK _ _ ⟨_, rfl, True.intro, hG.s6 hD⟩
              case _ =>
                have h4 := hC 4 (by decide) (by decide)
                have h6 := hC 6 (by decide) (by decide)
                obtain ⟨a4, c4, hv4, ho4, hq4⟩ := hG.k4 h4 hD
                obtain ⟨b6, hv6, hb6⟩ := hG.k6 h6 hD
                have hrd := Rds.of_blk (sz := 4) (n := 1) (c := 1) hb6 rfl (by unfold maxLen; omega)
                (repeat (refine givenV_step rfl (fun v h hv => ?_); (try dsimp only at h); first | subst h | (clear h; subst hv)))
                refine givenV_nil ?_
                (try simp only [Act.put, List.setIfInBounds_toArray, List.set_cons_zero, List.set_cons_succ])
                (try rw [hv4, hv6])
                refine wpOp_list rfl (fun K hK => ?_)
                refine step_append_rds (by rfl) _ _ 22 (by rfl) (P + 1 + 1 + 1 + 1) 44 i0 _ 4 32 Try.underlying22 hi hz0 hz1 hz2 rfl (by decide) (v := .slice a4 (xs.length) c4) (n := xs.length) (by rfl) ho4 (by rfl) hrd (by simp [Value.oneCell']) (by unfold maxLen; omega) (by omega) hG.size ?_
                intro vv w8 g1 g2 g3
                obtain ⟨a8, c8, rfl⟩ := (Rds.of_owns g1).slice
                exact hK _ _ ⟨_, rfl, True.intro, hG.s7 h4 h6 (hC 0 (by decide) (by decide)) hD a8 a4 c8 c4 hq4 ho4 g2 g1⟩
              case _ =>
                (repeat (refine givenV_step rfl (fun v h hv => ?_); (try dsimp only at h); first | subst h | (clear h; subst hv)))
                refine givenV_nil ?_
                (try simp only [Act.put, List.setIfInBounds_toArray, List.set_cons_zero, List.set_cons_succ])
                refine free_read rfl (by rfl) (v := vals 7) ?_ ⟨True.intro, hG.s8 (hC 7 (by decide) (by decide))⟩
                go_simp
                (try with_reducible rfl)
            case xend =>
              intro D vals W hG hD
              obtain ⟨a8, c8, e7, ho8, -⟩ : ∃ a c, vals 7 = .slice a (xs.length + 1) c ∧ W.ownsRow (P + 1 + 1 + 1 + 1) 44 4 (.slice a (xs.length + 1) c) (xs.length + 1) (entsV (xs.take xs.length) ++ [.int .u64 h, .int .i64 r, .int .i64 at', .int .i64 s]) ∧ True := by
                obtain ⟨a, c, h1, h2⟩ := hG.k7 (hD 7 (by decide))
                exact ⟨a, c, h1, h2, trivial⟩
              have e8 := hG.k8 (hD 8 (by decide))
              rw [e7] at e8
              have hgW := hG.grown
              (repeat (refine givenV_step rfl (fun v h hv => ?_); (try dsimp only at h); first | subst h | (clear h; subst hv)))
              refine givenV_nil ?_
              (try simp only [Act.put, List.setIfInBounds_toArray, List.set_cons_zero, List.set_cons_succ])
              (try rw [e8])
              have HB0 := Lib.hid (HB0.out.grown hgW (by simp))
              have HB2 := Lib.hid (HB2.out.grown hgW (by simp))
              have G10 := Lib.hid (grownBy_trans G9.out hgW)
              have HZ := Lib.hid (Nat.le_trans HBS.out hgW.size)
              have O10 := Lib.hid (owns_grown O9.out hgW)
              have HO8 := Lib.hid ho8
              have HDR := Lib.hid (show Rds W 4 (.slice (some (ad.add (xs.length * 4))) 0 (cv - xs.length)) (0) (entsV (xs.drop xs.length)) from ⟨by simp [entsV], by unfold maxLen; omega, .inr ⟨_, _, rfl, fun h => absurd rfl h, fun j u hj => by simp [entsV] at hj⟩⟩)
              have h1D : ∀ u ∈ entsV (xs.drop xs.length), u.oneCell' = true := ents_one _
              clear e7 e8 ho8 hgW hG hD y0 y1 y2 y3
              go_wp2_with (at_builtin; refine wpList_append_rds rfl _ _ 22 rfl (P + 1 + 1 + 1 + 1) 44 i0 _ 4 32 Try.underlying22 hi hz0 hz1 hz2 rfl (by decide) (v := .slice a8 (xs.length + 1) c8) (n := xs.length + 1) (sv := .slice (some (ad.add (xs.length * 4))) 0 (cv - xs.length)) rfl HO8.out rfl HDR.out h1D (by unfold maxLen; omega) (by omega) HZ.out ?_; intro v10 w10 h1 h2 _; (obtain ⟨a10, c10, rfl⟩ := (Rds.of_owns h1).slice); (obtain ⟨nn, hnn⟩ : ∃ nn, xs.length + 1 + (0) = nn := ⟨_, rfl⟩); rw [hnn] at h1; rw [hnn]; have HNN := Lib.hid hnn; have hrow : ∀ z, (Value.slice a8 (xs.length + 1) c8).ownBlock = some z → P + 1 + 1 + 1 + 1 ≤ z := (fun z hz => (HO8.out.lt z hz).1); have HB0 := Lib.hid (HB0.out.grown h2 (fun e => by have := hrow _ e.symm; omega)); have HB2 := Lib.hid (HB2.out.grown h2 (fun e => by have := hrow _ e.symm; omega)); have G11 := Lib.hid (grownBy_own2 G10.out HO8.out (by have := HPW.out; omega) h2); have O11 := Lib.hid h1; clear h1 h2 hrow hnn; (obtain ⟨wp, hwp⟩ : ∃ wp, w10.setCell ⟨P, 2, none⟩ (.slice a10 nn c10) = wp := ⟨_, rfl⟩); have hgp : w10.grownBy wp (some P) := (by rw [← hwp]; exact grownBy_setCell _ _ _); have hPp : Blk wp P 24 [.int .i64 d, .int .i64 p, .slice a10 nn c10] := (by rw [← hwp]; exact HB0.out.setCell 2 (.slice a10 nn c10)); have HRp := Lib.hid (HB2.out.grown hgp (by simp; omega)); have Gp := Lib.hid (grownBy_base2 G11.out hgp (by have := HPW.out; omega)); have Op := Lib.hid (O11.out.kept hgp (.inr (fun e => by have := (O11.out.lt _ e).1; omega))); have p2o := HB0.out.cell (j := 2) rfl; have pf2 := HB0.out.frozen 2; have p0 := hPp.cell (j := 0) rfl; have p1 := hPp.cell (j := 1) rfl; have p2 := hPp.cell (j := 2) rfl; have r0 := HRp.out.cell (j := 0) rfl; have r1 := HRp.out.cell (j := 1) rfl; have r2 := HRp.out.cell (j := 2) rfl; have rf0 := HRp.out.frozen 0; have rf1 := HRp.out.frozen 1; have rf2 := HRp.out.frozen 2; clear hgp hPp)
              have hbf := ((HRp.out.setCell 0 (.int .i64 d)).setCell 1 (.int .i64 p)).setCell 2 (.slice a10 nn c10)
              have hgf : wp.grownBy (((wp.setCell ⟨P + 1 + 1, 0, none⟩ (.int .i64 d)).setCell ⟨P + 1 + 1, 1, none⟩ (.int .i64 p)).setCell ⟨P + 1 + 1, 2, none⟩ (.slice a10 nn c10)) (some (P + 1 + 1)) := grownBy_trans (grownBy_trans (grownBy_setCell _ _ _) (grownBy_setCell _ _ _)) (grownBy_setCell _ _ _)
              simp only [List.set_cons_zero, List.set_cons_succ] at hbf
              have z0 := hbf.cell (j := 0) rfl; have z1 := hbf.cell (j := 1) rfl; have z2 := hbf.cell (j := 2) rfl
              refine bodyPost_ret (v := .agg #[.int .i64 d, .int .i64 p, .slice a10 nn c10]) (by simp [results, Try.results27, go_sem, z0, z1, z2]) rfl ?_
              have hhb : hasB xs h (xs.length) = false := by unfold hasB; rw [decide_eq_false (by simp), Bool.false_and]
              have hput : putL xs x (xs.length) (hasB xs h (xs.length)) = xs.take (xs.length) ++ x :: xs.drop (xs.length) := by rw [hhb]; rfl
              have hll : (xs.take (xs.length) ++ x :: xs.drop (xs.length)).length = nn := by rw [← HNN.out, List.length_append, List.length_cons, List.length_take, List.length_drop]; (try (first | omega | (simp; done) | (simp; omega)))
              refine ⟨xs.length, HPL.out, a10, c10, by rw [hput, hll], ?_, grownBy_base2 Gp.out hgf (by have := HPW.out; omega)⟩
              rw [hput, hll]
              have hev : entsV (xs.take (xs.length) ++ x :: xs.drop (xs.length)) = (entsV (xs.take (xs.length)) ++ [.int .u64 h, .int .i64 r, .int .i64 at', .int .i64 s]) ++ entsV (xs.drop (xs.length)) := by
                rw [entsV_app, show x :: xs.drop (xs.length) = [x] ++ xs.drop (xs.length) from rfl, entsV_app, entsV_one, HXC.out, List.append_assoc]
              rw [hev]
              refine (Rds.of_owns Op.out).grown hgf (fun z hz e => ?_)
              cases hz
              have := (Op.out.lt _ e).1
              omega
  · have hii : (i : Int) < (xs.length : Int) := by omega
    have hi0 : (0 : Int) ≤ (i : Int) := by omega
    obtain ⟨g, cv', sp, hav, hB, hb, hnc, hcm, hl⟩ := row_partsR O6.out (by omega)
    simp only [Value.slice.injEq, true_and] at hav
    obtain ⟨rfl, rfl⟩ := hav
    have hspl := ents_split xs i hil
    have hl1 : (entsV (xs.take i)).length = i * 4 := by rw [entsV_len, List.length_take]; congr 1; omega
    have hb' : Blk w6 g 44 (entsV (xs.take i) ++ ((xs.getD i Ent.zero).cells ++ (entsV (xs.drop (i + 1)) ++ sp))) := by
      rw [hspl] at hb
      rw [← List.append_assoc (xs.getD i Ent.zero).cells, ← List.append_assoc]
      exact hb
    have hgr : ∀ j, j < 4 → (∃ u, w6.cell? ⟨g, i * 4 + j, none⟩ = some u) := fun j hj => by
      refine ⟨(xs.getD i Ent.zero).cells[j]'(by exact hj), hb'.cell ?_⟩
      rw [List.getElem?_append_right (by omega), hl1, show i * 4 + j - i * 4 = j by omega, List.getElem?_append_left (by exact hj)]
      exact List.getElem?_eq_getElem _
    obtain ⟨u0, q0⟩ := hgr 0 (by omega)
    obtain ⟨u1, q1⟩ := hgr 1 (by omega)
    obtain ⟨u2, q2⟩ := hgr 2 (by omega)
    obtain ⟨u3, q3⟩ := hgr 3 (by omega)
    rw [Nat.add_zero] at q0
    have qf0 := hb'.frozen (i * 4); have qf1 := hb'.frozen (i * 4 + 1); have qf2 := hb'.frozen (i * 4 + 2); have qf3 := hb'.frozen (i * 4 + 3)
    obtain ⟨wl, hwl⟩ : ∃ wl, (((w6.setCell ⟨g, i * 4, none⟩ (.int .u64 h)).setCell ⟨g, i * 4 + 1, none⟩ (.int .i64 r)).setCell ⟨g, i * 4 + 2, none⟩ (.int .i64 at')).setCell ⟨g, i * 4 + 3, none⟩ (.int .i64 s) = wl := ⟨_, rfl⟩
    have hwl2 : w6.setCells g (i * 4) x.cells = wl := by rw [HXC.out, ← hwl]; rfl
    have hbl : Blk wl g 44 ((entsV (xs.take i) ++ (x.cells ++ entsV (xs.drop (i + 1)))) ++ sp) := by
      have := blk_setCells g 44 x.cells (xs.getD i Ent.zero).cells (entsV (xs.take i)) (entsV (xs.drop (i + 1)) ++ sp) w6 rfl hb'
      rw [hl1, hwl2] at this
      rw [List.append_assoc, List.append_assoc]
      exact this
    have hgl : w6.grownBy wl (some g) := by rw [← hwl2]; exact grownBy_setCells g _ _ _
    have hPl := HB0.out.grown hgl (by simp; omega)
    have hRl := HB2.out.grown hgl (by simp; omega)
    have Gl := grownBy_base2 G6.out hgl (by have := HPW.out; omega)
    have hll : (xs.take i ++ x :: xs.drop (i + 1)).length = xs.length := by rw [List.length_append, List.length_cons, List.length_take, List.length_drop]; omega
    have hOl : wl.ownsRow (P + 1 + 1 + 1) 44 4 (.slice (some ⟨g, 0, none⟩) xs.length cv) xs.length (entsV (xs.take i ++ x :: xs.drop (i + 1))) := by
      rw [entsV_put]
      refine owns_of_blk hbl hB hnc hcm ?_ ?_ ?_
      · rw [hspl] at hl
        simp only [List.length_append] at hl ⊢
        exact hl
      · rw [← entsV_put, ← hll, ← entsV_len, List.take_left']; rfl
      · rw [← entsV_put, entsV_len, hll]
    obtain ⟨wp, hwp⟩ : ∃ wp, wl.setCell ⟨P, 2, none⟩ (.slice (some ⟨g, 0, none⟩) xs.length cv) = wp := ⟨_, rfl⟩
    have hgp : wl.grownBy wp (some P) := by rw [← hwp]; exact grownBy_setCell _ _ _
    have hPp : Blk wp P 24 [.int .i64 d, .int .i64 p, .slice (some ⟨g, 0, none⟩) xs.length cv] := by rw [← hwp]; exact hPl.setCell 2 (.slice (some ⟨g, 0, none⟩) xs.length cv)
    have HRp := Lib.hid (hRl.grown hgp (by simp; omega))
    have Gp := Lib.hid (grownBy_base2 Gl hgp (by have := HPW.out; omega))
    have Op := Lib.hid (hOl.kept hgp (.inr (fun e => by have := (hOl.lt _ e).1; omega)))
    have HLL := Lib.hid hll
    have HIH := Lib.hid hih
    have p2o := hPl.cell (j := 2) rfl
    have pf2 := hPl.frozen 2
    have p0 := hPp.cell (j := 0) rfl; have p1 := hPp.cell (j := 1) rfl; have p2 := hPp.cell (j := 2) rfl
    have r0 := HRp.out.cell (j := 0) rfl; have r1 := HRp.out.cell (j := 1) rfl; have r2 := HRp.out.cell (j := 2) rfl
    have rf0 := HRp.out.frozen 0; have rf1 := HRp.out.frozen 1; have rf2 := HRp.out.frozen 2
    have HBg := Lib.hid hB
    clear hB hb hnc hcm hl hspl hl1 hb' hgr hwl2 hbl hgl hPl hRl Gl hll hOl hgp hPp hih
    go_wp2_with fail
    have hbf := ((HRp.out.setCell 0 (.int .i64 d)).setCell 1 (.int .i64 p)).setCell 2 (.slice (some ⟨g, 0, none⟩) xs.length cv)
    have hgf : wp.grownBy (((wp.setCell ⟨P + 1 + 1, 0, none⟩ (.int .i64 d)).setCell ⟨P + 1 + 1, 1, none⟩ (.int .i64 p)).setCell ⟨P + 1 + 1, 2, none⟩ (.slice (some ⟨g, 0, none⟩) xs.length cv)) (some (P + 1 + 1)) := grownBy_trans (grownBy_trans (grownBy_setCell _ _ _) (grownBy_setCell _ _ _)) (grownBy_setCell _ _ _)
    simp only [List.set_cons_zero, List.set_cons_succ] at hbf
    have z0 := hbf.cell (j := 0) rfl; have z1 := hbf.cell (j := 1) rfl; have z2 := hbf.cell (j := 2) rfl
    refine bodyPost_ret (v := .agg #[.int .i64 d, .int .i64 p, .slice (some ⟨g, 0, none⟩) xs.length cv]) (by simp [results, Try.results27, go_sem, z0, z1, z2]) rfl ?_
    have hhb : hasB xs h i = true := by unfold hasB; rw [decide_eq_true hil, HIH.out]; simp
    have hput : putL xs x i (hasB xs h i) = xs.take i ++ x :: xs.drop (i + 1) := by rw [hhb]; rfl
    have hpl : Plc xs h i := ⟨by omega, fun m hm => by
        have := HSR.out m i hm hil
        rw [HIH.out] at this
        exact this, fun m hm hm2 => by
        rcases Nat.eq_or_lt_of_le hm with rfl | h1
        · rw [HIH.out]; exact Int.le_refl _
        · have := HSR.out i m h1 hm2
          rw [HIH.out] at this
          omega⟩
    refine ⟨i, some ⟨g, 0, none⟩, cv, hpl, by rw [hput, HLL.out], ?_, grownBy_base2 Gp.out hgf (by have := HPW.out; omega)⟩
    rw [hput, HLL.out]
    refine (Rds.of_owns Op.out).grown hgf (fun z hz e => ?_)
    cases hz
    have := (Op.out.lt _ e).1
    omega

end Go.Proofs.Ytddpjfmogjcimaa
