/- Layer 7: the walk of BitsPlay. -/
import Derived.Lib.SmallJoins
import Derived.Test.YtjbfnnfbdjjjbaaDoorBitsRef3
import Derived.Test.YtjbfnnfbdjjjbaaDoorFreeG
import Derived.Test.YtjbfnnfbdjjjbaaDoorPutBy
import Derived.Test.YtjbfnnfbdjjjbaaDoorArgI
import Derived.Test.YtjbfnnfbdjjjbaaDoorPlan2
namespace Go.Proofs.YtjbfnnfbdjjjbaaDoor
open Go.RowKit Go.WideShapes Go.ChangeShapes Go.ChangeAt Go.Joins Go.Deep
set_option linter.unusedSimpArgs false

def actV (x : Int × Int) : List Value := [.int .i64 x.1, .int .i64 x.2]
def playV (l : List (Int × Int)) : List Value := l.flatMap actV
theorem playV_cells (l : List (Int × Int)) (i : Nat) (h : i < l.length) : (playV l)[i * 2]? = some (.int .i64 (l.getD i (0, 0)).1) ∧ (playV l)[i * 2 + 1]? = some (.int .i64 (l.getD i (0, 0)).2) := by
  have h1 : l[i]? = some (l.getD i (0, 0)) := by simp [List.getD, h]
  exact ⟨flatMap_get actV 2 (fun _ => rfl) l i 0 _ h1 (by omega), flatMap_get actV 2 (fun _ => rfl) l i 1 _ h1 (by omega)⟩
theorem kind7 (k : Int) (h1 : -9223372036854775808 ≤ k) (h2 : k ≤ 9223372036854775807) : ∃ t : Int, k.tmod 7 = t ∧ -6 ≤ t ∧ t ≤ 6 ∧ IntKind.i64.wrap t = t ∧ wrap64 t = t ∧ ∃ d : Nat, d < 7 ∧ (t + 7) % 7 = (d : Int) := by
  have h3 := Int.tmod_lt_of_pos k (show (0 : Int) < 7 by omega)
  have h4 : -7 < k.tmod 7 := Int.lt_tmod_of_pos k (by omega)
  refine ⟨_, rfl, by omega, by omega, IntWalk.i64_in _ (by omega), IntWalk.wrap64_in _ (by omega), ((k.tmod 7 + 7) % 7).toNat, by omega, by omega⟩

/-- The set and the document's, side by side. -/
structure BP (w0 w : World) (B g Rb : Nat) (n hand : Nat) (f : Nat → Bool) (a : Option Addr) (c : Nat) : Prop where
  grown : w0.grownBy w none
  sf : SF w B g n hand f
  blk : Blk w Rb 37 [.slice a n c, .int .i64 hand]
  rds : Rds w 1 (.slice a n c) n (boolsV f n)
  newB : w0.heap.size ≤ B ∧ w0.heap.size ≤ g ∧ w0.heap.size ≤ Rb
  apart : Rb ≠ B ∧ Rb ≠ g
  own : ∀ q, (Value.slice a n c).ownBlock = some q → q ≠ B ∧ q ≠ g ∧ q ≠ Rb ∧ q < w.heap.size
theorem SF.lt {w : World} {B g n hand : Nat} {f : Nat → Bool} (h : SF w B g n hand f) : B < w.heap.size ∧ g < w.heap.size ∧ hand < n := by
  obtain ⟨c, ws, hs, _⟩ := h
  obtain ⟨rest, hr⟩ := hs.row
  exact ⟨hs.blk.lt, hr.lt, hs.hd⟩
theorem BP.later {w0 w w' : World} {B g Rb n hand : Nat} {f : Nat → Bool} {a : Option Addr} {c : Nat} (h : BP w0 w B g Rb n hand f a c) (hg : w.grownBy w' none) : BP w0 w' B g Rb n hand f a c :=
  ⟨grownBy_trans h.grown hg, h.sf.grown hg, h.blk.grown hg (by simp), h.rds.grown hg (by simp), h.newB, h.apart, fun q hq => by have := h.own q hq; have := hg.size; omega⟩
/-- Behind a step of the document's set that is stored, and one of the program's. -/
theorem BP.step {w0 w w1 w2 : World} {B g Rb n hand hand' : Nat} {f f' : Nat → Bool} {a a' : Option Addr} {c c' : Nat} (h : BP w0 w B g Rb n hand f a c) (hg : w.grownBy w1 none) (hr : Rds w1 1 (.slice a' n c') n (boolsV f' n))
    (ho : ∀ q, (Value.slice a' n c').ownBlock = some q → (Value.slice a n c).ownBlock = some q ∨ w.heap.size ≤ q) (hlt : ∀ q, (Value.slice a' n c').ownBlock = some q → q < w1.heap.size)
    (hs : SF w2 B g n hand' f') (ht : Touch (SOwn B g) ((w1.setCell ⟨Rb, 0, none⟩ (.slice a' n c')).setCell ⟨Rb, 1, none⟩ (.int .i64 hand')) w2) : BP w0 w2 B g Rb n hand' f' a' c' := by
  have hA := grownBy_trans (grownBy_setCell w1 ⟨Rb, 0, none⟩ (.slice a' n c')) (grownBy_setCell _ ⟨Rb, 1, none⟩ (.int .i64 hand'))
  have hb := ((h.blk.grown hg (by simp)).setCell 0 (.slice a' n c')).setCell 1 (.int .i64 hand')
  have hsz := h.sf.lt
  have hbl := h.blk.lt
  have hown : ∀ q, (Value.slice a' n c').ownBlock = some q → q ≠ B ∧ q ≠ g ∧ q ≠ Rb := fun q hq => by
    rcases ho q hq with h1 | h1
    · have := h.own q h1
      omega
    · omega
  have hno : ¬ SOwn B g Rb := fun e => e.elim h.apart.1 h.apart.2
  refine ⟨ht.grown (grownBy_base2 (grownBy_trans h.grown hg) hA h.newB.2.2) (fun k hk => by rcases hk with e | e <;> (have := h.newB; omega)), hs, ht.blk hb hno, ?_, h.newB, h.apart, fun q hq => ?_⟩
  · refine ht.rds (hr.grown hA (fun q hq e => by cases hq; exact (hown _ e).2.2 rfl)) (fun q hq e => ?_)
    have := hown q hq
    rcases e with e | e <;> omega
  · have h1 := hown q hq
    have h2 := hlt q hq
    have h3 := hA.size
    have h4 := ht.size
    exact ⟨h1.1, h1.2.1, h1.2.2, by omega⟩

theorem rdsb_lt {w : World} {a : Option Addr} {n c : Nat} {f : Nat → Bool} (h : Rds w 1 (.slice a n c) n (boolsV f n)) (hn : 1 ≤ n) : ∀ q, (Value.slice a n c).ownBlock = some q → q < w.heap.size :=
  fun q hq => h.lt (fun e => by have := congrArg List.length e; rw [boolsV_len] at this; simp at this; omega) q hq
theorem BP.mid {w0 w w1 : World} {B g Rb n hand : Nat} {f : Nat → Bool} {a : Option Addr} {c : Nat} (h : BP w0 w B g Rb n hand f a c) (hG : 0 < w0.heap.size) (hg : w.grownBy w1 none) (v1 v2 : Value) : SF ((w1.setCell ⟨Rb, 0, none⟩ v1).setCell ⟨Rb, 1, none⟩ v2) B g n hand f := by
  have hA := grownBy_trans (grownBy_setCell w1 ⟨Rb, 0, none⟩ v1) (grownBy_setCell _ ⟨Rb, 1, none⟩ v2)
  exact (h.sf.grown hg).touch (S := fun k => k = Rb) (Touch.of hA (fun k e => by cases e; rfl)) (fun e => h.apart.1 e.symm) (fun e => h.apart.2 e.symm) (fun e => by have := h.newB; omega)
theorem BP.copied {w0 w w4 w6 : World} {B g B2 g2 Rb n hand : Nat} {f : Nat → Bool} {a : Option Addr} {c : Nat} (h : BP w0 w B g Rb n hand f a c) (hG : 0 < w0.heap.size) (hg : w.grownBy w4 none) (hs : SF w4 B2 g2 n hand f) (h1 : w.heap.size ≤ B2) (h2 : w.heap.size ≤ g2) (ht : Touch (SOwn B g) w4 w6) : BP w0 w6 B2 g2 Rb n hand f a c := by
  have hlt := h.sf.lt
  have hz := h.grown.size
  have hbl := h.blk.lt
  have hnb := h.newB
  refine ⟨ht.grown (grownBy_trans h.grown hg) (fun k hk => by rcases hk with e | e <;> omega), hs.touch ht (fun e => by rcases e with e | e <;> omega) (fun e => by rcases e with e | e <;> omega) (fun e => by rcases e with e | e <;> omega), ht.blk (h.blk.grown hg (by simp)) (fun e => e.elim h.apart.1 h.apart.2), ht.rds (h.rds.grown hg (by simp)) (fun q hq e => by have := h.own q hq; rcases e with e | e <;> omega), ⟨by omega, by omega, h.newB.2.2⟩, by omega, fun q hq => ?_⟩
  have h3 := h.own q hq
  have := hg.size
  have := ht.size
  omega

theorem takI_count (f : Nat → Bool) (n : Nat) : (takI f n).length = countF n f := by
  unfold takI countF
  rw [List.length_map]

set_option maxRecDepth 100000 in
set_option maxHeartbeats 8000000 in
theorem bitsPlay_walk0 (nn : Int) (l : List (Int × Int)) (a0 : Option Addr) (c0 : Nat) (w : World) (hl : ∀ x ∈ l, -9223372036854775808 ≤ x.1 ∧ x.1 ≤ 9223372036854775807) (hr : Rds w 2 (.slice a0 l.length c0) l.length (playV l)) (hT : Tab w) (hG : 0 < w.heap.size) :
    Calls Tryd.prog 5 #[.int .i64 nn, .slice a0 l.length c0] w fun e w' => e = .returned (.bool true) ∧ Below w.heap.size w w' := by
  have hml := hr.2.1
  unfold maxLen at hml
  have HTT := Lib.hid hT
  have HR := Lib.hid hr
  have HL := Lib.hid hl
  clear hT hr hl
  by_cases hbig : 200 < l.length
  · have hb : decide ((200 : Int) < (l.length : Int)) = true := decide_eq_true (by omega)
    clear hbig
    go_enter Tryd.func5, Tryd.ntmps5
    go_wp2_with fail
    go_ret
    exact ⟨rfl, Below.refl _ _⟩
  have hb : decide ((200 : Int) < (l.length : Int)) = false := decide_eq_false (by omega)
  have hl200 : l.length ≤ 200 := by omega
  clear hbig
  rcases (show (300 < nn ∧ nn ≤ 65536) ∨ nn < 1 ∨ 65536 < nn ∨ (1 ≤ nn ∧ nn ≤ 300) by omega) with ⟨n1, n2⟩ | n1 | n1 | ⟨n1, n2⟩
  · have d1 : decide ((300 : Int) < nn) = true := decide_eq_true n1
    have d2 : decide (nn ≤ 65536) = true := decide_eq_true n2
    go_enter Tryd.func5, Tryd.ntmps5
    go_wp2_with fail
    go_ret
    exact ⟨rfl, Below.refl _ _⟩
  · have d1 : decide ((300 : Int) < nn) = false := decide_eq_false (by omega)
    have d2 : decide (nn ≤ 65536) = true := decide_eq_true (by omega)
    have d3 : decide (nn < 1) = true := decide_eq_true n1
    go_enter Tryd.func5, Tryd.ntmps5
    go_wp2_with fail
    refine (snew_no nn w (.inl n1)).mono ?_
    rintro e w1 ⟨rfl, rfl⟩
    go_wp2_with fail
    refine (room_nil w).mono ?_
    rintro e w1 ⟨rfl, rfl⟩
    go_wp2_with fail
    refine (sawake_any w HTT.out hG).mono ?_
    rintro e w1 ⟨rfl, g1⟩
    go_wp2_with fail
    go_ret
    exact ⟨rfl, below_grownBy g1⟩
  · have d1 : decide ((300 : Int) < nn) = true := decide_eq_true (by omega)
    have d2 : decide (nn ≤ 65536) = false := decide_eq_false (by omega)
    have d3 : decide (nn < 1) = false := decide_eq_false (by omega)
    have d4 : decide ((65536 : Int) < nn) = true := decide_eq_true n1
    go_enter Tryd.func5, Tryd.ntmps5
    go_wp2_with fail
    refine (snew_no nn w (.inr n1)).mono ?_
    rintro e w1 ⟨rfl, rfl⟩
    go_wp2_with fail
    refine (room_nil w).mono ?_
    rintro e w1 ⟨rfl, rfl⟩
    go_wp2_with fail
    refine (sawake_any w HTT.out hG).mono ?_
    rintro e w1 ⟨rfl, g1⟩
    go_wp2_with fail
    go_ret
    exact ⟨rfl, below_grownBy g1⟩
  obtain ⟨n, rfl⟩ := Int.eq_ofNat_of_zero_le (show 0 ≤ nn by omega)
  have d1 : decide ((300 : Int) < (n : Int)) = false := decide_eq_false (by omega)
  have d3 : decide ((n : Int) < 1) = false := decide_eq_false (by omega)
  have d4 : decide ((65536 : Int) < (n : Int)) = false := decide_eq_false (by omega)
  have hn1 : 1 ≤ n := by omega
  have hn2 : n ≤ 300 := by omega
  clear n1 n2
  go_enter Tryd.func5, Tryd.ntmps5
  go_wp2_with fail
  refine (snew_any n w hn1 (by omega) HTT.out hG).mono ?_
  rintro e w1 ⟨B, g, rfl, s1, hB, hg, g1⟩
  have HS1 := Lib.hid s1
  have HG1 := Lib.hid g1
  have HBG : Hid (w.heap.size ≤ B ∧ w.heap.size ≤ g) := Lib.hid ⟨hB, hg⟩
  clear s1 g1 hB hg
  go_wp2_with fail
  refine (rsnew_any n w1 hn1 (by omega)).mono ?_
  rintro e w2 ⟨a, c, rfl, r2, ho2, g2⟩
  have HBP : Hid (BP w (w2.alloc (.cells #[.slice a n c, .int .i64 0] 37)) B g w2.heap.size n 0 (fun _ => false) a c) := Lib.hid (by
    have hlt := HS1.out.lt
    have hz := g2.size
    have hz1 := HG1.out.size
    refine ⟨grownBy_trans (grownBy_trans HG1.out g2) (World.grownBy_alloc _ _ none), (HS1.out.grown g2).grown (World.grownBy_alloc _ _ none), Blk.new w2 _ _, r2.alloc _, ⟨HBG.out.1, HBG.out.2, by omega⟩, by omega, fun q hq => ?_⟩
    have h1 := ho2 q hq
    have h2 := r2.lt (by intro e; have := congrArg List.length e; rw [boolsV_len] at this; simp at this; omega) q hq
    rw [World.size_alloc]
    omega)
  clear r2 ho2 g2 HS1 HG1 HBG
  go_wp2_with fail
  obtain ⟨w3, hw3⟩ : ∃ w3, w2.alloc (.cells #[.slice a n c, .int .i64 0] 37) = w3 := ⟨_, rfl⟩
  rw [hw3] at HBP ⊢
  clear hw3
  generalize w2.heap.size = Rb at *
  go_loopw [5, 7] (fun sv i wr => ∃ (k B g hand : Nat) (f : Nat → Bool) (a : Option Addr) (c : Nat), k ≤ l.length ∧ i = .int .i64 k ∧ sv = .pointer (some ⟨B, 0, none⟩) ∧ BP w wr B g Rb n hand f a c) (fun _ i _ => l.length - (intOf i).toNat)
  case atStart => exact ⟨0, B, g, 0, _, a, c, by omega, rfl, rfl, HBP.out⟩
  case round =>
    clear HBP
    obtain ⟨k, B, g, hand, f, a, c, hk, rfl, rfl, hbp⟩ := hrel
    have HBP := Lib.hid hbp
    clear hbp
    by_cases hlt : k < l.length
    · obtain ⟨b, o, rfl, hc⟩ := (HR.out.grown HBP.out.grown (by simp)).at' (by omega)
      obtain ⟨e0, e1⟩ := playV_cells l k hlt
      have x0 := hc _ _ e0
      have x1 := hc _ _ e1
      simp only [← Nat.add_assoc] at x1
      have hkd := HL.out (l.getD k (0, 0)) (by simp [List.getD, hlt])
      have hkl : decide ((k : Int) < (l.length : Int)) = true := decide_eq_true (by omega)
      have hkl2 : (k : Int) < (l.length : Int) := by omega
      clear hc e0 e1
      generalize l.getD k (0, 0) = x at *
      obtain ⟨kd, at_⟩ := x
      dsimp only at *
      obtain ⟨t, ht, ht1, ht2, htw, htw2, d, hd, hdt⟩ := kind7 kd hkd.1 hkd.2
      have b0 := HBP.out.blk.cell (j := 0) rfl
      have b1 := HBP.out.blk.cell (j := 1) rfl
      have HH := Lib.hid HBP.out.sf.lt
      clear hkd
      rcases (show (d = 0 ∨ d = 1 ∨ d = 2) ∨ d = 3 ∨ d = 4 ∨ d = 5 ∨ d = 6 by omega) with hd3 | rfl | rfl | rfl | rfl
      · rcases hd3 with rfl | rfl | rfl
        all_goals
          go_wp2_with fail
          refine (rtake7_any a c n hand f wr (by omega) HH.out.2.2 HBP.out.rds).mono ?_
          rintro e w4 (⟨a2, c2, rfl, r2, g2, hall, ho2⟩ | ⟨i, htk, a2, c2, rfl, r2, g2, ho2⟩)
          · have HALL := Lib.hid hall
            clear hall
            have hbk := (HBP.out.blk.grown g2 (by simp)).alloc (.cells #[.slice a2 n c2, .int .i64 (hand : Int)] 37)
            have gg := grownBy_trans g2 (World.grownBy_alloc w4 (.cells #[.slice a2 n c2, .int .i64 (hand : Int)] 37) none)
            have HMID := Lib.hid (HBP.out.mid hG gg (.slice a2 n c2) (.int .i64 (hand : Int)))
            have HSTEP : Hid (∀ (w2 : World) (hand' : Nat) (f' : Nat → Bool), ((hand : Int) : Int) = (hand' : Int) → boolsV f n = boolsV f' n → SF w2 B g n hand' f' → Touch (SOwn B g) (((w4.alloc (.cells #[.slice a2 n c2, .int .i64 (hand : Int)] 37)).setCell ⟨Rb, 0, none⟩ (.slice a2 n c2)).setCell ⟨Rb, 1, none⟩ (.int .i64 (hand : Int))) w2 → BP w w2 B g Rb n hand' f' a2 c2) := Lib.hid (fun w2 hand' f' e1 e2 hs ht => by
              rw [e1] at ht gg
              rw [e2] at r2
              have r2' := r2.alloc (.cells #[.slice a2 n c2, .int .i64 (hand' : Int)] 37)
              exact HBP.out.step gg r2' ho2 (rdsb_lt r2' hn1) hs ht)
            clear b0 b1 HBP r2 gg
            have b0 := hbk.cell (j := 0) rfl
            have b1 := hbk.cell (j := 1) rfl
            have f0 := hbk.frozen 0
            have f1 := hbk.frozen 1
            clear hbk g2 ho2
            go_wp2_with fail
            refine (take_any B g n hand f _ HMID.out).mono ?_
            rintro e w6 (⟨rfl, rfl, _⟩ | ⟨i, rfl, htk, s6, t6⟩)
            · have HBP := Lib.hid (HSTEP.out _ hand f rfl rfl HMID.out (Touch.refl _ _))
              clear HMID HSTEP b0 b1 f0 f1
              obtain ⟨wz, hwz⟩ : ∃ wz, ((w4.alloc (.cells #[.slice a2 n c2, .int .i64 (hand : Int)] 37)).setCell ⟨Rb, 0, none⟩ (.slice a2 n c2)).setCell ⟨Rb, 1, none⟩ (.int .i64 (hand : Int)) = wz := ⟨_, rfl⟩
              rw [hwz] at HBP ⊢
              clear hwz
              go_wp2_with fail
              obtain ⟨cn, hcn⟩ : ∃ cn, countF n (f) = cn := ⟨_, rfl⟩
              have HCN := Lib.hid hcn
              have HTL : Hid ((takI (f) n).length = cn) := Lib.hid (by rw [takI_count]; exact hcn)
              clear hcn
              have hcc : ((cn : Int) != (cn : Int)) = false := by simp
              have hnnn : ((n : Int) != (n : Int)) = false := by simp
              go_wp2_with fail
              refine wp_region_FG (fun j v => match j with
                | 0 => v = .pointer (some ⟨B, 0, none⟩)
                | 1 => v = .int .i64 (n : Int)
                | 2 => v = .int .i64 (n : Int)
                | 3 => v = .bool false
                | 4 => v = .bool false
                | 5 => v = .pointer (some ⟨B, 0, none⟩)
                | 6 => v = .int .i64 (cn : Int)
                | 7 => v = .agg #[.slice a2 n c2, .int .i64 (hand : Int)]
                | 8 => ∃ a9 c9, v = .slice a9 cn c9
                | 9 => v = .int .i64 (cn : Int)
                | 10 => v = .bool false
                | 11 => v = .bool false
                | _ => True) (fun _ _ W => wz.grownBy W none) [[], [0], [], [0, 1, 2], [0, 1, 2, 3], [0, 1, 2, 3, 4], [0, 1, 2, 3, 4, 5], [0, 1, 2, 3, 4], [0, 1, 2, 3, 4, 5, 6, 7], [0, 1, 2, 3, 4, 5, 6, 7, 8], [0, 1, 2, 3, 4, 5, 6, 7, 8, 9], [0, 1, 2, 3, 4, 5, 6, 7, 8, 9, 10]] (by kernel_rfl) (by kernel_rfl) (fun _ => grownBy_drewN wz 1 none) ?xobs ?xend
              case xobs =>
                refine fgObs_cons (fun D vals W hS hD hC => ?_) (fgObs_cons (fun D vals W hS hD hC => ?_) (fgObs_cons (fun D vals W hS hD hC => ?_) (fgObs_cons (fun D vals W hS hD hC => ?_) (fgObs_cons (fun D vals W hS hD hC => ?_) (fgObs_cons (fun D vals W hS hD hC => ?_) (fgObs_cons (fun D vals W hS hD hC => ?_) (fgObs_cons (fun D vals W hS hD hC => ?_) (fgObs_cons (fun D vals W hS hD hC => ?_) (fgObs_cons (fun D vals W hS hD hC => ?_) (fgObs_cons (fun D vals W hS hD hC => ?_) (fgObs_cons (fun D vals W hS hD hC => ?_) (fgObs_nil))))))))))))
                case _ =>
                  simp only [givenV, dstOf, List.getElem?_toArray, List.getElem?_cons_zero, List.getElem?_cons_succ, Act.put, List.setIfInBounds_toArray, List.set_cons_zero, List.set_cons_succ]
                  (try have q0 := (HBP.out.blk.grown hS (by simp)).cell (j := 0) rfl)
                  (try have q1 := (HBP.out.blk.grown hS (by simp)).cell (j := 1) rfl)
                  refine free_read rfl (by rfl) (v := _) ?_ ⟨rfl, hS⟩
                  go_simp
                  (try with_reducible rfl)
                case _ =>
                  iterate 1 (intro v h hv; (try dsimp only at h); (first | subst h | (obtain ⟨a9, c9, rfl⟩ := h) | clear h); clear hv)
                  simp only [givenV, dstOf, List.getElem?_toArray, List.getElem?_cons_zero, List.getElem?_cons_succ, Act.put, List.setIfInBounds_toArray, List.set_cons_zero, List.set_cons_succ]
                  refine wpOp_list rfl (fun K hK => ?_)
                  go_simp
                  refine (room_any B g n _ _ _ (HBP.out.sf.grown hS)).mono ?_
                  rintro e w7 ⟨rfl, rfl⟩
                  exact hK _ _ ⟨_, rfl, rfl, hS⟩
                case _ =>
                  simp only [givenV, dstOf, List.getElem?_toArray, List.getElem?_cons_zero, List.getElem?_cons_succ, Act.put, List.setIfInBounds_toArray, List.set_cons_zero, List.set_cons_succ]
                  (try have q0 := (HBP.out.blk.grown hS (by simp)).cell (j := 0) rfl)
                  (try have q1 := (HBP.out.blk.grown hS (by simp)).cell (j := 1) rfl)
                  refine free_read rfl (by rfl) (v := _) ?_ ⟨rfl, hS⟩
                  go_simp
                  (try with_reducible rfl)
                case _ =>
                  iterate 3 (intro v h hv; (try dsimp only at h); (first | subst h | (obtain ⟨a9, c9, rfl⟩ := h) | clear h); clear hv)
                  simp only [givenV, dstOf, List.getElem?_toArray, List.getElem?_cons_zero, List.getElem?_cons_succ, Act.put, List.setIfInBounds_toArray, List.set_cons_zero, List.set_cons_succ]
                  (try have q0 := (HBP.out.blk.grown hS (by simp)).cell (j := 0) rfl)
                  (try have q1 := (HBP.out.blk.grown hS (by simp)).cell (j := 1) rfl)
                  refine free_read rfl (by rfl) (v := _) ?_ ⟨rfl, hS⟩
                  go_simp
                  (try with_reducible rfl)
                case _ =>
                  iterate 4 (intro v h hv; (try dsimp only at h); (first | subst h | (obtain ⟨a9, c9, rfl⟩ := h) | clear h); clear hv)
                  simp only [givenV, dstOf, List.getElem?_toArray, List.getElem?_cons_zero, List.getElem?_cons_succ, Act.put, List.setIfInBounds_toArray, List.set_cons_zero, List.set_cons_succ]
                  (try have q0 := (HBP.out.blk.grown hS (by simp)).cell (j := 0) rfl)
                  (try have q1 := (HBP.out.blk.grown hS (by simp)).cell (j := 1) rfl)
                  refine free_read rfl (by rfl) (v := _) ?_ ⟨rfl, hS⟩
                  go_simp
                  (try with_reducible rfl)
                case _ =>
                  iterate 5 (intro v h hv; (try dsimp only at h); (first | subst h | (obtain ⟨a9, c9, rfl⟩ := h) | clear h); clear hv)
                  simp only [givenV, dstOf, List.getElem?_toArray, List.getElem?_cons_zero, List.getElem?_cons_succ, Act.put, List.setIfInBounds_toArray, List.set_cons_zero, List.set_cons_succ]
                  (try have q0 := (HBP.out.blk.grown hS (by simp)).cell (j := 0) rfl)
                  (try have q1 := (HBP.out.blk.grown hS (by simp)).cell (j := 1) rfl)
                  refine free_read rfl (by rfl) (v := _) ?_ ⟨rfl, hS⟩
                  go_simp
                  (try with_reducible rfl)
                case _ =>
                  iterate 6 (intro v h hv; (try dsimp only at h); (first | subst h | (obtain ⟨a9, c9, rfl⟩ := h) | clear h); clear hv)
                  simp only [givenV, dstOf, List.getElem?_toArray, List.getElem?_cons_zero, List.getElem?_cons_succ, Act.put, List.setIfInBounds_toArray, List.set_cons_zero, List.set_cons_succ]
                  refine wpOp_list rfl (fun K hK => ?_)
                  go_simp
                  refine (count_any B g n _ _ _ (HBP.out.sf.grown hS)).mono ?_
                  rintro e w7 ⟨rfl, rfl⟩
                  exact hK _ _ ⟨_, rfl, by rw [HCN.out], hS⟩
                case _ =>
                  iterate 5 (intro v h hv; (try dsimp only at h); (first | subst h | (obtain ⟨a9, c9, rfl⟩ := h) | clear h); clear hv)
                  simp only [givenV, dstOf, List.getElem?_toArray, List.getElem?_cons_zero, List.getElem?_cons_succ, Act.put, List.setIfInBounds_toArray, List.set_cons_zero, List.set_cons_succ]
                  (try have q0 := (HBP.out.blk.grown hS (by simp)).cell (j := 0) rfl)
                  (try have q1 := (HBP.out.blk.grown hS (by simp)).cell (j := 1) rfl)
                  refine free_read rfl (by rfl) (v := _) ?_ ⟨rfl, hS⟩
                  go_simp
                  (try with_reducible rfl)
                case _ =>
                  iterate 8 (intro v h hv; (try dsimp only at h); (first | subst h | (obtain ⟨a9, c9, rfl⟩ := h) | clear h); clear hv)
                  simp only [givenV, dstOf, List.getElem?_toArray, List.getElem?_cons_zero, List.getElem?_cons_succ, Act.put, List.setIfInBounds_toArray, List.set_cons_zero, List.set_cons_succ]
                  refine wpOp_list rfl (fun K hK => ?_)
                  go_simp
                  refine (rall7_any a2 c2 n _ _ _ (by omega) (HBP.out.rds.grown hS (by simp))).mono ?_
                  rintro e w7 ⟨a9, c9, rfl, _, g7⟩
                  rw [HTL.out]
                  exact hK _ _ ⟨_, rfl, ⟨a9, c9, rfl⟩, grownBy_trans hS g7⟩
                case _ =>
                  iterate 8 (intro v h hv; (try dsimp only at h); subst h; clear hv)
                  intro v h hv
                  clear hv
                  simp only [givenV, dstOf, List.getElem?_toArray, List.getElem?_cons_zero, List.getElem?_cons_succ, Act.put, List.setIfInBounds_toArray, List.set_cons_zero, List.set_cons_succ]
                  have h' : ∃ a9 c9, v = Value.slice a9 cn c9 := h
                  clear h
                  obtain ⟨a9, c9, rfl⟩ := h'
                  refine free_read rfl (by rfl) (v := .int .i64 (cn : Int)) ?_ ⟨rfl, hS⟩
                  go_simp
                case _ =>
                  iterate 10 (intro v h hv; (try dsimp only at h); (first | subst h | (obtain ⟨a9, c9, rfl⟩ := h) | clear h); clear hv)
                  simp only [givenV, dstOf, List.getElem?_toArray, List.getElem?_cons_zero, List.getElem?_cons_succ, Act.put, List.setIfInBounds_toArray, List.set_cons_zero, List.set_cons_succ]
                  (try have q0 := (HBP.out.blk.grown hS (by simp)).cell (j := 0) rfl)
                  (try have q1 := (HBP.out.blk.grown hS (by simp)).cell (j := 1) rfl)
                  refine free_read rfl (by rfl) (v := _) ?_ ⟨rfl, hS⟩
                  go_simp
                  (try with_reducible rfl)
                case _ =>
                  iterate 11 (intro v h hv; (try dsimp only at h); (first | subst h | (obtain ⟨a9, c9, rfl⟩ := h) | clear h); clear hv)
                  simp only [givenV, dstOf, List.getElem?_toArray, List.getElem?_cons_zero, List.getElem?_cons_succ, Act.put, List.setIfInBounds_toArray, List.set_cons_zero, List.set_cons_succ]
                  (try have q0 := (HBP.out.blk.grown hS (by simp)).cell (j := 0) rfl)
                  (try have q1 := (HBP.out.blk.grown hS (by simp)).cell (j := 1) rfl)
                  refine free_read rfl (by rfl) (v := _) ?_ ⟨rfl, hS⟩
                  go_simp
                  (try with_reducible rfl)
              case xend =>
                intro D vals W hS hD
                iterate 12 (intro v h hv; (try dsimp only at h); (first | subst h | (obtain ⟨a9, c9, rfl⟩ := h) | clear h); clear hv)
                simp only [givenV, dstOf, List.getElem?_toArray, List.getElem?_cons_zero, List.getElem?_cons_succ, Act.put, List.setIfInBounds_toArray, List.set_cons_zero, List.set_cons_succ]
                have HBP := Lib.hid (HBP.out.later hS)
                clear hS HCN HTL
                go_wp2_with fail
                go_roundw
                case rel => exact ⟨k + 1, B, g, _, _, _, _, by omega, by go_num, rfl, HBP.out⟩
                case measure => simp [intOf]; omega
            · have h1 := HALL.out i htk.1
              rw [htk.2.1] at h1
              cases h1
          · have HTK := Lib.hid htk
            have hi0 : decide ((0 : Int) ≤ (i : Int)) = true := decide_eq_true (by omega)
            have hii : ((i : Int) != (i : Int)) = false := by simp
            clear htk
            obtain ⟨h2, hh2⟩ : ∃ h2 : Nat, (i + 1) % n = h2 := ⟨_, rfl⟩
            have HH2 := Lib.hid hh2
            rw [hh2]
            clear hh2
            have hbk := (HBP.out.blk.grown g2 (by simp)).alloc (.cells #[.slice a2 n c2, .int .i64 (h2 : Int)] 37)
            have gg := grownBy_trans g2 (World.grownBy_alloc w4 (.cells #[.slice a2 n c2, .int .i64 (h2 : Int)] 37) none)
            have HMID := Lib.hid (HBP.out.mid hG gg (.slice a2 n c2) (.int .i64 (h2 : Int)))
            have HSTEP : Hid (∀ (w2 : World) (hand' : Nat) (f' : Nat → Bool), ((h2 : Int) : Int) = (hand' : Int) → boolsV (markF n f (i : Int)) n = boolsV f' n → SF w2 B g n hand' f' → Touch (SOwn B g) (((w4.alloc (.cells #[.slice a2 n c2, .int .i64 (h2 : Int)] 37)).setCell ⟨Rb, 0, none⟩ (.slice a2 n c2)).setCell ⟨Rb, 1, none⟩ (.int .i64 (h2 : Int))) w2 → BP w w2 B g Rb n hand' f' a2 c2) := Lib.hid (fun w2 hand' f' e1 e2 hs ht => by
              rw [e1] at ht gg
              rw [e2] at r2
              have r2' := r2.alloc (.cells #[.slice a2 n c2, .int .i64 (hand' : Int)] 37)
              exact HBP.out.step gg r2' ho2 (rdsb_lt r2' hn1) hs ht)
            clear b0 b1 HBP r2 gg
            have b0 := hbk.cell (j := 0) rfl
            have b1 := hbk.cell (j := 1) rfl
            have f0 := hbk.frozen 0
            have f1 := hbk.frozen 1
            clear hbk g2 ho2
            go_wp2_with fail
            refine (take_any B g n hand f _ HMID.out).mono ?_
            rintro e wz (⟨rfl, rfl, hall⟩ | ⟨i2, rfl, htk2, s6, t6⟩)
            · have h1 := hall i HTK.out.1
              rw [HTK.out.2.1] at h1
              cases h1
            · obtain rfl := took_uniq HTK.out htk2
              rw [HH2.out] at s6
              have HBP := Lib.hid (HSTEP.out _ h2 _ rfl rfl s6 t6)
              clear HMID HSTEP b0 b1 f0 f1 s6 t6 htk2 HH2
              obtain ⟨cn, hcn⟩ : ∃ cn, countF n (markF n f (i : Int)) = cn := ⟨_, rfl⟩
              have HCN := Lib.hid hcn
              have HTL : Hid ((takI (markF n f (i : Int)) n).length = cn) := Lib.hid (by rw [takI_count]; exact hcn)
              clear hcn
              have hcc : ((cn : Int) != (cn : Int)) = false := by simp
              have hnnn : ((n : Int) != (n : Int)) = false := by simp
              go_wp2_with fail
              refine wp_region_FG (fun j v => match j with
                | 0 => v = .pointer (some ⟨B, 0, none⟩)
                | 1 => v = .int .i64 (n : Int)
                | 2 => v = .int .i64 (n : Int)
                | 3 => v = .bool false
                | 4 => v = .bool false
                | 5 => v = .pointer (some ⟨B, 0, none⟩)
                | 6 => v = .int .i64 (cn : Int)
                | 7 => v = .agg #[.slice a2 n c2, .int .i64 (h2 : Int)]
                | 8 => ∃ a9 c9, v = .slice a9 cn c9
                | 9 => v = .int .i64 (cn : Int)
                | 10 => v = .bool false
                | 11 => v = .bool false
                | _ => True) (fun _ _ W => wz.grownBy W none) [[], [0], [], [0, 1, 2], [0, 1, 2, 3], [0, 1, 2, 3, 4], [0, 1, 2, 3, 4, 5], [0, 1, 2, 3, 4], [0, 1, 2, 3, 4, 5, 6, 7], [0, 1, 2, 3, 4, 5, 6, 7, 8], [0, 1, 2, 3, 4, 5, 6, 7, 8, 9], [0, 1, 2, 3, 4, 5, 6, 7, 8, 9, 10]] (by kernel_rfl) (by kernel_rfl) (fun _ => grownBy_drewN wz 1 none) ?xobs ?xend
              case xobs =>
                refine fgObs_cons (fun D vals W hS hD hC => ?_) (fgObs_cons (fun D vals W hS hD hC => ?_) (fgObs_cons (fun D vals W hS hD hC => ?_) (fgObs_cons (fun D vals W hS hD hC => ?_) (fgObs_cons (fun D vals W hS hD hC => ?_) (fgObs_cons (fun D vals W hS hD hC => ?_) (fgObs_cons (fun D vals W hS hD hC => ?_) (fgObs_cons (fun D vals W hS hD hC => ?_) (fgObs_cons (fun D vals W hS hD hC => ?_) (fgObs_cons (fun D vals W hS hD hC => ?_) (fgObs_cons (fun D vals W hS hD hC => ?_) (fgObs_cons (fun D vals W hS hD hC => ?_) (fgObs_nil))))))))))))
                case _ =>
                  simp only [givenV, dstOf, List.getElem?_toArray, List.getElem?_cons_zero, List.getElem?_cons_succ, Act.put, List.setIfInBounds_toArray, List.set_cons_zero, List.set_cons_succ]
                  (try have q0 := (HBP.out.blk.grown hS (by simp)).cell (j := 0) rfl)
                  (try have q1 := (HBP.out.blk.grown hS (by simp)).cell (j := 1) rfl)
                  refine free_read rfl (by rfl) (v := _) ?_ ⟨rfl, hS⟩
                  go_simp
                  (try with_reducible rfl)
                case _ =>
                  iterate 1 (intro v h hv; (try dsimp only at h); (first | subst h | (obtain ⟨a9, c9, rfl⟩ := h) | clear h); clear hv)
                  simp only [givenV, dstOf, List.getElem?_toArray, List.getElem?_cons_zero, List.getElem?_cons_succ, Act.put, List.setIfInBounds_toArray, List.set_cons_zero, List.set_cons_succ]
                  refine wpOp_list rfl (fun K hK => ?_)
                  go_simp
                  refine (room_any B g n _ _ _ (HBP.out.sf.grown hS)).mono ?_
                  rintro e w7 ⟨rfl, rfl⟩
                  exact hK _ _ ⟨_, rfl, rfl, hS⟩
                case _ =>
                  simp only [givenV, dstOf, List.getElem?_toArray, List.getElem?_cons_zero, List.getElem?_cons_succ, Act.put, List.setIfInBounds_toArray, List.set_cons_zero, List.set_cons_succ]
                  (try have q0 := (HBP.out.blk.grown hS (by simp)).cell (j := 0) rfl)
                  (try have q1 := (HBP.out.blk.grown hS (by simp)).cell (j := 1) rfl)
                  refine free_read rfl (by rfl) (v := _) ?_ ⟨rfl, hS⟩
                  go_simp
                  (try with_reducible rfl)
                case _ =>
                  iterate 3 (intro v h hv; (try dsimp only at h); (first | subst h | (obtain ⟨a9, c9, rfl⟩ := h) | clear h); clear hv)
                  simp only [givenV, dstOf, List.getElem?_toArray, List.getElem?_cons_zero, List.getElem?_cons_succ, Act.put, List.setIfInBounds_toArray, List.set_cons_zero, List.set_cons_succ]
                  (try have q0 := (HBP.out.blk.grown hS (by simp)).cell (j := 0) rfl)
                  (try have q1 := (HBP.out.blk.grown hS (by simp)).cell (j := 1) rfl)
                  refine free_read rfl (by rfl) (v := _) ?_ ⟨rfl, hS⟩
                  go_simp
                  (try with_reducible rfl)
                case _ =>
                  iterate 4 (intro v h hv; (try dsimp only at h); (first | subst h | (obtain ⟨a9, c9, rfl⟩ := h) | clear h); clear hv)
                  simp only [givenV, dstOf, List.getElem?_toArray, List.getElem?_cons_zero, List.getElem?_cons_succ, Act.put, List.setIfInBounds_toArray, List.set_cons_zero, List.set_cons_succ]
                  (try have q0 := (HBP.out.blk.grown hS (by simp)).cell (j := 0) rfl)
                  (try have q1 := (HBP.out.blk.grown hS (by simp)).cell (j := 1) rfl)
                  refine free_read rfl (by rfl) (v := _) ?_ ⟨rfl, hS⟩
                  go_simp
                  (try with_reducible rfl)
                case _ =>
                  iterate 5 (intro v h hv; (try dsimp only at h); (first | subst h | (obtain ⟨a9, c9, rfl⟩ := h) | clear h); clear hv)
                  simp only [givenV, dstOf, List.getElem?_toArray, List.getElem?_cons_zero, List.getElem?_cons_succ, Act.put, List.setIfInBounds_toArray, List.set_cons_zero, List.set_cons_succ]
                  (try have q0 := (HBP.out.blk.grown hS (by simp)).cell (j := 0) rfl)
                  (try have q1 := (HBP.out.blk.grown hS (by simp)).cell (j := 1) rfl)
                  refine free_read rfl (by rfl) (v := _) ?_ ⟨rfl, hS⟩
                  go_simp
                  (try with_reducible rfl)
                case _ =>
                  iterate 6 (intro v h hv; (try dsimp only at h); (first | subst h | (obtain ⟨a9, c9, rfl⟩ := h) | clear h); clear hv)
                  simp only [givenV, dstOf, List.getElem?_toArray, List.getElem?_cons_zero, List.getElem?_cons_succ, Act.put, List.setIfInBounds_toArray, List.set_cons_zero, List.set_cons_succ]
                  refine wpOp_list rfl (fun K hK => ?_)
                  go_simp
                  refine (count_any B g n _ _ _ (HBP.out.sf.grown hS)).mono ?_
                  rintro e w7 ⟨rfl, rfl⟩
                  exact hK _ _ ⟨_, rfl, by rw [HCN.out], hS⟩
                case _ =>
                  iterate 5 (intro v h hv; (try dsimp only at h); (first | subst h | (obtain ⟨a9, c9, rfl⟩ := h) | clear h); clear hv)
                  simp only [givenV, dstOf, List.getElem?_toArray, List.getElem?_cons_zero, List.getElem?_cons_succ, Act.put, List.setIfInBounds_toArray, List.set_cons_zero, List.set_cons_succ]
                  (try have q0 := (HBP.out.blk.grown hS (by simp)).cell (j := 0) rfl)
                  (try have q1 := (HBP.out.blk.grown hS (by simp)).cell (j := 1) rfl)
                  refine free_read rfl (by rfl) (v := _) ?_ ⟨rfl, hS⟩
                  go_simp
                  (try with_reducible rfl)
                case _ =>
                  iterate 8 (intro v h hv; (try dsimp only at h); (first | subst h | (obtain ⟨a9, c9, rfl⟩ := h) | clear h); clear hv)
                  simp only [givenV, dstOf, List.getElem?_toArray, List.getElem?_cons_zero, List.getElem?_cons_succ, Act.put, List.setIfInBounds_toArray, List.set_cons_zero, List.set_cons_succ]
                  refine wpOp_list rfl (fun K hK => ?_)
                  go_simp
                  refine (rall7_any a2 c2 n _ _ _ (by omega) (HBP.out.rds.grown hS (by simp))).mono ?_
                  rintro e w7 ⟨a9, c9, rfl, _, g7⟩
                  rw [HTL.out]
                  exact hK _ _ ⟨_, rfl, ⟨a9, c9, rfl⟩, grownBy_trans hS g7⟩
                case _ =>
                  iterate 8 (intro v h hv; (try dsimp only at h); subst h; clear hv)
                  intro v h hv
                  clear hv
                  simp only [givenV, dstOf, List.getElem?_toArray, List.getElem?_cons_zero, List.getElem?_cons_succ, Act.put, List.setIfInBounds_toArray, List.set_cons_zero, List.set_cons_succ]
                  have h' : ∃ a9 c9, v = Value.slice a9 cn c9 := h
                  clear h
                  obtain ⟨a9, c9, rfl⟩ := h'
                  refine free_read rfl (by rfl) (v := .int .i64 (cn : Int)) ?_ ⟨rfl, hS⟩
                  go_simp
                case _ =>
                  iterate 10 (intro v h hv; (try dsimp only at h); (first | subst h | (obtain ⟨a9, c9, rfl⟩ := h) | clear h); clear hv)
                  simp only [givenV, dstOf, List.getElem?_toArray, List.getElem?_cons_zero, List.getElem?_cons_succ, Act.put, List.setIfInBounds_toArray, List.set_cons_zero, List.set_cons_succ]
                  (try have q0 := (HBP.out.blk.grown hS (by simp)).cell (j := 0) rfl)
                  (try have q1 := (HBP.out.blk.grown hS (by simp)).cell (j := 1) rfl)
                  refine free_read rfl (by rfl) (v := _) ?_ ⟨rfl, hS⟩
                  go_simp
                  (try with_reducible rfl)
                case _ =>
                  iterate 11 (intro v h hv; (try dsimp only at h); (first | subst h | (obtain ⟨a9, c9, rfl⟩ := h) | clear h); clear hv)
                  simp only [givenV, dstOf, List.getElem?_toArray, List.getElem?_cons_zero, List.getElem?_cons_succ, Act.put, List.setIfInBounds_toArray, List.set_cons_zero, List.set_cons_succ]
                  (try have q0 := (HBP.out.blk.grown hS (by simp)).cell (j := 0) rfl)
                  (try have q1 := (HBP.out.blk.grown hS (by simp)).cell (j := 1) rfl)
                  refine free_read rfl (by rfl) (v := _) ?_ ⟨rfl, hS⟩
                  go_simp
                  (try with_reducible rfl)
              case xend =>
                intro D vals W hS hD
                iterate 12 (intro v h hv; (try dsimp only at h); (first | subst h | (obtain ⟨a9, c9, rfl⟩ := h) | clear h); clear hv)
                simp only [givenV, dstOf, List.getElem?_toArray, List.getElem?_cons_zero, List.getElem?_cons_succ, Act.put, List.setIfInBounds_toArray, List.set_cons_zero, List.set_cons_succ]
                have HBP := Lib.hid (HBP.out.later hS)
                clear hS HCN HTL
                go_wp2_with fail
                go_roundw
                case rel => exact ⟨k + 1, B, g, _, _, _, _, by omega, by go_num, rfl, HBP.out⟩
                case measure => simp [intOf]; omega
      · go_wp2_with fail
        refine (rmark_any a c n hand f at_ wr (by omega) HBP.out.rds).mono ?_
        rintro e w4 ⟨a2, c2, rfl, r2, g2, ho2⟩
        have hbk := (HBP.out.blk.grown g2 (by simp)).alloc (.cells #[.slice a2 n c2, .int .i64 (hand : Int)] 37)
        have gg := grownBy_trans g2 (World.grownBy_alloc w4 (.cells #[.slice a2 n c2, .int .i64 (hand : Int)] 37) none)
        have HMID := Lib.hid (HBP.out.mid hG gg (.slice a2 n c2) (.int .i64 (hand : Int)))
        have HSTEP : Hid (∀ (w2 : World) (hand' : Nat) (f' : Nat → Bool), ((hand : Int) : Int) = (hand' : Int) → boolsV (markF n f at_) n = boolsV f' n → SF w2 B g n hand' f' → Touch (SOwn B g) (((w4.alloc (.cells #[.slice a2 n c2, .int .i64 (hand : Int)] 37)).setCell ⟨Rb, 0, none⟩ (.slice a2 n c2)).setCell ⟨Rb, 1, none⟩ (.int .i64 (hand : Int))) w2 → BP w w2 B g Rb n hand' f' a2 c2) := Lib.hid (fun w2 hand' f' e1 e2 hs ht => by
          rw [e1] at ht gg
          rw [e2] at r2
          have r2' := r2.alloc (.cells #[.slice a2 n c2, .int .i64 (hand' : Int)] 37)
          exact HBP.out.step gg r2' ho2 (rdsb_lt r2' hn1) hs ht)
        clear b0 b1 HBP r2 gg
        have b0 := hbk.cell (j := 0) rfl
        have b1 := hbk.cell (j := 1) rfl
        have f0 := hbk.frozen 0
        have f1 := hbk.frozen 1
        clear hbk g2 ho2
        go_wp2_with fail
        refine (mark_any B g n hand f at_ _ HMID.out).mono ?_
        rintro e wz ⟨rfl, s6, t6⟩
        have HBP := Lib.hid (HSTEP.out _ _ _ rfl rfl s6 t6)
        clear HMID HSTEP b0 b1 f0 f1 s6 t6
        generalize (inB n at_ && !f at_.toNat) = bb at *
        have hbb : (bb != bb) = false := by simp
        obtain ⟨cn, hcn⟩ : ∃ cn, countF n (markF n f at_) = cn := ⟨_, rfl⟩
        have HCN := Lib.hid hcn
        have HTL : Hid ((takI (markF n f at_) n).length = cn) := Lib.hid (by rw [takI_count]; exact hcn)
        clear hcn
        have hcc : ((cn : Int) != (cn : Int)) = false := by simp
        have hnnn : ((n : Int) != (n : Int)) = false := by simp
        go_wp2_with fail
        refine wp_region_FG (fun j v => match j with
          | 0 => v = .pointer (some ⟨B, 0, none⟩)
          | 1 => v = .int .i64 (n : Int)
          | 2 => v = .int .i64 (n : Int)
          | 3 => v = .bool false
          | 4 => v = .bool false
          | 5 => v = .pointer (some ⟨B, 0, none⟩)
          | 6 => v = .int .i64 (cn : Int)
          | 7 => v = .agg #[.slice a2 n c2, .int .i64 (hand : Int)]
          | 8 => ∃ a9 c9, v = .slice a9 cn c9
          | 9 => v = .int .i64 (cn : Int)
          | 10 => v = .bool false
          | 11 => v = .bool false
          | _ => True) (fun _ _ W => wz.grownBy W none) [[], [0], [], [0, 1, 2], [0, 1, 2, 3], [0, 1, 2, 3, 4], [0, 1, 2, 3, 4, 5], [0, 1, 2, 3, 4], [0, 1, 2, 3, 4, 5, 6, 7], [0, 1, 2, 3, 4, 5, 6, 7, 8], [0, 1, 2, 3, 4, 5, 6, 7, 8, 9], [0, 1, 2, 3, 4, 5, 6, 7, 8, 9, 10]] (by kernel_rfl) (by kernel_rfl) (fun _ => grownBy_drewN wz 1 none) ?xobs ?xend
        case xobs =>
          refine fgObs_cons (fun D vals W hS hD hC => ?_) (fgObs_cons (fun D vals W hS hD hC => ?_) (fgObs_cons (fun D vals W hS hD hC => ?_) (fgObs_cons (fun D vals W hS hD hC => ?_) (fgObs_cons (fun D vals W hS hD hC => ?_) (fgObs_cons (fun D vals W hS hD hC => ?_) (fgObs_cons (fun D vals W hS hD hC => ?_) (fgObs_cons (fun D vals W hS hD hC => ?_) (fgObs_cons (fun D vals W hS hD hC => ?_) (fgObs_cons (fun D vals W hS hD hC => ?_) (fgObs_cons (fun D vals W hS hD hC => ?_) (fgObs_cons (fun D vals W hS hD hC => ?_) (fgObs_nil))))))))))))
          case _ =>
            simp only [givenV, dstOf, List.getElem?_toArray, List.getElem?_cons_zero, List.getElem?_cons_succ, Act.put, List.setIfInBounds_toArray, List.set_cons_zero, List.set_cons_succ]
            (try have q0 := (HBP.out.blk.grown hS (by simp)).cell (j := 0) rfl)
            (try have q1 := (HBP.out.blk.grown hS (by simp)).cell (j := 1) rfl)
            refine free_read rfl (by rfl) (v := _) ?_ ⟨rfl, hS⟩
            go_simp
            (try with_reducible rfl)
          case _ =>
            iterate 1 (intro v h hv; (try dsimp only at h); (first | subst h | (obtain ⟨a9, c9, rfl⟩ := h) | clear h); clear hv)
            simp only [givenV, dstOf, List.getElem?_toArray, List.getElem?_cons_zero, List.getElem?_cons_succ, Act.put, List.setIfInBounds_toArray, List.set_cons_zero, List.set_cons_succ]
            refine wpOp_list rfl (fun K hK => ?_)
            go_simp
            refine (room_any B g n _ _ _ (HBP.out.sf.grown hS)).mono ?_
            rintro e w7 ⟨rfl, rfl⟩
            exact hK _ _ ⟨_, rfl, rfl, hS⟩
          case _ =>
            simp only [givenV, dstOf, List.getElem?_toArray, List.getElem?_cons_zero, List.getElem?_cons_succ, Act.put, List.setIfInBounds_toArray, List.set_cons_zero, List.set_cons_succ]
            (try have q0 := (HBP.out.blk.grown hS (by simp)).cell (j := 0) rfl)
            (try have q1 := (HBP.out.blk.grown hS (by simp)).cell (j := 1) rfl)
            refine free_read rfl (by rfl) (v := _) ?_ ⟨rfl, hS⟩
            go_simp
            (try with_reducible rfl)
          case _ =>
            iterate 3 (intro v h hv; (try dsimp only at h); (first | subst h | (obtain ⟨a9, c9, rfl⟩ := h) | clear h); clear hv)
            simp only [givenV, dstOf, List.getElem?_toArray, List.getElem?_cons_zero, List.getElem?_cons_succ, Act.put, List.setIfInBounds_toArray, List.set_cons_zero, List.set_cons_succ]
            (try have q0 := (HBP.out.blk.grown hS (by simp)).cell (j := 0) rfl)
            (try have q1 := (HBP.out.blk.grown hS (by simp)).cell (j := 1) rfl)
            refine free_read rfl (by rfl) (v := _) ?_ ⟨rfl, hS⟩
            go_simp
            (try with_reducible rfl)
          case _ =>
            iterate 4 (intro v h hv; (try dsimp only at h); (first | subst h | (obtain ⟨a9, c9, rfl⟩ := h) | clear h); clear hv)
            simp only [givenV, dstOf, List.getElem?_toArray, List.getElem?_cons_zero, List.getElem?_cons_succ, Act.put, List.setIfInBounds_toArray, List.set_cons_zero, List.set_cons_succ]
            (try have q0 := (HBP.out.blk.grown hS (by simp)).cell (j := 0) rfl)
            (try have q1 := (HBP.out.blk.grown hS (by simp)).cell (j := 1) rfl)
            refine free_read rfl (by rfl) (v := _) ?_ ⟨rfl, hS⟩
            go_simp
            (try with_reducible rfl)
          case _ =>
            iterate 5 (intro v h hv; (try dsimp only at h); (first | subst h | (obtain ⟨a9, c9, rfl⟩ := h) | clear h); clear hv)
            simp only [givenV, dstOf, List.getElem?_toArray, List.getElem?_cons_zero, List.getElem?_cons_succ, Act.put, List.setIfInBounds_toArray, List.set_cons_zero, List.set_cons_succ]
            (try have q0 := (HBP.out.blk.grown hS (by simp)).cell (j := 0) rfl)
            (try have q1 := (HBP.out.blk.grown hS (by simp)).cell (j := 1) rfl)
            refine free_read rfl (by rfl) (v := _) ?_ ⟨rfl, hS⟩
            go_simp
            (try with_reducible rfl)
          case _ =>
            iterate 6 (intro v h hv; (try dsimp only at h); (first | subst h | (obtain ⟨a9, c9, rfl⟩ := h) | clear h); clear hv)
            simp only [givenV, dstOf, List.getElem?_toArray, List.getElem?_cons_zero, List.getElem?_cons_succ, Act.put, List.setIfInBounds_toArray, List.set_cons_zero, List.set_cons_succ]
            refine wpOp_list rfl (fun K hK => ?_)
            go_simp
            refine (count_any B g n _ _ _ (HBP.out.sf.grown hS)).mono ?_
            rintro e w7 ⟨rfl, rfl⟩
            exact hK _ _ ⟨_, rfl, by rw [HCN.out], hS⟩
          case _ =>
            iterate 5 (intro v h hv; (try dsimp only at h); (first | subst h | (obtain ⟨a9, c9, rfl⟩ := h) | clear h); clear hv)
            simp only [givenV, dstOf, List.getElem?_toArray, List.getElem?_cons_zero, List.getElem?_cons_succ, Act.put, List.setIfInBounds_toArray, List.set_cons_zero, List.set_cons_succ]
            (try have q0 := (HBP.out.blk.grown hS (by simp)).cell (j := 0) rfl)
            (try have q1 := (HBP.out.blk.grown hS (by simp)).cell (j := 1) rfl)
            refine free_read rfl (by rfl) (v := _) ?_ ⟨rfl, hS⟩
            go_simp
            (try with_reducible rfl)
          case _ =>
            iterate 8 (intro v h hv; (try dsimp only at h); (first | subst h | (obtain ⟨a9, c9, rfl⟩ := h) | clear h); clear hv)
            simp only [givenV, dstOf, List.getElem?_toArray, List.getElem?_cons_zero, List.getElem?_cons_succ, Act.put, List.setIfInBounds_toArray, List.set_cons_zero, List.set_cons_succ]
            refine wpOp_list rfl (fun K hK => ?_)
            go_simp
            refine (rall7_any a2 c2 n _ _ _ (by omega) (HBP.out.rds.grown hS (by simp))).mono ?_
            rintro e w7 ⟨a9, c9, rfl, _, g7⟩
            rw [HTL.out]
            exact hK _ _ ⟨_, rfl, ⟨a9, c9, rfl⟩, grownBy_trans hS g7⟩
          case _ =>
            iterate 8 (intro v h hv; (try dsimp only at h); subst h; clear hv)
            intro v h hv
            clear hv
            simp only [givenV, dstOf, List.getElem?_toArray, List.getElem?_cons_zero, List.getElem?_cons_succ, Act.put, List.setIfInBounds_toArray, List.set_cons_zero, List.set_cons_succ]
            have h' : ∃ a9 c9, v = Value.slice a9 cn c9 := h
            clear h
            obtain ⟨a9, c9, rfl⟩ := h'
            refine free_read rfl (by rfl) (v := .int .i64 (cn : Int)) ?_ ⟨rfl, hS⟩
            go_simp
          case _ =>
            iterate 10 (intro v h hv; (try dsimp only at h); (first | subst h | (obtain ⟨a9, c9, rfl⟩ := h) | clear h); clear hv)
            simp only [givenV, dstOf, List.getElem?_toArray, List.getElem?_cons_zero, List.getElem?_cons_succ, Act.put, List.setIfInBounds_toArray, List.set_cons_zero, List.set_cons_succ]
            (try have q0 := (HBP.out.blk.grown hS (by simp)).cell (j := 0) rfl)
            (try have q1 := (HBP.out.blk.grown hS (by simp)).cell (j := 1) rfl)
            refine free_read rfl (by rfl) (v := _) ?_ ⟨rfl, hS⟩
            go_simp
            (try with_reducible rfl)
          case _ =>
            iterate 11 (intro v h hv; (try dsimp only at h); (first | subst h | (obtain ⟨a9, c9, rfl⟩ := h) | clear h); clear hv)
            simp only [givenV, dstOf, List.getElem?_toArray, List.getElem?_cons_zero, List.getElem?_cons_succ, Act.put, List.setIfInBounds_toArray, List.set_cons_zero, List.set_cons_succ]
            (try have q0 := (HBP.out.blk.grown hS (by simp)).cell (j := 0) rfl)
            (try have q1 := (HBP.out.blk.grown hS (by simp)).cell (j := 1) rfl)
            refine free_read rfl (by rfl) (v := _) ?_ ⟨rfl, hS⟩
            go_simp
            (try with_reducible rfl)
        case xend =>
          intro D vals W hS hD
          iterate 12 (intro v h hv; (try dsimp only at h); (first | subst h | (obtain ⟨a9, c9, rfl⟩ := h) | clear h); clear hv)
          simp only [givenV, dstOf, List.getElem?_toArray, List.getElem?_cons_zero, List.getElem?_cons_succ, Act.put, List.setIfInBounds_toArray, List.set_cons_zero, List.set_cons_succ]
          have HBP := Lib.hid (HBP.out.later hS)
          clear hS HCN HTL
          go_wp2_with fail
          go_roundw
          case rel => exact ⟨k + 1, B, g, _, _, _, _, by omega, by go_num, rfl, HBP.out⟩
          case measure => simp [intOf]; omega
      · go_wp2_with fail
        refine (rclear_any a c n hand f at_ wr (by omega) HBP.out.rds).mono ?_
        rintro e w4 ⟨a2, c2, rfl, r2, g2, ho2⟩
        have hbk := (HBP.out.blk.grown g2 (by simp)).alloc (.cells #[.slice a2 n c2, .int .i64 (hand : Int)] 37)
        have gg := grownBy_trans g2 (World.grownBy_alloc w4 (.cells #[.slice a2 n c2, .int .i64 (hand : Int)] 37) none)
        have HMID := Lib.hid (HBP.out.mid hG gg (.slice a2 n c2) (.int .i64 (hand : Int)))
        have HSTEP : Hid (∀ (w2 : World) (hand' : Nat) (f' : Nat → Bool), ((hand : Int) : Int) = (hand' : Int) → boolsV (clearF n f at_) n = boolsV f' n → SF w2 B g n hand' f' → Touch (SOwn B g) (((w4.alloc (.cells #[.slice a2 n c2, .int .i64 (hand : Int)] 37)).setCell ⟨Rb, 0, none⟩ (.slice a2 n c2)).setCell ⟨Rb, 1, none⟩ (.int .i64 (hand : Int))) w2 → BP w w2 B g Rb n hand' f' a2 c2) := Lib.hid (fun w2 hand' f' e1 e2 hs ht => by
          rw [e1] at ht gg
          rw [e2] at r2
          have r2' := r2.alloc (.cells #[.slice a2 n c2, .int .i64 (hand' : Int)] 37)
          exact HBP.out.step gg r2' ho2 (rdsb_lt r2' hn1) hs ht)
        clear b0 b1 HBP r2 gg
        have b0 := hbk.cell (j := 0) rfl
        have b1 := hbk.cell (j := 1) rfl
        have f0 := hbk.frozen 0
        have f1 := hbk.frozen 1
        clear hbk g2 ho2
        go_wp2_with fail
        refine (clear_any B g n hand f at_ _ HMID.out).mono ?_
        rintro e wz ⟨rfl, s6, t6⟩
        have HBP := Lib.hid (HSTEP.out _ _ _ rfl rfl s6 t6)
        clear HMID HSTEP b0 b1 f0 f1 s6 t6
        generalize hasF n f at_ = bb at *
        have hbb : (bb != bb) = false := by simp
        obtain ⟨cn, hcn⟩ : ∃ cn, countF n (clearF n f at_) = cn := ⟨_, rfl⟩
        have HCN := Lib.hid hcn
        have HTL : Hid ((takI (clearF n f at_) n).length = cn) := Lib.hid (by rw [takI_count]; exact hcn)
        clear hcn
        have hcc : ((cn : Int) != (cn : Int)) = false := by simp
        have hnnn : ((n : Int) != (n : Int)) = false := by simp
        go_wp2_with fail
        refine wp_region_FG (fun j v => match j with
          | 0 => v = .pointer (some ⟨B, 0, none⟩)
          | 1 => v = .int .i64 (n : Int)
          | 2 => v = .int .i64 (n : Int)
          | 3 => v = .bool false
          | 4 => v = .bool false
          | 5 => v = .pointer (some ⟨B, 0, none⟩)
          | 6 => v = .int .i64 (cn : Int)
          | 7 => v = .agg #[.slice a2 n c2, .int .i64 (hand : Int)]
          | 8 => ∃ a9 c9, v = .slice a9 cn c9
          | 9 => v = .int .i64 (cn : Int)
          | 10 => v = .bool false
          | 11 => v = .bool false
          | _ => True) (fun _ _ W => wz.grownBy W none) [[], [0], [], [0, 1, 2], [0, 1, 2, 3], [0, 1, 2, 3, 4], [0, 1, 2, 3, 4, 5], [0, 1, 2, 3, 4], [0, 1, 2, 3, 4, 5, 6, 7], [0, 1, 2, 3, 4, 5, 6, 7, 8], [0, 1, 2, 3, 4, 5, 6, 7, 8, 9], [0, 1, 2, 3, 4, 5, 6, 7, 8, 9, 10]] (by kernel_rfl) (by kernel_rfl) (fun _ => grownBy_drewN wz 1 none) ?xobs ?xend
        case xobs =>
          refine fgObs_cons (fun D vals W hS hD hC => ?_) (fgObs_cons (fun D vals W hS hD hC => ?_) (fgObs_cons (fun D vals W hS hD hC => ?_) (fgObs_cons (fun D vals W hS hD hC => ?_) (fgObs_cons (fun D vals W hS hD hC => ?_) (fgObs_cons (fun D vals W hS hD hC => ?_) (fgObs_cons (fun D vals W hS hD hC => ?_) (fgObs_cons (fun D vals W hS hD hC => ?_) (fgObs_cons (fun D vals W hS hD hC => ?_) (fgObs_cons (fun D vals W hS hD hC => ?_) (fgObs_cons (fun D vals W hS hD hC => ?_) (fgObs_cons (fun D vals W hS hD hC => ?_) (fgObs_nil))))))))))))
          case _ =>
            simp only [givenV, dstOf, List.getElem?_toArray, List.getElem?_cons_zero, List.getElem?_cons_succ, Act.put, List.setIfInBounds_toArray, List.set_cons_zero, List.set_cons_succ]
            (try have q0 := (HBP.out.blk.grown hS (by simp)).cell (j := 0) rfl)
            (try have q1 := (HBP.out.blk.grown hS (by simp)).cell (j := 1) rfl)
            refine free_read rfl (by rfl) (v := _) ?_ ⟨rfl, hS⟩
            go_simp
            (try with_reducible rfl)
          case _ =>
            iterate 1 (intro v h hv; (try dsimp only at h); (first | subst h | (obtain ⟨a9, c9, rfl⟩ := h) | clear h); clear hv)
            simp only [givenV, dstOf, List.getElem?_toArray, List.getElem?_cons_zero, List.getElem?_cons_succ, Act.put, List.setIfInBounds_toArray, List.set_cons_zero, List.set_cons_succ]
            refine wpOp_list rfl (fun K hK => ?_)
            go_simp
            refine (room_any B g n _ _ _ (HBP.out.sf.grown hS)).mono ?_
            rintro e w7 ⟨rfl, rfl⟩
            exact hK _ _ ⟨_, rfl, rfl, hS⟩
          case _ =>
            simp only [givenV, dstOf, List.getElem?_toArray, List.getElem?_cons_zero, List.getElem?_cons_succ, Act.put, List.setIfInBounds_toArray, List.set_cons_zero, List.set_cons_succ]
            (try have q0 := (HBP.out.blk.grown hS (by simp)).cell (j := 0) rfl)
            (try have q1 := (HBP.out.blk.grown hS (by simp)).cell (j := 1) rfl)
            refine free_read rfl (by rfl) (v := _) ?_ ⟨rfl, hS⟩
            go_simp
            (try with_reducible rfl)
          case _ =>
            iterate 3 (intro v h hv; (try dsimp only at h); (first | subst h | (obtain ⟨a9, c9, rfl⟩ := h) | clear h); clear hv)
            simp only [givenV, dstOf, List.getElem?_toArray, List.getElem?_cons_zero, List.getElem?_cons_succ, Act.put, List.setIfInBounds_toArray, List.set_cons_zero, List.set_cons_succ]
            (try have q0 := (HBP.out.blk.grown hS (by simp)).cell (j := 0) rfl)
            (try have q1 := (HBP.out.blk.grown hS (by simp)).cell (j := 1) rfl)
            refine free_read rfl (by rfl) (v := _) ?_ ⟨rfl, hS⟩
            go_simp
            (try with_reducible rfl)
          case _ =>
            iterate 4 (intro v h hv; (try dsimp only at h); (first | subst h | (obtain ⟨a9, c9, rfl⟩ := h) | clear h); clear hv)
            simp only [givenV, dstOf, List.getElem?_toArray, List.getElem?_cons_zero, List.getElem?_cons_succ, Act.put, List.setIfInBounds_toArray, List.set_cons_zero, List.set_cons_succ]
            (try have q0 := (HBP.out.blk.grown hS (by simp)).cell (j := 0) rfl)
            (try have q1 := (HBP.out.blk.grown hS (by simp)).cell (j := 1) rfl)
            refine free_read rfl (by rfl) (v := _) ?_ ⟨rfl, hS⟩
            go_simp
            (try with_reducible rfl)
          case _ =>
            iterate 5 (intro v h hv; (try dsimp only at h); (first | subst h | (obtain ⟨a9, c9, rfl⟩ := h) | clear h); clear hv)
            simp only [givenV, dstOf, List.getElem?_toArray, List.getElem?_cons_zero, List.getElem?_cons_succ, Act.put, List.setIfInBounds_toArray, List.set_cons_zero, List.set_cons_succ]
            (try have q0 := (HBP.out.blk.grown hS (by simp)).cell (j := 0) rfl)
            (try have q1 := (HBP.out.blk.grown hS (by simp)).cell (j := 1) rfl)
            refine free_read rfl (by rfl) (v := _) ?_ ⟨rfl, hS⟩
            go_simp
            (try with_reducible rfl)
          case _ =>
            iterate 6 (intro v h hv; (try dsimp only at h); (first | subst h | (obtain ⟨a9, c9, rfl⟩ := h) | clear h); clear hv)
            simp only [givenV, dstOf, List.getElem?_toArray, List.getElem?_cons_zero, List.getElem?_cons_succ, Act.put, List.setIfInBounds_toArray, List.set_cons_zero, List.set_cons_succ]
            refine wpOp_list rfl (fun K hK => ?_)
            go_simp
            refine (count_any B g n _ _ _ (HBP.out.sf.grown hS)).mono ?_
            rintro e w7 ⟨rfl, rfl⟩
            exact hK _ _ ⟨_, rfl, by rw [HCN.out], hS⟩
          case _ =>
            iterate 5 (intro v h hv; (try dsimp only at h); (first | subst h | (obtain ⟨a9, c9, rfl⟩ := h) | clear h); clear hv)
            simp only [givenV, dstOf, List.getElem?_toArray, List.getElem?_cons_zero, List.getElem?_cons_succ, Act.put, List.setIfInBounds_toArray, List.set_cons_zero, List.set_cons_succ]
            (try have q0 := (HBP.out.blk.grown hS (by simp)).cell (j := 0) rfl)
            (try have q1 := (HBP.out.blk.grown hS (by simp)).cell (j := 1) rfl)
            refine free_read rfl (by rfl) (v := _) ?_ ⟨rfl, hS⟩
            go_simp
            (try with_reducible rfl)
          case _ =>
            iterate 8 (intro v h hv; (try dsimp only at h); (first | subst h | (obtain ⟨a9, c9, rfl⟩ := h) | clear h); clear hv)
            simp only [givenV, dstOf, List.getElem?_toArray, List.getElem?_cons_zero, List.getElem?_cons_succ, Act.put, List.setIfInBounds_toArray, List.set_cons_zero, List.set_cons_succ]
            refine wpOp_list rfl (fun K hK => ?_)
            go_simp
            refine (rall7_any a2 c2 n _ _ _ (by omega) (HBP.out.rds.grown hS (by simp))).mono ?_
            rintro e w7 ⟨a9, c9, rfl, _, g7⟩
            rw [HTL.out]
            exact hK _ _ ⟨_, rfl, ⟨a9, c9, rfl⟩, grownBy_trans hS g7⟩
          case _ =>
            iterate 8 (intro v h hv; (try dsimp only at h); subst h; clear hv)
            intro v h hv
            clear hv
            simp only [givenV, dstOf, List.getElem?_toArray, List.getElem?_cons_zero, List.getElem?_cons_succ, Act.put, List.setIfInBounds_toArray, List.set_cons_zero, List.set_cons_succ]
            have h' : ∃ a9 c9, v = Value.slice a9 cn c9 := h
            clear h
            obtain ⟨a9, c9, rfl⟩ := h'
            refine free_read rfl (by rfl) (v := .int .i64 (cn : Int)) ?_ ⟨rfl, hS⟩
            go_simp
          case _ =>
            iterate 10 (intro v h hv; (try dsimp only at h); (first | subst h | (obtain ⟨a9, c9, rfl⟩ := h) | clear h); clear hv)
            simp only [givenV, dstOf, List.getElem?_toArray, List.getElem?_cons_zero, List.getElem?_cons_succ, Act.put, List.setIfInBounds_toArray, List.set_cons_zero, List.set_cons_succ]
            (try have q0 := (HBP.out.blk.grown hS (by simp)).cell (j := 0) rfl)
            (try have q1 := (HBP.out.blk.grown hS (by simp)).cell (j := 1) rfl)
            refine free_read rfl (by rfl) (v := _) ?_ ⟨rfl, hS⟩
            go_simp
            (try with_reducible rfl)
          case _ =>
            iterate 11 (intro v h hv; (try dsimp only at h); (first | subst h | (obtain ⟨a9, c9, rfl⟩ := h) | clear h); clear hv)
            simp only [givenV, dstOf, List.getElem?_toArray, List.getElem?_cons_zero, List.getElem?_cons_succ, Act.put, List.setIfInBounds_toArray, List.set_cons_zero, List.set_cons_succ]
            (try have q0 := (HBP.out.blk.grown hS (by simp)).cell (j := 0) rfl)
            (try have q1 := (HBP.out.blk.grown hS (by simp)).cell (j := 1) rfl)
            refine free_read rfl (by rfl) (v := _) ?_ ⟨rfl, hS⟩
            go_simp
            (try with_reducible rfl)
        case xend =>
          intro D vals W hS hD
          iterate 12 (intro v h hv; (try dsimp only at h); (first | subst h | (obtain ⟨a9, c9, rfl⟩ := h) | clear h); clear hv)
          simp only [givenV, dstOf, List.getElem?_toArray, List.getElem?_cons_zero, List.getElem?_cons_succ, Act.put, List.setIfInBounds_toArray, List.set_cons_zero, List.set_cons_succ]
          have HBP := Lib.hid (HBP.out.later hS)
          clear hS HCN HTL
          go_wp2_with fail
          go_roundw
          case rel => exact ⟨k + 1, B, g, _, _, _, _, by omega, by go_num, rfl, HBP.out⟩
          case measure => simp [intOf]; omega
      · obtain ⟨bb, hb0⟩ : ∃ bb, hasF n f at_ = bb := ⟨_, rfl⟩
        have HBB := Lib.hid hb0
        clear hb0
        have hbb : (bb != bb) = false := by simp
        clear b0 b1
        go_wp2_with fail
        generalize (t + 7) % 7 = s67 at *
        subst hdt
        refine wp_region_FG (fun j v => match j with
          | 0 => v = .pointer (some ⟨B, 0, none⟩)
          | 1 => v = .int .i64 at_
          | 2 => v = .bool bb
          | 3 => v = .agg #[.slice a n c, .int .i64 (hand : Int)]
          | 4 => v = .int .i64 at_
          | 5 => v = .bool bb
          | 6 => v = .bool false
          | _ => True) (fun _ _ W => wr.grownBy W none) [[], [], [0, 1], [], [], [0, 1, 2, 3, 4], [0, 1, 2, 3, 4, 5]] (by kernel_rfl) (by kernel_rfl) (fun _ => grownBy_drewN wr 1 none) ?xobs ?xend
        case xobs =>
          refine fgObs_cons (fun D vals W hS hD hC => ?_) (fgObs_cons (fun D vals W hS hD hC => ?_) (fgObs_cons (fun D vals W hS hD hC => ?_) (fgObs_cons (fun D vals W hS hD hC => ?_) (fgObs_cons (fun D vals W hS hD hC => ?_) (fgObs_cons (fun D vals W hS hD hC => ?_) (fgObs_cons (fun D vals W hS hD hC => ?_) (fgObs_nil)))))))
          case _ =>
            simp only [givenV, dstOf, List.getElem?_toArray, List.getElem?_cons_zero, List.getElem?_cons_succ, Act.put, List.setIfInBounds_toArray, List.set_cons_zero, List.set_cons_succ]
            (try have q0 := (HBP.out.blk.grown hS (by simp)).cell (j := 0) rfl)
            (try have q1 := (HBP.out.blk.grown hS (by simp)).cell (j := 1) rfl)
            refine free_read rfl (by rfl) (v := _) ?_ ⟨rfl, hS⟩
            go_simp
            (try with_reducible rfl)
          case _ =>
            simp only [givenV, dstOf, List.getElem?_toArray, List.getElem?_cons_zero, List.getElem?_cons_succ, Act.put, List.setIfInBounds_toArray, List.set_cons_zero, List.set_cons_succ]
            (try have q0 := (HBP.out.blk.grown hS (by simp)).cell (j := 0) rfl)
            (try have q1 := (HBP.out.blk.grown hS (by simp)).cell (j := 1) rfl)
            refine free_read rfl (by rfl) (v := _) ?_ ⟨rfl, hS⟩
            go_simp
            (try with_reducible rfl)
          case _ =>
            iterate 2 (intro v h hv; (try dsimp only at h); (first | subst h | (obtain ⟨a9, c9, rfl⟩ := h) | clear h); clear hv)
            simp only [givenV, dstOf, List.getElem?_toArray, List.getElem?_cons_zero, List.getElem?_cons_succ, Act.put, List.setIfInBounds_toArray, List.set_cons_zero, List.set_cons_succ]
            refine wpOp_list rfl (fun K hK => ?_)
            go_simp
            refine (hasF_any B g n _ _ _ _ (HBP.out.sf.grown hS)).mono ?_
            rintro e w7 ⟨rfl, rfl⟩
            rw [HBB.out]
            exact hK _ _ ⟨_, rfl, rfl, hS⟩
          case _ =>
            simp only [givenV, dstOf, List.getElem?_toArray, List.getElem?_cons_zero, List.getElem?_cons_succ, Act.put, List.setIfInBounds_toArray, List.set_cons_zero, List.set_cons_succ]
            (try have q0 := (HBP.out.blk.grown hS (by simp)).cell (j := 0) rfl)
            (try have q1 := (HBP.out.blk.grown hS (by simp)).cell (j := 1) rfl)
            refine free_read rfl (by rfl) (v := _) ?_ ⟨rfl, hS⟩
            go_simp
            (try with_reducible rfl)
          case _ =>
            simp only [givenV, dstOf, List.getElem?_toArray, List.getElem?_cons_zero, List.getElem?_cons_succ, Act.put, List.setIfInBounds_toArray, List.set_cons_zero, List.set_cons_succ]
            (try have q0 := (HBP.out.blk.grown hS (by simp)).cell (j := 0) rfl)
            (try have q1 := (HBP.out.blk.grown hS (by simp)).cell (j := 1) rfl)
            refine free_read rfl (by rfl) (v := _) ?_ ⟨rfl, hS⟩
            go_simp
            (try with_reducible rfl)
          case _ =>
            iterate 5 (intro v h hv; (try dsimp only at h); (first | subst h | (obtain ⟨a9, c9, rfl⟩ := h) | clear h); clear hv)
            simp only [givenV, dstOf, List.getElem?_toArray, List.getElem?_cons_zero, List.getElem?_cons_succ, Act.put, List.setIfInBounds_toArray, List.set_cons_zero, List.set_cons_succ]
            refine wpOp_list rfl (fun K hK => ?_)
            go_simp
            refine (rhasF_any a c n _ f at_ _ (HBP.out.rds.grown hS (by simp))).mono ?_
            rintro e w7 ⟨rfl, g7⟩
            rw [HBB.out]
            exact hK _ _ ⟨_, rfl, rfl, grownBy_trans hS g7⟩
          case _ =>
            iterate 6 (intro v h hv; (try dsimp only at h); (first | subst h | (obtain ⟨a9, c9, rfl⟩ := h) | clear h); clear hv)
            simp only [givenV, dstOf, List.getElem?_toArray, List.getElem?_cons_zero, List.getElem?_cons_succ, Act.put, List.setIfInBounds_toArray, List.set_cons_zero, List.set_cons_succ]
            (try have q0 := (HBP.out.blk.grown hS (by simp)).cell (j := 0) rfl)
            (try have q1 := (HBP.out.blk.grown hS (by simp)).cell (j := 1) rfl)
            refine free_read rfl (by rfl) (v := _) ?_ ⟨rfl, hS⟩
            go_simp
            (try with_reducible rfl)
        case xend =>
          intro D vals W hS hD
          iterate 7 (intro v h hv; (try dsimp only at h); (first | subst h | (obtain ⟨a9, c9, rfl⟩ := h) | clear h); clear hv)
          simp only [givenV, dstOf, List.getElem?_toArray, List.getElem?_cons_zero, List.getElem?_cons_succ, Act.put, List.setIfInBounds_toArray, List.set_cons_zero, List.set_cons_succ]
          have HBP := Lib.hid (HBP.out.later hS)
          clear hS
          obtain ⟨cn, hcn⟩ : ∃ cn, countF n (f) = cn := ⟨_, rfl⟩
          have HCN := Lib.hid hcn
          have HTL : Hid ((takI (f) n).length = cn) := Lib.hid (by rw [takI_count]; exact hcn)
          clear hcn
          have hcc : ((cn : Int) != (cn : Int)) = false := by simp
          have hnnn : ((n : Int) != (n : Int)) = false := by simp
          go_wp2_with fail
          refine wp_region_FG (fun j v => match j with
            | 0 => v = .pointer (some ⟨B, 0, none⟩)
            | 1 => v = .int .i64 (n : Int)
            | 2 => v = .int .i64 (n : Int)
            | 3 => v = .bool false
            | 4 => v = .bool false
            | 5 => v = .pointer (some ⟨B, 0, none⟩)
            | 6 => v = .int .i64 (cn : Int)
            | 7 => v = .agg #[.slice a n c, .int .i64 (hand : Int)]
            | 8 => ∃ a9 c9, v = .slice a9 cn c9
            | 9 => v = .int .i64 (cn : Int)
            | 10 => v = .bool false
            | 11 => v = .bool false
            | _ => True) (fun _ _ W1 => W.grownBy W1 none) [[], [0], [], [0, 1, 2], [0, 1, 2, 3], [0, 1, 2, 3, 4], [0, 1, 2, 3, 4, 5], [0, 1, 2, 3, 4], [0, 1, 2, 3, 4, 5, 6, 7], [0, 1, 2, 3, 4, 5, 6, 7, 8], [0, 1, 2, 3, 4, 5, 6, 7, 8, 9], [0, 1, 2, 3, 4, 5, 6, 7, 8, 9, 10]] (by kernel_rfl) (by kernel_rfl) (fun _ => grownBy_drewN W 1 none) ?xobs ?xend
          case xobs =>
            refine fgObs_cons (fun D vals W2 hS hD hC => ?_) (fgObs_cons (fun D vals W2 hS hD hC => ?_) (fgObs_cons (fun D vals W2 hS hD hC => ?_) (fgObs_cons (fun D vals W2 hS hD hC => ?_) (fgObs_cons (fun D vals W2 hS hD hC => ?_) (fgObs_cons (fun D vals W2 hS hD hC => ?_) (fgObs_cons (fun D vals W2 hS hD hC => ?_) (fgObs_cons (fun D vals W2 hS hD hC => ?_) (fgObs_cons (fun D vals W2 hS hD hC => ?_) (fgObs_cons (fun D vals W2 hS hD hC => ?_) (fgObs_cons (fun D vals W2 hS hD hC => ?_) (fgObs_cons (fun D vals W2 hS hD hC => ?_) (fgObs_nil))))))))))))
            case _ =>
              simp only [givenV, dstOf, List.getElem?_toArray, List.getElem?_cons_zero, List.getElem?_cons_succ, Act.put, List.setIfInBounds_toArray, List.set_cons_zero, List.set_cons_succ]
              (try have q0 := (HBP.out.blk.grown hS (by simp)).cell (j := 0) rfl)
              (try have q1 := (HBP.out.blk.grown hS (by simp)).cell (j := 1) rfl)
              refine free_read rfl (by rfl) (v := _) ?_ ⟨rfl, hS⟩
              go_simp
              (try with_reducible rfl)
            case _ =>
              iterate 1 (intro v h hv; (try dsimp only at h); (first | subst h | (obtain ⟨a9, c9, rfl⟩ := h) | clear h); clear hv)
              simp only [givenV, dstOf, List.getElem?_toArray, List.getElem?_cons_zero, List.getElem?_cons_succ, Act.put, List.setIfInBounds_toArray, List.set_cons_zero, List.set_cons_succ]
              refine wpOp_list rfl (fun K hK => ?_)
              go_simp
              refine (room_any B g n _ _ _ (HBP.out.sf.grown hS)).mono ?_
              rintro e w7 ⟨rfl, rfl⟩
              exact hK _ _ ⟨_, rfl, rfl, hS⟩
            case _ =>
              simp only [givenV, dstOf, List.getElem?_toArray, List.getElem?_cons_zero, List.getElem?_cons_succ, Act.put, List.setIfInBounds_toArray, List.set_cons_zero, List.set_cons_succ]
              (try have q0 := (HBP.out.blk.grown hS (by simp)).cell (j := 0) rfl)
              (try have q1 := (HBP.out.blk.grown hS (by simp)).cell (j := 1) rfl)
              refine free_read rfl (by rfl) (v := _) ?_ ⟨rfl, hS⟩
              go_simp
              (try with_reducible rfl)
            case _ =>
              iterate 3 (intro v h hv; (try dsimp only at h); (first | subst h | (obtain ⟨a9, c9, rfl⟩ := h) | clear h); clear hv)
              simp only [givenV, dstOf, List.getElem?_toArray, List.getElem?_cons_zero, List.getElem?_cons_succ, Act.put, List.setIfInBounds_toArray, List.set_cons_zero, List.set_cons_succ]
              (try have q0 := (HBP.out.blk.grown hS (by simp)).cell (j := 0) rfl)
              (try have q1 := (HBP.out.blk.grown hS (by simp)).cell (j := 1) rfl)
              refine free_read rfl (by rfl) (v := _) ?_ ⟨rfl, hS⟩
              go_simp
              (try with_reducible rfl)
            case _ =>
              iterate 4 (intro v h hv; (try dsimp only at h); (first | subst h | (obtain ⟨a9, c9, rfl⟩ := h) | clear h); clear hv)
              simp only [givenV, dstOf, List.getElem?_toArray, List.getElem?_cons_zero, List.getElem?_cons_succ, Act.put, List.setIfInBounds_toArray, List.set_cons_zero, List.set_cons_succ]
              (try have q0 := (HBP.out.blk.grown hS (by simp)).cell (j := 0) rfl)
              (try have q1 := (HBP.out.blk.grown hS (by simp)).cell (j := 1) rfl)
              refine free_read rfl (by rfl) (v := _) ?_ ⟨rfl, hS⟩
              go_simp
              (try with_reducible rfl)
            case _ =>
              iterate 5 (intro v h hv; (try dsimp only at h); (first | subst h | (obtain ⟨a9, c9, rfl⟩ := h) | clear h); clear hv)
              simp only [givenV, dstOf, List.getElem?_toArray, List.getElem?_cons_zero, List.getElem?_cons_succ, Act.put, List.setIfInBounds_toArray, List.set_cons_zero, List.set_cons_succ]
              (try have q0 := (HBP.out.blk.grown hS (by simp)).cell (j := 0) rfl)
              (try have q1 := (HBP.out.blk.grown hS (by simp)).cell (j := 1) rfl)
              refine free_read rfl (by rfl) (v := _) ?_ ⟨rfl, hS⟩
              go_simp
              (try with_reducible rfl)
            case _ =>
              iterate 6 (intro v h hv; (try dsimp only at h); (first | subst h | (obtain ⟨a9, c9, rfl⟩ := h) | clear h); clear hv)
              simp only [givenV, dstOf, List.getElem?_toArray, List.getElem?_cons_zero, List.getElem?_cons_succ, Act.put, List.setIfInBounds_toArray, List.set_cons_zero, List.set_cons_succ]
              refine wpOp_list rfl (fun K hK => ?_)
              go_simp
              refine (count_any B g n _ _ _ (HBP.out.sf.grown hS)).mono ?_
              rintro e w7 ⟨rfl, rfl⟩
              exact hK _ _ ⟨_, rfl, by rw [HCN.out], hS⟩
            case _ =>
              iterate 5 (intro v h hv; (try dsimp only at h); (first | subst h | (obtain ⟨a9, c9, rfl⟩ := h) | clear h); clear hv)
              simp only [givenV, dstOf, List.getElem?_toArray, List.getElem?_cons_zero, List.getElem?_cons_succ, Act.put, List.setIfInBounds_toArray, List.set_cons_zero, List.set_cons_succ]
              (try have q0 := (HBP.out.blk.grown hS (by simp)).cell (j := 0) rfl)
              (try have q1 := (HBP.out.blk.grown hS (by simp)).cell (j := 1) rfl)
              refine free_read rfl (by rfl) (v := _) ?_ ⟨rfl, hS⟩
              go_simp
              (try with_reducible rfl)
            case _ =>
              iterate 8 (intro v h hv; (try dsimp only at h); (first | subst h | (obtain ⟨a9, c9, rfl⟩ := h) | clear h); clear hv)
              simp only [givenV, dstOf, List.getElem?_toArray, List.getElem?_cons_zero, List.getElem?_cons_succ, Act.put, List.setIfInBounds_toArray, List.set_cons_zero, List.set_cons_succ]
              refine wpOp_list rfl (fun K hK => ?_)
              go_simp
              refine (rall7_any a c n _ _ _ (by omega) (HBP.out.rds.grown hS (by simp))).mono ?_
              rintro e w7 ⟨a9, c9, rfl, _, g7⟩
              rw [HTL.out]
              exact hK _ _ ⟨_, rfl, ⟨a9, c9, rfl⟩, grownBy_trans hS g7⟩
            case _ =>
              iterate 8 (intro v h hv; (try dsimp only at h); subst h; clear hv)
              intro v h hv
              clear hv
              simp only [givenV, dstOf, List.getElem?_toArray, List.getElem?_cons_zero, List.getElem?_cons_succ, Act.put, List.setIfInBounds_toArray, List.set_cons_zero, List.set_cons_succ]
              have h' : ∃ a9 c9, v = Value.slice a9 cn c9 := h
              clear h
              obtain ⟨a9, c9, rfl⟩ := h'
              refine free_read rfl (by rfl) (v := .int .i64 (cn : Int)) ?_ ⟨rfl, hS⟩
              go_simp
            case _ =>
              iterate 10 (intro v h hv; (try dsimp only at h); (first | subst h | (obtain ⟨a9, c9, rfl⟩ := h) | clear h); clear hv)
              simp only [givenV, dstOf, List.getElem?_toArray, List.getElem?_cons_zero, List.getElem?_cons_succ, Act.put, List.setIfInBounds_toArray, List.set_cons_zero, List.set_cons_succ]
              (try have q0 := (HBP.out.blk.grown hS (by simp)).cell (j := 0) rfl)
              (try have q1 := (HBP.out.blk.grown hS (by simp)).cell (j := 1) rfl)
              refine free_read rfl (by rfl) (v := _) ?_ ⟨rfl, hS⟩
              go_simp
              (try with_reducible rfl)
            case _ =>
              iterate 11 (intro v h hv; (try dsimp only at h); (first | subst h | (obtain ⟨a9, c9, rfl⟩ := h) | clear h); clear hv)
              simp only [givenV, dstOf, List.getElem?_toArray, List.getElem?_cons_zero, List.getElem?_cons_succ, Act.put, List.setIfInBounds_toArray, List.set_cons_zero, List.set_cons_succ]
              (try have q0 := (HBP.out.blk.grown hS (by simp)).cell (j := 0) rfl)
              (try have q1 := (HBP.out.blk.grown hS (by simp)).cell (j := 1) rfl)
              refine free_read rfl (by rfl) (v := _) ?_ ⟨rfl, hS⟩
              go_simp
              (try with_reducible rfl)
          case xend =>
            intro D vals W2 hS hD
            iterate 12 (intro v h hv; (try dsimp only at h); (first | subst h | (obtain ⟨a9, c9, rfl⟩ := h) | clear h); clear hv)
            simp only [givenV, dstOf, List.getElem?_toArray, List.getElem?_cons_zero, List.getElem?_cons_succ, Act.put, List.setIfInBounds_toArray, List.set_cons_zero, List.set_cons_succ]
            have HBP := Lib.hid (HBP.out.later hS)
            clear hS HCN HTL
            go_wp2_with fail
            go_roundw
            case rel => exact ⟨k + 1, B, g, _, _, _, _, by omega, by go_num, rfl, HBP.out⟩
            case measure => simp [intOf]; omega
      · clear b0 b1
        go_wp2_with fail
        refine (copy_any B g n hand f wr HBP.out.sf).mono ?_
        rintro e w4 ⟨B2, g2, rfl, s4, hB2, hg2, gg⟩
        have HCP : Hid (∀ w6, Touch (SOwn B g) w4 w6 → BP w w6 B2 g2 Rb n hand f a c) := Lib.hid (fun w6 ht => HBP.out.copied hG gg s4 hB2 hg2 ht)
        have HS4 := Lib.hid (HBP.out.sf.grown gg)
        clear s4 hB2 hg2 gg HBP
        go_wp2_with fail
        refine (take_any B g n hand f w4 HS4.out).mono ?_
        rintro e wz hpost
        have HBP : Hid (BP w wz B2 g2 Rb n hand f a c) := Lib.hid (HCP.out wz (by
          rcases hpost with ⟨_, rfl, _⟩ | ⟨i, _, _, _, t6⟩
          · exact Touch.refl _ _
          · exact t6))
        have hret : ∃ v, e = .returned v := by
          rcases hpost with ⟨h, _⟩ | ⟨i, h, _⟩
          · exact ⟨_, h⟩
          · exact ⟨_, h⟩
        obtain ⟨tv, rfl⟩ := hret
        clear hpost HCP HS4
        obtain ⟨cn, hcn⟩ : ∃ cn, countF n (f) = cn := ⟨_, rfl⟩
        have HCN := Lib.hid hcn
        have HTL : Hid ((takI (f) n).length = cn) := Lib.hid (by rw [takI_count]; exact hcn)
        clear hcn
        have hcc : ((cn : Int) != (cn : Int)) = false := by simp
        have hnnn : ((n : Int) != (n : Int)) = false := by simp
        go_wp2_with fail
        refine wp_region_FG (fun j v => match j with
          | 0 => v = .pointer (some ⟨B2, 0, none⟩)
          | 1 => v = .int .i64 (n : Int)
          | 2 => v = .int .i64 (n : Int)
          | 3 => v = .bool false
          | 4 => v = .bool false
          | 5 => v = .pointer (some ⟨B2, 0, none⟩)
          | 6 => v = .int .i64 (cn : Int)
          | 7 => v = .agg #[.slice a n c, .int .i64 (hand : Int)]
          | 8 => ∃ a9 c9, v = .slice a9 cn c9
          | 9 => v = .int .i64 (cn : Int)
          | 10 => v = .bool false
          | 11 => v = .bool false
          | _ => True) (fun _ _ W => wz.grownBy W none) [[], [0], [], [0, 1, 2], [0, 1, 2, 3], [0, 1, 2, 3, 4], [0, 1, 2, 3, 4, 5], [0, 1, 2, 3, 4], [0, 1, 2, 3, 4, 5, 6, 7], [0, 1, 2, 3, 4, 5, 6, 7, 8], [0, 1, 2, 3, 4, 5, 6, 7, 8, 9], [0, 1, 2, 3, 4, 5, 6, 7, 8, 9, 10]] (by kernel_rfl) (by kernel_rfl) (fun _ => grownBy_drewN wz 1 none) ?xobs ?xend
        case xobs =>
          refine fgObs_cons (fun D vals W hS hD hC => ?_) (fgObs_cons (fun D vals W hS hD hC => ?_) (fgObs_cons (fun D vals W hS hD hC => ?_) (fgObs_cons (fun D vals W hS hD hC => ?_) (fgObs_cons (fun D vals W hS hD hC => ?_) (fgObs_cons (fun D vals W hS hD hC => ?_) (fgObs_cons (fun D vals W hS hD hC => ?_) (fgObs_cons (fun D vals W hS hD hC => ?_) (fgObs_cons (fun D vals W hS hD hC => ?_) (fgObs_cons (fun D vals W hS hD hC => ?_) (fgObs_cons (fun D vals W hS hD hC => ?_) (fgObs_cons (fun D vals W hS hD hC => ?_) (fgObs_nil))))))))))))
          case _ =>
            simp only [givenV, dstOf, List.getElem?_toArray, List.getElem?_cons_zero, List.getElem?_cons_succ, Act.put, List.setIfInBounds_toArray, List.set_cons_zero, List.set_cons_succ]
            (try have q0 := (HBP.out.blk.grown hS (by simp)).cell (j := 0) rfl)
            (try have q1 := (HBP.out.blk.grown hS (by simp)).cell (j := 1) rfl)
            refine free_read rfl (by rfl) (v := _) ?_ ⟨rfl, hS⟩
            go_simp
            (try with_reducible rfl)
          case _ =>
            iterate 1 (intro v h hv; (try dsimp only at h); (first | subst h | (obtain ⟨a9, c9, rfl⟩ := h) | clear h); clear hv)
            simp only [givenV, dstOf, List.getElem?_toArray, List.getElem?_cons_zero, List.getElem?_cons_succ, Act.put, List.setIfInBounds_toArray, List.set_cons_zero, List.set_cons_succ]
            refine wpOp_list rfl (fun K hK => ?_)
            go_simp
            refine (room_any B2 g2 n _ _ _ (HBP.out.sf.grown hS)).mono ?_
            rintro e w7 ⟨rfl, rfl⟩
            exact hK _ _ ⟨_, rfl, rfl, hS⟩
          case _ =>
            simp only [givenV, dstOf, List.getElem?_toArray, List.getElem?_cons_zero, List.getElem?_cons_succ, Act.put, List.setIfInBounds_toArray, List.set_cons_zero, List.set_cons_succ]
            (try have q0 := (HBP.out.blk.grown hS (by simp)).cell (j := 0) rfl)
            (try have q1 := (HBP.out.blk.grown hS (by simp)).cell (j := 1) rfl)
            refine free_read rfl (by rfl) (v := _) ?_ ⟨rfl, hS⟩
            go_simp
            (try with_reducible rfl)
          case _ =>
            iterate 3 (intro v h hv; (try dsimp only at h); (first | subst h | (obtain ⟨a9, c9, rfl⟩ := h) | clear h); clear hv)
            simp only [givenV, dstOf, List.getElem?_toArray, List.getElem?_cons_zero, List.getElem?_cons_succ, Act.put, List.setIfInBounds_toArray, List.set_cons_zero, List.set_cons_succ]
            (try have q0 := (HBP.out.blk.grown hS (by simp)).cell (j := 0) rfl)
            (try have q1 := (HBP.out.blk.grown hS (by simp)).cell (j := 1) rfl)
            refine free_read rfl (by rfl) (v := _) ?_ ⟨rfl, hS⟩
            go_simp
            (try with_reducible rfl)
          case _ =>
            iterate 4 (intro v h hv; (try dsimp only at h); (first | subst h | (obtain ⟨a9, c9, rfl⟩ := h) | clear h); clear hv)
            simp only [givenV, dstOf, List.getElem?_toArray, List.getElem?_cons_zero, List.getElem?_cons_succ, Act.put, List.setIfInBounds_toArray, List.set_cons_zero, List.set_cons_succ]
            (try have q0 := (HBP.out.blk.grown hS (by simp)).cell (j := 0) rfl)
            (try have q1 := (HBP.out.blk.grown hS (by simp)).cell (j := 1) rfl)
            refine free_read rfl (by rfl) (v := _) ?_ ⟨rfl, hS⟩
            go_simp
            (try with_reducible rfl)
          case _ =>
            iterate 5 (intro v h hv; (try dsimp only at h); (first | subst h | (obtain ⟨a9, c9, rfl⟩ := h) | clear h); clear hv)
            simp only [givenV, dstOf, List.getElem?_toArray, List.getElem?_cons_zero, List.getElem?_cons_succ, Act.put, List.setIfInBounds_toArray, List.set_cons_zero, List.set_cons_succ]
            (try have q0 := (HBP.out.blk.grown hS (by simp)).cell (j := 0) rfl)
            (try have q1 := (HBP.out.blk.grown hS (by simp)).cell (j := 1) rfl)
            refine free_read rfl (by rfl) (v := _) ?_ ⟨rfl, hS⟩
            go_simp
            (try with_reducible rfl)
          case _ =>
            iterate 6 (intro v h hv; (try dsimp only at h); (first | subst h | (obtain ⟨a9, c9, rfl⟩ := h) | clear h); clear hv)
            simp only [givenV, dstOf, List.getElem?_toArray, List.getElem?_cons_zero, List.getElem?_cons_succ, Act.put, List.setIfInBounds_toArray, List.set_cons_zero, List.set_cons_succ]
            refine wpOp_list rfl (fun K hK => ?_)
            go_simp
            refine (count_any B2 g2 n _ _ _ (HBP.out.sf.grown hS)).mono ?_
            rintro e w7 ⟨rfl, rfl⟩
            exact hK _ _ ⟨_, rfl, by rw [HCN.out], hS⟩
          case _ =>
            iterate 5 (intro v h hv; (try dsimp only at h); (first | subst h | (obtain ⟨a9, c9, rfl⟩ := h) | clear h); clear hv)
            simp only [givenV, dstOf, List.getElem?_toArray, List.getElem?_cons_zero, List.getElem?_cons_succ, Act.put, List.setIfInBounds_toArray, List.set_cons_zero, List.set_cons_succ]
            (try have q0 := (HBP.out.blk.grown hS (by simp)).cell (j := 0) rfl)
            (try have q1 := (HBP.out.blk.grown hS (by simp)).cell (j := 1) rfl)
            refine free_read rfl (by rfl) (v := _) ?_ ⟨rfl, hS⟩
            go_simp
            (try with_reducible rfl)
          case _ =>
            iterate 8 (intro v h hv; (try dsimp only at h); (first | subst h | (obtain ⟨a9, c9, rfl⟩ := h) | clear h); clear hv)
            simp only [givenV, dstOf, List.getElem?_toArray, List.getElem?_cons_zero, List.getElem?_cons_succ, Act.put, List.setIfInBounds_toArray, List.set_cons_zero, List.set_cons_succ]
            refine wpOp_list rfl (fun K hK => ?_)
            go_simp
            refine (rall7_any a c n _ _ _ (by omega) (HBP.out.rds.grown hS (by simp))).mono ?_
            rintro e w7 ⟨a9, c9, rfl, _, g7⟩
            rw [HTL.out]
            exact hK _ _ ⟨_, rfl, ⟨a9, c9, rfl⟩, grownBy_trans hS g7⟩
          case _ =>
            iterate 8 (intro v h hv; (try dsimp only at h); subst h; clear hv)
            intro v h hv
            clear hv
            simp only [givenV, dstOf, List.getElem?_toArray, List.getElem?_cons_zero, List.getElem?_cons_succ, Act.put, List.setIfInBounds_toArray, List.set_cons_zero, List.set_cons_succ]
            have h' : ∃ a9 c9, v = Value.slice a9 cn c9 := h
            clear h
            obtain ⟨a9, c9, rfl⟩ := h'
            refine free_read rfl (by rfl) (v := .int .i64 (cn : Int)) ?_ ⟨rfl, hS⟩
            go_simp
          case _ =>
            iterate 10 (intro v h hv; (try dsimp only at h); (first | subst h | (obtain ⟨a9, c9, rfl⟩ := h) | clear h); clear hv)
            simp only [givenV, dstOf, List.getElem?_toArray, List.getElem?_cons_zero, List.getElem?_cons_succ, Act.put, List.setIfInBounds_toArray, List.set_cons_zero, List.set_cons_succ]
            (try have q0 := (HBP.out.blk.grown hS (by simp)).cell (j := 0) rfl)
            (try have q1 := (HBP.out.blk.grown hS (by simp)).cell (j := 1) rfl)
            refine free_read rfl (by rfl) (v := _) ?_ ⟨rfl, hS⟩
            go_simp
            (try with_reducible rfl)
          case _ =>
            iterate 11 (intro v h hv; (try dsimp only at h); (first | subst h | (obtain ⟨a9, c9, rfl⟩ := h) | clear h); clear hv)
            simp only [givenV, dstOf, List.getElem?_toArray, List.getElem?_cons_zero, List.getElem?_cons_succ, Act.put, List.setIfInBounds_toArray, List.set_cons_zero, List.set_cons_succ]
            (try have q0 := (HBP.out.blk.grown hS (by simp)).cell (j := 0) rfl)
            (try have q1 := (HBP.out.blk.grown hS (by simp)).cell (j := 1) rfl)
            refine free_read rfl (by rfl) (v := _) ?_ ⟨rfl, hS⟩
            go_simp
            (try with_reducible rfl)
        case xend =>
          intro D vals W hS hD
          iterate 12 (intro v h hv; (try dsimp only at h); (first | subst h | (obtain ⟨a9, c9, rfl⟩ := h) | clear h); clear hv)
          simp only [givenV, dstOf, List.getElem?_toArray, List.getElem?_cons_zero, List.getElem?_cons_succ, Act.put, List.setIfInBounds_toArray, List.set_cons_zero, List.set_cons_succ]
          have HBP := Lib.hid (HBP.out.later hS)
          clear hS HCN HTL
          go_wp2_with fail
          go_roundw
          case rel => exact ⟨k + 1, B2, g2, _, _, _, _, by omega, by go_num, rfl, HBP.out⟩
          case measure => simp [intOf]; omega
    · obtain rfl : k = l.length := by omega
      have hkl : decide ((l.length : Int) < (l.length : Int)) = false := decide_eq_false (by omega)
      go_wp2_with fail
      refine wp_region_planD (fun w' => wr.grownBy w' none) [([0, 2], 1, true), ([], 3, true), ([], 4, true), ([5], 6, false), ([7], 8, false)] (by kernel_rfl) (by kernel_rfl) ?_
      refine wpPlanD_seg (grownBy_drewN wr 1 none) ?_
      repeat (apply wpReadD_step rfl (by rfl); (· intro wS hSw; (try have hSw := hSw rfl); (try dsimp only at hSw); (try have q0 := (HBP.out.blk.grown hSw (by simp)).cell (j := 0) rfl); (try have q1 := (HBP.out.blk.grown hSw (by simp)).cell (j := 1) rfl); go_simp; (try with_reducible rfl)); try simp only [Act.put, List.setIfInBounds_toArray, List.set_cons_zero, List.set_cons_succ])
      refine wpReadD_nil ?_
      refine wpOp_list rfl (fun K hK => ?_)
      go_simp
      refine (all_any B g n hand f _ (HBP.out.sf.grown (grownBy_drewN wr 1 none))).mono ?_
      rintro e w5 ⟨v5, rfl, o5, g5⟩
      obtain ⟨a5, c5, rfl⟩ := (Rds.of_owns o5).slice
      dsimp only
      have G5 := Lib.hid (grownBy_trans (grownBy_drewN wr 1 none) g5)
      have R5 : Hid (Rds w5 1 (.slice a5 (takI f n).length c5) (takI f n).length (intsV (takI f n))) := Lib.hid (Rds.of_owns o5)
      refine hK _ _ ⟨fun _ => G5.out, ?_⟩
      clear hK K g5 o5
      try simp only [Act.put, List.setIfInBounds_toArray, List.set_cons_zero, List.set_cons_succ]
      refine wpPlanD_one ?_
      refine wpOp_list rfl (fun K hK => ?_)
      go_simp
      refine (rall7_any a c n hand f w5 (by omega) (HBP.out.rds.grown G5.out (by simp))).mono ?_
      rintro e w6 ⟨a6, c6, rfl, r6, g6⟩
      dsimp only
      have G6 := Lib.hid (grownBy_trans G5.out g6)
      have R5 := Lib.hid (R5.out.grown g6 (by simp))
      have R6 := Lib.hid r6
      refine hK _ _ ⟨fun _ => G6.out, ?_⟩
      clear hK K g6 r6 G5
      try simp only [Act.put, List.setIfInBounds_toArray, List.set_cons_zero, List.set_cons_succ]
      refine wpPlanD_one ?_
      refine wpOp_list rfl (fun K hK => ?_)
      go_simp
      refine (same7_yes (takI f n) a5 a6 c5 c6 w6 R5.out R6.out).mono ?_
      rintro e w7 ⟨rfl, g7⟩
      dsimp only
      have G7 := Lib.hid (grownBy_trans G6.out g7)
      refine hK _ _ ⟨fun _ => G7.out, ?_⟩
      clear hK K g7 G6 R5 R6
      try simp only [Act.put, List.setIfInBounds_toArray, List.set_cons_zero, List.set_cons_succ]
      refine wpPlanD_seg G7.out ?_
      repeat (apply wpReadD_step rfl (by rfl); (· intro wS hSw; (try have hSw := hSw rfl); (try dsimp only at hSw); (try have q0 := (HBP.out.blk.grown hSw (by simp)).cell (j := 0) rfl); (try have q1 := (HBP.out.blk.grown hSw (by simp)).cell (j := 1) rfl); go_simp; (try with_reducible rfl)); try simp only [Act.put, List.setIfInBounds_toArray, List.set_cons_zero, List.set_cons_succ])
      refine wpReadD_nil ?_
      refine wpOp_list rfl (fun K hK => ?_)
      go_simp
      have HTB := Lib.hid (HBP.out.sf.grown G7.out).tab
      refine (sawake_any w7 HTB.out.1 HTB.out.2).mono ?_
      rintro e w8 ⟨rfl, g8⟩
      dsimp only
      have G8 := Lib.hid (grownBy_trans HBP.out.grown (grownBy_trans G7.out g8))
      refine hK _ _ ?_
      first | refine ⟨fun hf => (by cases hf), ?_⟩ | skip
      clear hK K g8 G7 HTB
      try simp only [Act.put, List.setIfInBounds_toArray, List.set_cons_zero, List.set_cons_succ]
      refine wpPlanD_pure (by rfl) ?_
      repeat (apply wpReadD_step rfl (by rfl); (· intro wS hSw; (try have hSw := hSw rfl); (try dsimp only at hSw); (try have q0 := (HBP.out.blk.grown hSw (by simp)).cell (j := 0) rfl); (try have q1 := (HBP.out.blk.grown hSw (by simp)).cell (j := 1) rfl); go_simp; (try with_reducible rfl)); try simp only [Act.put, List.setIfInBounds_toArray, List.set_cons_zero, List.set_cons_succ])
      refine wpReadD_nil ?_
      refine wpOp_list rfl (fun K hK => ?_)
      go_simp
      refine hK _ _ ?_
      first | refine ⟨fun hf => (by cases hf), ?_⟩ | skip
      clear hK K
      try simp only [Act.put, List.setIfInBounds_toArray, List.set_cons_zero, List.set_cons_succ]
      refine wpPlanD_nil (NoPanic.normal ?_)
      go_wp2_with fail
      go_ret
      exact ⟨rfl, below_grownBy G8.out⟩

end Go.Proofs.YtjbfnnfbdjjjbaaDoor
