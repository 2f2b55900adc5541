/- package script: the iterator of acts. -/
import Derived.Test.YtbjpjnkaaiajlaaScRd
import Derived.Test.YtbjpjnkaaiajlaaSeqR
import Derived.Test.YtbjpjnkaaiajlaaKeptS
import Derived.Test.YtbjpjnkaaiajlaaScope
import Derived.Laws.EntriesVeiled
namespace Go.Proofs.Ytbjpjnkaaiajlaa
open Go.RowKit Go.Shelf
attribute [local go_sem] Oper.semAt_some

theorem acts_calls (R : Nat) (n : Int) (w : World) :
    Calls Try.prog 31 #[.pointer (some ⟨R, 0, none⟩), .int .i64 n] w fun e w' => e = .returned (.func (.func 42) #[] #[.pointer (some ⟨w.heap.size + 1, 0, none⟩), .pointer (some ⟨w.heap.size, 0, none⟩)]) ∧ w' = (w.alloc (.cells #[.pointer (some ⟨R, 0, none⟩)] 69)).alloc (.cells #[.int .i64 n] 3) := by
  go_enter Try.func31, Try.ntmps31
  go_wp2
  go_ret
  exact ⟨rfl, rfl⟩

/-- The reader behind i acts; the act that is read there; may it be yielded? -/
def stP (p : PS) : Nat → PS
  | 0 => p
  | i + 1 => (readA (stP p i)).2
def xP (p : PS) (i : Nat) : SAct := (readA (stP p i)).1
def goodP (p : PS) (i : Nat) : Bool := !(stP p (i + 1)).2 && (xP p i).right

/-- What keeps all rows of bytes and numbers: what an act needs. -/
def KeepT (w w' : World) : Prop := ∀ (k : Nat) (cs : Array Value) (T : TypeId) (fz : Nat × Nat), w.heap[k]? = some (.cells cs T fz) → (T = 5 ∨ T = 3) → w'.heap[k]? = w.heap[k]?
theorem KeepT.refl (w : World) : KeepT w w := fun _ _ _ _ _ _ => rfl
theorem KeepT.trans {a b c : World} (h : KeepT a b) (k : KeepT b c) : KeepT a c := fun i cs T fz hi hT => by
  have h1 := h i cs T fz hi hT
  exact (k i cs T fz (h1.trans hi) hT).trans h1
theorem KeepT.grown {w w' : World} (h : w.grownBy w' none) : KeepT w w' := fun k cs T fz hk _ => h.block k (Array.getElem?_eq_some_iff.1 hk).1 (by simp)
theorem KeepT.step {w w' : World} {q : Nat} {e : TypeId} {cs : Array Value} {fz : Nat × Nat} (h : w.grownBy w' (some q)) (hq : w.heap[q]? = some (.cells cs e fz)) (h1 : e ≠ 5) (h2 : e ≠ 3) : KeepT w w' := fun k cs' T fz' hk hT => h.block k (Array.getElem?_eq_some_iff.1 hk).1 (fun e' => by
  cases e'
  rw [hq] at hk
  simp at hk
  rcases hT with h | h
  · exact h1 (hk.2.1.trans h)
  · exact h2 (hk.2.1.trans h))
theorem KeepT.putObj (W : World) (l : Nat) (o o' : Obj) (hl : W.heap[l]? = some o) (hc : o.isCells = false) : KeepT W (W.putObj l o') := fun k cs T fz hk _ => World.putObj_heap_other (fun e => by
  rw [e, hl] at hk
  cases hk
  simp [Obj.isCells] at hc)
theorem KindT.keepT {w w' : World} {T : TypeId} {v : Value} (h : KindT w T v) (hk : KeepT w w') (hT : T = 5 ∨ T = 3) : KindT w' T v := fun b hb => by
  obtain ⟨cs, fz, h1⟩ := h b hb
  exact ⟨cs, fz, (hk b cs T fz h1 hT).trans h1⟩
theorem Rds.keepT {w w' : World} {T : TypeId} {v : Value} {n : Nat} {xs : List Value} (h : Rds w 1 v n xs) (hi : KindT w T v) (hk : KeepT w w') (hT : T = 5 ∨ T = 3) : Rds w' 1 v n xs :=
  h.same (fun _ b hb _ => by
    obtain ⟨cs, fz, h1⟩ := hi b hb
    exact hk b cs T fz h1 hT)
theorem SAct.mine.keepT {w w' : World} {x : SAct} (h : x.mine w) (hk : KeepT w w') : x.mine w' :=
  ⟨⟨h.good.key.keepT h.kk hk (.inl rfl), h.good.val.keepT h.kv hk (.inl rfl), h.good.ns.keepT h.kn hk (.inr rfl)⟩, h.kk.keepT hk (.inl rfl), h.kv.keepT hk (.inl rfl), h.kn.keepT hk (.inr rfl)⟩
theorem RR.keptS {n : Nat} {S : Nat → Prop} {w w' : World} {B : Nat} {v : Value} {xs : List Nat} {bad : Bool} (h : RR w B v xs bad) (hk : KeptS n S w w') (hB : B < n ∧ ¬ S B) (hv : xs ≠ [] → ∀ b, v.ownBlock = some b → b < n ∧ ¬ S b) : RR w' B v xs bad :=
  ⟨h.blk.keptS hk hB.1 hB.2, h.rds.same (fun hne b hb _ => hk.2 b (hv (fun e => hne (by rw [e]; rfl)) b hb).1 (hv (fun e => hne (by rw [e]; rfl)) b hb).2), h.apart, h.cap, h.few, h.spot, h.small⟩

/-- What the iterator leaves. -/
def ActsS (R : Nat) (p : PS) (m : Nat) (xs : List SAct) (W : World) : Prop :=
  ∃ (i : Nat) (v : Value) (q : PS), i ≤ m ∧ xs.map SAct.data = (List.range i).map (xP p) ∧ (∀ j, j < i → goodP p j = true) ∧ ((i = m ∧ q = stP p m) ∨ (i < m ∧ goodP p i = false ∧ q = stP p (i + 1))) ∧ RR W R v q.1 q.2 ∧ ∀ x ∈ xs, x.mine W
theorem xP_data (p : PS) (i : Nat) {x : SAct} (h : x.data = (readA (stP p i)).1) : x.right = (xP p i).right := by
  unfold xP
  rw [← h]
  rfl

set_option maxRecDepth 100000 in
set_option maxHeartbeats 4000000 in
theorem acts1_in (n l rc nc n₀ R m : Nat) (S : Nat → Prop) (p : PS) (hn : 2 ≤ n) (J Jx : List SAct → World → Prop)
    (hr0 : rc < n₀ ∧ ¬ S rc) (hk0 : nc < n₀ ∧ ¬ S nc) (hR0 : R < n₀ ∧ ¬ S R) (hne : rc ≠ R ∧ nc ≠ R)
    (hY : ∀ pre (x : SAct) W, J pre W → pre.length < 1048576 → YieldAt Fence.wide (n - 1) Try.prog l #[.agg x.cells.toArray] W fun e W' =>
      (e = .returned (.bool true) ∧ J (pre ++ [x]) W' ∧ (KeptS n₀ S W W' ∧ KeepT W W')) ∨ (e = .returned (.bool false) ∧ Jx (pre ++ [x]) W' ∧ (KeptS n₀ S W W' ∧ KeepT W W')))
    (hJ : ∀ pre W W', J pre W → Touch (fun j => j = R) W W' → J pre W')
    (W : World) (hn₀ : n₀ ≤ W.heap.size) (hRC : W.cell? ⟨rc, 0, none⟩ = some (.pointer (some ⟨R, 0, none⟩))) (hNC : W.cell? ⟨nc, 0, none⟩ = some (.int .i64 (m : Nat))) (v : Value) (hr : RR W R v p.1 p.2) (hv : p.1 ≠ [] → ∀ b, v.ownBlock = some b → b < n₀ ∧ ¬ S b) (hm : m ≤ 65536) (h0 : J [] W) :
    CallsIn Fence.wide n Try.prog 42 #[.func (.yield l) #[] #[], .pointer (some ⟨nc, 0, none⟩), .pointer (some ⟨rc, 0, none⟩)] W fun e W' => (∃ v, e = .returned v) ∧ ((∃ xs, ActsS R p m xs W' ∧ J xs W') ∨ ∃ pre, Jx pre W') := by
  refine callsIn_of_wp Try.func42 rfl trivial ?_ rfl
  simp only [Try.ntmps42, List.size_toArray, List.length_cons, List.length_nil, Nat.reduceAdd, Nat.reduceSub, Array.replicate_succ, Array.replicate_zero, List.push_toArray, List.append_toArray, List.nil_append, List.cons_append]
  have HR := Lib.hid hr
  have HJ0 := Lib.hid h0
  have HRC := Lib.hid hRC
  have HV := Lib.hid hv
  clear h0 hr hRC hv
  gi_wp2
  refine wpIn_scope_straight ?_
  gi_wp2
  refine wpIn_label ?_
  gi_wp2
  gi_loopw [6] (fun i wr => ∃ (i' : Nat) (pre : List SAct) (v : Value), i' ≤ m ∧ i = .int .i64 i' ∧ pre.map SAct.data = (List.range i').map (xP p) ∧ (∀ j, j < i' → goodP p j = true) ∧ J pre wr ∧ RR wr R v (stP p i').1 (stP p i').2 ∧ ((stP p i').1 ≠ [] → ∀ b, v.ownBlock = some b → b < n₀ ∧ ¬ S b) ∧ (∀ x ∈ pre, x.mine wr) ∧ n₀ ≤ wr.heap.size ∧ wr.cell? ⟨rc, 0, none⟩ = some (.pointer (some ⟨R, 0, none⟩))) (fun i _ => m - (intOf i).toNat)
  case atStart => exact ⟨0, [], v, by omega, rfl, rfl, fun j hj => by omega, HJ0.out, HR.out, HV.out, fun x hx => by simp at hx, hn₀, HRC.out⟩
  case round =>
    clear HJ0 HR HV HRC hn₀ hNC
    obtain ⟨i, pre, v, hi, rfl, hda, hgo, hJs, hr, hv, hmi, hn₀, b1⟩ := hrel
    have HJs := Lib.hid hJs
    have HR := Lib.hid hr
    have HV := Lib.hid hv
    have HDA := Lib.hid hda
    have HGO := Lib.hid hgo
    have HMI := Lib.hid hmi
    have hpl : pre.length = i := by have := congrArg List.length hda; simpa using this
    clear hJs hr hv hda hgo hmi
    by_cases hlt : i < m
    · have hji : (i : Int) < (m : Int) := by omega
      have HRD := Lib.hid (read_any R v (stP p i) wr HR.out (fun hne b hb => by have := (HV.out hne b hb).1; omega))
      gi_wp2
      refine ⟨trivial, fun _ => by omega, ?_⟩
      refine (callsIn_wide.2 HRD.out).mono ?_
      rintro e w1 ⟨x, v1, rfl, hd, hmx, _, hrs⟩
      have hRb := HR.out.blk
      have HR1 : Hid (RR w1 R v1 (stP p (i + 1)).1 (stP p (i + 1)).2) := Lib.hid hrs.rr
      have HV1 : Hid ((stP p (i + 1)).1 ≠ [] → ∀ b, v1.ownBlock = some b → b < n₀ ∧ ¬ S b) := Lib.hid (fun hne b hb => HV.out (hrs.ne hne) b (hrs.own b hb))
      have HJ1 := Lib.hid (hJ _ _ _ HJs.out (Touch.of hrs.grown (fun j e => by cases e; rfl)))
      have hkt : KeepT wr w1 := KeepT.step hrs.grown hRb (by decide) (by decide)
      have HMI1 : Hid (∀ y ∈ pre, y.mine w1) := Lib.hid (fun y hy => (HMI.out y hy).keepT hkt)
      have b1 := hrs.grown.cell b1 (by simp; exact hne.1)
      have hn1 : n₀ ≤ w1.heap.size := Nat.le_trans hn₀ hrs.grown.size
      have HMX := Lib.hid hmx
      have hrx := xP_data p i hd
      have HD : Hid (x.data = xP p i) := Lib.hid hd
      have hgd : goodP p i = (!(stP p (i + 1)).2 && x.right) := by unfold goodP; rw [hrx]
      have HGD := Lib.hid hgd
      clear hRb hkt hrs hmx hd hrx hgd HRD HR HV HJs HMI hn₀
      obtain ⟨k, key, val, n', ns, ka, va, na, kc, vc, nc'⟩ := x
      unfold SAct.right at HGD
      dsimp only [SAct.cells] at HGD ⊢
      have hga := World.grownBy_alloc w1 (.cells #[.int .i64 k, .slice ka key.length kc, .slice va val.length vc, .int .i64 n', .slice na ns.length nc'] 35) none
      have b2 := hga.cell b1 (by simp)
      gi_wp2
      refine ⟨trivial, fun _ => by omega, ?_⟩
      have HX2 := Lib.hid (Blk.new w1 35 [.int .i64 k, .slice ka key.length kc, .slice va val.length vc, .int .i64 n', .slice na ns.length nc'])
      have HR2 := Lib.hid (HR1.out.grown hga)
      have HJ2 := Lib.hid (hJ _ _ _ HJ1.out (Touch.of_none hga))
      have HM2 : Hid (∀ y ∈ pre ++ [(⟨k, key, val, n', ns, ka, va, na, kc, vc, nc'⟩ : SAct)], y.mine (w1.alloc (.cells #[.int .i64 k, .slice ka key.length kc, .slice va val.length vc, .int .i64 n', .slice na ns.length nc'] 35))) := Lib.hid (fun y hy => by
        rcases List.mem_append.1 hy with h | h
        · exact (HMI1.out y h).grown hga
        · rw [List.mem_singleton.1 h]; exact HMX.out.grown hga)
      have hn2 : n₀ ≤ (w1.alloc (.cells #[.int .i64 k, .slice ka key.length kc, .slice va val.length vc, .int .i64 n', .slice na ns.length nc'] 35)).heap.size := Nat.le_trans hn1 hga.size
      obtain ⟨X, hX⟩ : ∃ X, w1.heap.size = X := ⟨_, rfl⟩
      obtain ⟨w2, hw2⟩ : ∃ w2, w1.alloc (.cells #[.int .i64 k, .slice ka key.length kc, .slice va val.length vc, .int .i64 n', .slice na ns.length nc'] 35) = w2 := ⟨_, rfl⟩
      rw [hX, hw2] at HX2
      rw [hw2] at HR2 HJ2 HM2 b2 hn2 ⊢
      rw [hX]
      clear hga HR1 HJ1 HMI1 HMX hX hw2 b1 hn1
      refine (callsIn_wide.2 (rbad_any R v1 _ _ w2 HR2.out)).mono ?_
      rintro e w3 ⟨rfl, rfl⟩
      have x0 := HX2.out.cell (j := 0) rfl
      have x1 := HX2.out.cell (j := 1) rfl
      have x2 := HX2.out.cell (j := 2) rfl
      have x3 := HX2.out.cell (j := 3) rfl
      have x4 := HX2.out.cell (j := 4) rfl
      obtain ⟨bd, hbd⟩ : ∃ bd, (stP p (i + 1)).2 = bd := ⟨_, rfl⟩
      rw [hbd] at HGD ⊢
      have HBD := Lib.hid hbd
      clear hbd
      cases bd
      · gi_wp2
        refine ⟨trivial, fun _ => by omega, ?_⟩
        refine (callsIn_wide.2 (pright_any k n' ka va na key.length val.length ns.length kc vc nc' w2)).mono ?_
        rintro e w3 ⟨rfl, g3⟩
        have HX3 := Lib.hid (HX2.out.grown g3 (by simp))
        have HR3 := Lib.hid (HR2.out.grown g3)
        have HJ3 := Lib.hid (hJ _ _ _ HJ2.out (Touch.of_none g3))
        have HM3 : Hid (∀ y ∈ pre ++ [(⟨k, key, val, n', ns, ka, va, na, kc, vc, nc'⟩ : SAct)], y.mine w3) := Lib.hid (fun y hy => (HM2.out y hy).grown g3)
        have b3 := g3.cell b2 (by simp)
        have hn3 : n₀ ≤ w3.heap.size := Nat.le_trans hn2 g3.size
        clear g3 x0 x1 x2 x3 x4 HX2 HR2 HJ2 HM2 b2 hn2
        have x0 := HX3.out.cell (j := 0) rfl
        have x1 := HX3.out.cell (j := 1) rfl
        have x2 := HX3.out.cell (j := 2) rfl
        have x3 := HX3.out.cell (j := 3) rfl
        have x4 := HX3.out.cell (j := 4) rfl
        obtain ⟨q, hq⟩ : ∃ q, rightB k key.length val.length ns.length n' = q := ⟨_, rfl⟩
        rw [hq] at HGD ⊢
        clear hq
        cases q
        · have HG2 : Hid (goodP p i = false) := Lib.hid (by rw [HGD.out]; rfl)
          have HM4 : Hid (∀ y ∈ pre, y.mine w3) := Lib.hid (fun y hy => HM3.out y (List.mem_append_left _ hy))
          gi_wp2
          (try dsimp only [Exit.noGoto])
          go_end0
          exact ⟨⟨_, rfl⟩, .inl ⟨pre, ⟨i, v1, _, by omega, HDA.out, HGO.out, .inr ⟨hlt, HG2.out, rfl⟩, HR3.out, HM4.out⟩, HJ3.out⟩⟩
        · have HG2 : Hid (goodP p i = true) := Lib.hid (by rw [HGD.out]; rfl)
          obtain ⟨fn, tmps, assign, body, hyy, hR2⟩ := hY pre ⟨k, key, val, n', ns, ka, va, na, kc, vc, nc'⟩ w3 HJ3.out (by omega)
          have HRD := Lib.hid hR2
          dsimp only [SAct.cells] at hyy
          clear hR2
          gi_wp2
          refine ⟨fun _ => by omega, ?_⟩
          refine HRD.out.mono ?_
          rintro e W3 (⟨rfl, hJ4, hk4, ht4⟩ | ⟨rfl, hJx4, hk4, ht4⟩)
          · have HJ4 := Lib.hid hJ4
            have HR4 := Lib.hid (HR3.out.keptS hk4 hR0 HV1.out)
            have HM4 : Hid (∀ y ∈ pre ++ [(⟨k, key, val, n', ns, ka, va, na, kc, vc, nc'⟩ : SAct)], y.mine W3) := Lib.hid (fun y hy => (HM3.out y hy).keepT ht4)
            have b4 := (hk4.cell (p := ⟨rc, 0, none⟩) hr0.1 hr0.2).trans b3
            have hn4 : n₀ ≤ W3.heap.size := Nat.le_trans hn3 hk4.1
            have HB4 := Lib.hid b4
            have HDA2 : Hid ((pre ++ [(⟨k, key, val, n', ns, ka, va, na, kc, vc, nc'⟩ : SAct)]).map SAct.data = (List.range (i + 1)).map (xP p)) := Lib.hid (by rw [List.map_append, HDA.out, List.range_succ, List.map_append, List.map_singleton, List.map_singleton, HD.out])
            have HGO2 : Hid (∀ j, j < i + 1 → goodP p j = true) := Lib.hid (fun j hj => by
              by_cases h : j < i
              · exact HGO.out j h
              · obtain rfl : j = i := by omega
                exact HG2.out)
            clear hJ4 hk4 ht4 b4 b3 x0 x1 x2 x3 x4 HRD
            gi_wp2
            go_roundw
            case rel => exact ⟨i + 1, _, v1, by omega, by go_num, HDA2.out, HGO2.out, HJ4.out, HR4.out, HV1.out, HM4.out, hn4, HB4.out⟩
            case measure => simp [intOf]; omega
          · have HX4 := Lib.hid hJx4
            clear hJx4 hk4 ht4
            gi_wp2
            (try dsimp only [Exit.noGoto])
            refine bodyPost_ret (results_none rfl _ _ _) rfl ?_
            exact ⟨⟨_, rfl⟩, .inr ⟨_, HX4.out⟩⟩
      · have HG2 : Hid (goodP p i = false) := Lib.hid (by rw [HGD.out]; rfl)
        have HM4 : Hid (∀ y ∈ pre, y.mine w2) := Lib.hid (fun y hy => HM2.out y (List.mem_append_left _ hy))
        gi_wp2
        (try dsimp only [Exit.noGoto])
        go_end0
        exact ⟨⟨_, rfl⟩, .inl ⟨pre, ⟨i, v1, _, by omega, HDA.out, HGO.out, .inr ⟨hlt, HG2.out, rfl⟩, HR2.out, HM4.out⟩, HJ2.out⟩⟩
    · obtain rfl : i = m := by omega
      have hji : ¬ (i : Int) < (i : Int) := by omega
      gi_wp2
      (try dsimp only [Exit.noGoto])
      go_end0
      exact ⟨⟨_, rfl⟩, .inl ⟨pre, ⟨i, v, _, by omega, HDA.out, HGO.out, .inl ⟨rfl, rfl⟩, HR.out, HMI.out⟩, HJs.out⟩⟩

end Go.Proofs.Ytbjpjnkaaiajlaa
