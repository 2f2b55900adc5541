/- package script: an act's write. -/
import Derived.Test.YtbjpjnkaaiajlaaScG
import Derived.Test.YtbjpjnkaaiajlaaScR
import Derived.Test.YtbjpjnkaaiajlaaPT
namespace Go.Proofs.Ytbjpjnkaaiajlaa
open Go.RowKit

/-- 'uint64(n)'. -/
def uI (n : Int) : Nat := (n % 18446744073709551616).toNat
theorem uI_lt (n : Int) : uI n < 18446744073709551616 := by unfold uI; omega
theorem wrap_uI (n : Int) : IntKind.u64.wrap n = (uI n : Int) := by rw [IntKind.wrap_u64]; unfold uI; omega
def intsV (ns : List Int) : List Value := ns.map (Value.int .i64)
def numsB (ns : List Int) : List Nat := ns.flatMap fun n => numB (uI n) 8
theorem numsB_len (ns : List Int) : (numsB ns).length = 8 * ns.length := by
  induction ns with
  | nil => rfl
  | cons n ns ih =>
    have : numsB (n :: ns) = numB (uI n) 8 ++ numsB ns := rfl
    rw [this, List.length_append, numB_len, ih, List.length_cons]
    omega
theorem numsB_take (ns : List Int) (j : Nat) (h : j < ns.length) : numsB (ns.take (j + 1)) = numsB (ns.take j) ++ numB (uI (ns.getD j 0)) 8 := by
  rw [List.take_succ_eq_append_getElem h, numsB, List.flatMap_append]
  simp [numsB, List.getD, h]
/-- An act's bytes. -/
def actB (k : Int) (key val : List Nat) (n : Int) (ns : List Int) : List Nat :=
  numB (uI k) 1 ++ (if (formX k).key = true then numB key.length 2 ++ key else []) ++ (if (formX k).value = true then numB val.length 2 ++ val else []) ++ (if (formX k).num = true then numB (uI n) 8 else []) ++ (if (0 < (formX k).nums ∧ (formX k).just = false) then numB ns.length 1 else []) ++ numsB ns
/-- What kinds have, by sort. -/
def sortOf (f : Form) : Prop :=
  (f.key = true ∧ f.value = false ∧ f.num = false ∧ f.nums = 0 ∧ f.just = false) ∨ (f.key = true ∧ f.value = true ∧ f.num = true ∧ f.nums = 0 ∧ f.just = false) ∨ (f.key = false ∧ f.value = false ∧ f.num = false ∧ f.nums = 0 ∧ f.just = false) ∨
  (f.key = false ∧ f.value = false ∧ f.num = true ∧ f.nums = 0 ∧ f.just = false) ∨ (f.key = false ∧ f.value = false ∧ f.num = false ∧ f.nums = 100 ∧ f.just = false) ∨ (f.key = false ∧ f.value = false ∧ f.num = false ∧ f.nums = 3 ∧ f.just = true)
theorem sort_of (k : Int) : sortOf (formX k) := by
  unfold formX
  split
  · rename_i h
    obtain ⟨h0, h1⟩ := isK_iff.1 h
    obtain ⟨m, rfl⟩ := Int.eq_ofNat_of_zero_le h0
    rw [Int.toNat_natCast]
    rcases (show m = 0 ∨ m = 1 ∨ m = 2 ∨ m = 3 ∨ m = 4 ∨ m = 5 ∨ m = 6 ∨ m = 7 ∨ m = 8 ∨ m = 9 by omega) with rfl | rfl | rfl | rfl | rfl | rfl | rfl | rfl | rfl | rfl <;> simp [sortOf, formOf]
  · simp [sortOf, noForm]

set_option maxRecDepth 100000 in
set_option maxHeartbeats 8000000 in
theorem pwrite_any (k n : Int) (key val : List Nat) (ns : List Int) (ka va na : Option Addr) (kc vc nc : Nat) (B : Nat) (v : Value) (lim : Int) (xs : List Nat) (w : World) (hw : WR w B v xs lim false) (hroom : (xs.length : Int) + 200000 ≤ lim) (hy : xs.length ≤ 40000000)
    (hkl : key.length ≤ 65535) (hvl : val.length ≤ 65535) (hnl : ns.length ≤ 100)
    (hk : Rds w 1 (.slice ka key.length kc) key.length (bytesV key)) (hv : Rds w 1 (.slice va val.length vc) val.length (bytesV val)) (hn : Rds w 1 (.slice na ns.length nc) ns.length (intsV ns))
    (hko : bytesV key ≠ [] → ∀ b, (Value.slice ka key.length kc).ownBlock = some b → ¬ WOwn B v b) (hvo : bytesV val ≠ [] → ∀ b, (Value.slice va val.length vc).ownBlock = some b → ¬ WOwn B v b) (hno : intsV ns ≠ [] → ∀ b, (Value.slice na ns.length nc).ownBlock = some b → ¬ WOwn B v b) :
    Calls Try.prog 23 #[.agg #[.int .i64 k, .slice ka key.length kc, .slice va val.length vc, .int .i64 n, .slice na ns.length nc], .pointer (some ⟨B, 0, none⟩)] w fun e w' => ∃ v', e = .returned (.tuple #[]) ∧ PT w B v lim w' v' (xs ++ actB k key val n ns) := by
  have hlk : ∀ (W : World) (b : Nat), W.heap[b]? = some (formO 10) → (Instr.lookup 66 (.map (some b)) (.int .i64 k) false).run Try.prog W = .ok (formX k).val W := fun W b h => by
    have := run_lookX W b k false h
    rwa [if_neg (by simp)] at this
  have hso := sort_of k
  have HP : Hid (actB k key val n ns = actB k key val n ns) := Lib.hid rfl
  rw [show (actB k key val n ns = actB k key val n ns) = (actB k key val n ns = numB (uI k) 1 ++ (if (formX k).key = true then numB key.length 2 ++ key else []) ++ (if (formX k).value = true then numB val.length 2 ++ val else []) ++ (if (formX k).num = true then numB (uI n) 8 else []) ++ (if (0 < (formX k).nums ∧ (formX k).just = false) then numB ns.length 1 else []) ++ numsB ns) from rfl] at HP
  unfold Form.val at hlk
  obtain ⟨f, hf⟩ : ∃ f, formX k = f := ⟨_, rfl⟩
  rw [hf] at hlk hso HP
  have HLK := Lib.hid hlk
  have HSO := Lib.hid hso
  have hcv := wrap_uI k
  have hcn := wrap_uI n
  have hcl : IntKind.u64.wrap (ns.length : Int) = ns.length := by rw [IntKind.wrap_u64]; omega
  obtain ⟨uk, huk⟩ : ∃ m, uI k = m := ⟨_, rfl⟩
  have huk1 := uI_lt k
  obtain ⟨un, hun⟩ : ∃ m, uI n = m := ⟨_, rfl⟩
  have hun1 := uI_lt n
  rw [huk] at hcv huk1 HP
  rw [hun] at hcn hun1 HP
  clear hlk hf hso huk hun
  have HW := Lib.hid hw
  have HK := Lib.hid hk
  have HV := Lib.hid hv
  have HN := Lib.hid hn
  have HKO := Lib.hid hko
  have HVO := Lib.hid hvo
  have HNO := Lib.hid hno
  have hlt := hw.lt
  have HLT := Lib.hid hlt
  clear hw hk hv hn hko hvo hno hlt
  go_enter Try.func23, Try.ntmps23
  go_wp2_with fail
  obtain ⟨X, hX⟩ : ∃ X, w.heap.size = X := ⟨_, rfl⟩
  obtain ⟨w0, hw0⟩ : ∃ w0, w.alloc (.cells #[.int .i64 k, .slice ka key.length kc, .slice va val.length vc, .int .i64 n, .slice na ns.length nc] 35) = w0 := ⟨_, rfl⟩
  have hx : Blk w0 X 35 [.int .i64 k, .slice ka key.length kc, .slice va val.length vc, .int .i64 n, .slice na ns.length nc] := by rw [← hw0, ← hX]; exact Blk.new w _ _
  have hg0 : w.grownBy w0 none := by rw [← hw0]; exact World.grownBy_alloc _ _ none
  have hXo : ¬ WOwn B v X := fun h => by have := HLT.out X h; omega
  rw [hX, hw0]
  clear hX hw0
  have HX := Lib.hid hx
  have HG0 := Lib.hid hg0
  have HXO := Lib.hid hXo
  clear hx hg0 hXo
  refine wp_region_FG (fun j v => match j with
      | 1 => v = .pointer (some ⟨X, 0, none⟩)
      | 2 => v = .int .i64 k
      | 3 => v = .agg #[.string f.name, .bool f.key, .bool f.value, .bool f.num, .int .i64 (f.nums : Int), .bool f.just]
      | _ => True) (GF w0 f 4 5) [[], [], [1], [0, 1, 2], [], [0, 1, 2, 3, 4]] (by kernel_rfl) (by kernel_rfl) (fun vals => GF.begin) ?xobs ?xend
  case xobs =>
    refine fgObs_cons (fun D vals W hG hD hC => ?_) (fgObs_cons (fun D vals W hG hD hC => ?_) (fgObs_cons (fun D vals W hG hD hC => ?_) (fgObs_cons (fun D vals W hG hD hC => ?_) (fgObs_cons (fun D vals W hG hD hC => ?_) (fgObs_cons (fun D vals W hG hD hC => ?_) (fgObs_nil))))))
    case _ =>
      refine givenV_nil ?_
      (try simp only [Act.put, List.setIfInBounds_toArray, List.set_cons_zero, List.set_cons_succ])
      refine wpOp_list rfl (fun K hK => ?_)
      go_simp
      refine (forms_any W).mono ?_
      rintro e w' ⟨rfl, rfl⟩
      exact hK _ _ ⟨_, rfl, True.intro, hG.forms (by decide) (by decide)⟩
    case _ =>
      have q0 := (HX.out.grown hG.grown (by simp)).cell (j := 0) rfl
      (repeat (refine givenV_step rfl (fun v h hv => ?_); (try dsimp only at h); first | subst h | (clear h; subst hv)))
      refine givenV_nil ?_
      (try simp only [Act.put, List.setIfInBounds_toArray, List.set_cons_zero, List.set_cons_succ])
      refine free_read rfl (by rfl) (v := _) ?_ ⟨rfl, hG.keep 1 _ (by decide) (by decide) (by decide)⟩
      go_simp
      (try with_reducible rfl)
    case _ =>
      have q0 := (HX.out.grown hG.grown (by simp)).cell (j := 0) rfl
      (repeat (refine givenV_step rfl (fun v h hv => ?_); (try dsimp only at h); first | subst h | (clear h; subst hv)))
      refine givenV_nil ?_
      (try simp only [Act.put, List.setIfInBounds_toArray, List.set_cons_zero, List.set_cons_succ])
      refine free_read rfl (by rfl) (v := _) ?_ ⟨rfl, hG.keep 2 _ (by decide) (by decide) (by decide)⟩
      go_simp
      (try with_reducible rfl)
    case _ =>
      have q0 := (HX.out.grown hG.grown (by simp)).cell (j := 0) rfl
      have hdst : D 5 = false := by
        cases hs : D 5
        · rfl
        · rw [(hG.ord hs).2.2] at hD; cases hD
      obtain ⟨mb, hvm, hmb⟩ := hG.map (hC 0 (by simp)) hdst
      have hlk := HLK.out W mb hmb
      (repeat (refine givenV_step rfl (fun v h hv => ?_); (try dsimp only at h); first | subst h | (clear h; subst hv)))
      refine givenV_nil ?_
      (try simp only [Act.put, List.setIfInBounds_toArray, List.set_cons_zero, List.set_cons_succ])
      (try rw [hvm])
      refine free_read rfl (by rfl) (v := _) ?_ ⟨rfl, hG.keep 3 _ (by decide) (by decide) (by decide)⟩
      go_simp
      (try with_reducible rfl)
    case _ =>
      refine givenV_nil ?_
      (try simp only [Act.put, List.setIfInBounds_toArray, List.set_cons_zero, List.set_cons_succ])
      refine wpOp_list rfl (fun K hK => ?_)
      go_simp
      exact hK _ _ ⟨_, rfl, True.intro, hG.fresh (by decide) (by decide) hD⟩
    case _ =>
      have hdal := hC 4 (by simp)
      have hd0 := hC 0 (by simp)
      obtain ⟨fb, hvf, hnf, hbf, _⟩ := hG.var hdal
      have hbf := hbf hD
      have f0 := hbf.frozen 0; have f1 := hbf.frozen 1; have f2 := hbf.frozen 2; have f3 := hbf.frozen 3; have f4 := hbf.frozen 4; have f5 := hbf.frozen 5
      unfold noForm Form.cells at hbf
      have g0 := hbf.cell (j := 0) rfl; have g1 := hbf.cell (j := 1) rfl; have g2 := hbf.cell (j := 2) rfl; have g3 := hbf.cell (j := 3) rfl; have g4 := hbf.cell (j := 4) rfl; have g5 := hbf.cell (j := 5) rfl
      (repeat (refine givenV_step rfl (fun v h hv => ?_); (try dsimp only at h); first | subst h | (clear h; subst hv)))
      refine givenV_nil ?_
      (try simp only [Act.put, List.setIfInBounds_toArray, List.set_cons_zero, List.set_cons_succ])
      (try rw [hvf])
      refine wpOp_list rfl (fun K hK => ?_)
      go_simp
      refine hK _ _ ⟨undef, rfl, True.intro, hG.stored fb hd0 (hC 3 (by simp)) hdal (by decide) (by decide) hvf hnf ?_ ?_⟩
      · exact (((((hbf.setCell 0 _).setCell 1 _).setCell 2 _).setCell 3 _).setCell 4 _).setCell 5 _
      · exact grownBy_trans (grownBy_trans (grownBy_trans (grownBy_trans (grownBy_trans (grownBy_setCell _ _ _) (grownBy_setCell _ _ _)) (grownBy_setCell _ _ _)) (grownBy_setCell _ _ _)) (grownBy_setCell _ _ _)) (grownBy_setCell _ _ _)
  case xend =>
    intro D vals W hG hD
    obtain ⟨fb, hvf, hnf, _, hbf⟩ := hG.var (hD 4 (by decide))
    have hbf := hbf (hD 5 (by decide))
    have hgW := hG.grown
    (repeat (refine givenV_step rfl (fun v h hv => ?_); (try dsimp only at h); first | subst h | (clear h; subst hv)))
    refine givenV_nil ?_
    (try simp only [Act.put, List.setIfInBounds_toArray, List.set_cons_zero, List.set_cons_succ])
    rw [hvf]
    clear hvf hG hD
    have HX := Lib.hid (HX.out.grown hgW (by simp))
    have HF := Lib.hid hbf
    have HFO : Hid (¬ WOwn B v fb) := Lib.hid (fun h => by have := HLT.out fb h; have := HG0.out.size; omega)
    have HP0 := Lib.hid ((PT.begin HW.out).later (grownBy_trans HG0.out hgW))
    clear hgW hbf hnf HG0 HLK HW
    obtain ⟨nm, fk, fv, fn, fns, fj⟩ := f
    unfold Form.cells at HF
    rcases HSO.out with h | h | h | h | h | h <;> obtain ⟨h1, h2, h3, h4, h5⟩ := h <;> dsimp only at h1 h2 h3 h4 h5 <;> subst h1 h2 h3 h4 h5
    · dsimp only at HP HF
      have y1 := HF.out.cell (j := 1) rfl
      have y2 := HF.out.cell (j := 2) rfl
      have y3 := HF.out.cell (j := 3) rfl
      have y4 := HF.out.cell (j := 4) rfl
      have y5 := HF.out.cell (j := 5) rfl
      have x0 := HX.out.cell (j := 0) rfl
      have x1 := HX.out.cell (j := 1) rfl
      have x2 := HX.out.cell (j := 2) rfl
      have x3 := HX.out.cell (j := 3) rfl
      have x4 := HX.out.cell (j := 4) rfl
      go_wp2_with fail
      refine (HP0.out.num uk 1 (by omega) (by decide) (by (try simp [numB_len]); omega) (by (try simp [numB_len]); omega)).mono ?_
      rintro e w1 ⟨v1, rfl, p1, s1⟩
      have t1 := s1 fb _ _ HF.out HFO.out
      have t2 := s1 X _ _ HX.out HXO.out
      have HF := Lib.hid t1.1
      have HFO := Lib.hid t1.2
      have HX := Lib.hid t2.1
      have HXO := Lib.hid t2.2
      have HP0 := Lib.hid p1
      clear p1 s1 t1 t2 y1 y2 y3 y4 y5 x0 x1 x2 x3 x4
      have y1 := HF.out.cell (j := 1) rfl
      have y2 := HF.out.cell (j := 2) rfl
      have y3 := HF.out.cell (j := 3) rfl
      have y4 := HF.out.cell (j := 4) rfl
      have y5 := HF.out.cell (j := 5) rfl
      have x0 := HX.out.cell (j := 0) rfl
      have x1 := HX.out.cell (j := 1) rfl
      have x2 := HX.out.cell (j := 2) rfl
      have x3 := HX.out.cell (j := 3) rfl
      have x4 := HX.out.cell (j := 4) rfl
      go_wp2_with fail
      refine (HP0.out.text key ka kc (by omega) (by (try simp [numB_len]); omega) (by (try simp [numB_len]); omega) (HP0.out.touch.rds2 HK.out HKO.out)).mono ?_
      rintro e w1 ⟨v1, rfl, p1, s1⟩
      have t1 := s1 fb _ _ HF.out HFO.out
      have t2 := s1 X _ _ HX.out HXO.out
      have HF := Lib.hid t1.1
      have HFO := Lib.hid t1.2
      have HX := Lib.hid t2.1
      have HXO := Lib.hid t2.2
      have HP0 := Lib.hid p1
      clear p1 s1 t1 t2 y1 y2 y3 y4 y5 x0 x1 x2 x3 x4
      have y1 := HF.out.cell (j := 1) rfl
      have y2 := HF.out.cell (j := 2) rfl
      have y3 := HF.out.cell (j := 3) rfl
      have y4 := HF.out.cell (j := 4) rfl
      have y5 := HF.out.cell (j := 5) rfl
      have x0 := HX.out.cell (j := 0) rfl
      have x1 := HX.out.cell (j := 1) rfl
      have x2 := HX.out.cell (j := 2) rfl
      have x3 := HX.out.cell (j := 3) rfl
      have x4 := HX.out.cell (j := 4) rfl
      go_wp2_with fail
      have hzl : (xs ++ numB uk 1 ++ (numB key.length 2 ++ key)).length ≤ xs.length + 140000 := by first | (simp [numB_len]; omega) | simp [numB_len]
      have HZ : Hid ((xs ++ numB uk 1 ++ (numB key.length 2 ++ key)) ++ numsB ns = xs ++ actB k key val n ns) := Lib.hid (by rw [HP.out]; simp)
      obtain ⟨zs, hzs⟩ : ∃ zs, (xs ++ numB uk 1 ++ (numB key.length 2 ++ key)) = zs := ⟨_, rfl⟩
      rw [hzs] at HP0 HZ hzl
      clear hzs y1 y2 y3 y4 y5 x0 x1 x2 x3 x4 HK HV HKO HVO HF HFO HX HXO
      go_loopw [52] (fun i wr => ∃ (j : Nat) (v' : Value), j ≤ ns.length ∧ i = .int .i64 j ∧ PT w B v lim wr v' (zs ++ numsB (ns.take j))) (fun i _ => ns.length - (intOf i).toNat)
      case atStart => exact ⟨0, v1, by omega, rfl, by simpa [numsB] using HP0.out⟩
      case round =>
        clear HP0
        obtain ⟨j, v', hj, rfl, hp⟩ := hrel
        by_cases hlt : j < ns.length
        · obtain ⟨b, o, rfl, hc⟩ := (hp.touch.rds2 HN.out HNO.out).at' (by omega)
          have x0 := hc j (.int .i64 (ns.getD j 0)) (by simp [intsV, hlt, List.getD])
          have HT := Lib.hid (numsB_take ns j hlt)
          have hzz : (zs ++ numsB (ns.take j)).length ≤ xs.length + 141000 := by rw [List.length_append, numsB_len, List.length_take]; omega
          have HPj := Lib.hid hp
          obtain ⟨z, hz⟩ : ∃ z, ns.getD j 0 = z := ⟨_, rfl⟩
          rw [hz] at x0 HT
          have hcz := wrap_uI z
          obtain ⟨uz, huz⟩ : ∃ m, uI z = m := ⟨_, rfl⟩
          have huz1 := uI_lt z
          rw [huz] at hcz huz1 HT
          clear hc hz huz hp
          have hji : (j : Int) < (ns.length : Int) := by omega
          go_wp2_with fail
          refine (HPj.out.num uz 8 (by omega) (by decide) (by omega) (by omega)).mono ?_
          rintro e w2 ⟨v2, rfl, p2, _⟩
          have HP2 := Lib.hid p2
          clear p2
          go_wp2_with fail
          exact ⟨⟨j + 1, v2, by omega, by go_num, by rw [HT.out, ← List.append_assoc]; exact HP2.out⟩, by simp [intOf]; omega⟩
        · obtain rfl : j = ns.length := by omega
          rw [List.take_length] at hp
          have HE : Hid (PT w B v lim wr v' (xs ++ actB k key val n ns)) := Lib.hid (by rw [← HZ.out]; exact hp)
          clear hp HP
          go_wp2_with fail
          go_end0
          exact ⟨v', rfl, HE.out⟩
    · dsimp only at HP HF
      have y1 := HF.out.cell (j := 1) rfl
      have y2 := HF.out.cell (j := 2) rfl
      have y3 := HF.out.cell (j := 3) rfl
      have y4 := HF.out.cell (j := 4) rfl
      have y5 := HF.out.cell (j := 5) rfl
      have x0 := HX.out.cell (j := 0) rfl
      have x1 := HX.out.cell (j := 1) rfl
      have x2 := HX.out.cell (j := 2) rfl
      have x3 := HX.out.cell (j := 3) rfl
      have x4 := HX.out.cell (j := 4) rfl
      go_wp2_with fail
      refine (HP0.out.num uk 1 (by omega) (by decide) (by (try simp [numB_len]); omega) (by (try simp [numB_len]); omega)).mono ?_
      rintro e w1 ⟨v1, rfl, p1, s1⟩
      have t1 := s1 fb _ _ HF.out HFO.out
      have t2 := s1 X _ _ HX.out HXO.out
      have HF := Lib.hid t1.1
      have HFO := Lib.hid t1.2
      have HX := Lib.hid t2.1
      have HXO := Lib.hid t2.2
      have HP0 := Lib.hid p1
      clear p1 s1 t1 t2 y1 y2 y3 y4 y5 x0 x1 x2 x3 x4
      have y1 := HF.out.cell (j := 1) rfl
      have y2 := HF.out.cell (j := 2) rfl
      have y3 := HF.out.cell (j := 3) rfl
      have y4 := HF.out.cell (j := 4) rfl
      have y5 := HF.out.cell (j := 5) rfl
      have x0 := HX.out.cell (j := 0) rfl
      have x1 := HX.out.cell (j := 1) rfl
      have x2 := HX.out.cell (j := 2) rfl
      have x3 := HX.out.cell (j := 3) rfl
      have x4 := HX.out.cell (j := 4) rfl
      go_wp2_with fail
      refine (HP0.out.text key ka kc (by omega) (by (try simp [numB_len]); omega) (by (try simp [numB_len]); omega) (HP0.out.touch.rds2 HK.out HKO.out)).mono ?_
      rintro e w1 ⟨v1, rfl, p1, s1⟩
      have t1 := s1 fb _ _ HF.out HFO.out
      have t2 := s1 X _ _ HX.out HXO.out
      have HF := Lib.hid t1.1
      have HFO := Lib.hid t1.2
      have HX := Lib.hid t2.1
      have HXO := Lib.hid t2.2
      have HP0 := Lib.hid p1
      clear p1 s1 t1 t2 y1 y2 y3 y4 y5 x0 x1 x2 x3 x4
      have y1 := HF.out.cell (j := 1) rfl
      have y2 := HF.out.cell (j := 2) rfl
      have y3 := HF.out.cell (j := 3) rfl
      have y4 := HF.out.cell (j := 4) rfl
      have y5 := HF.out.cell (j := 5) rfl
      have x0 := HX.out.cell (j := 0) rfl
      have x1 := HX.out.cell (j := 1) rfl
      have x2 := HX.out.cell (j := 2) rfl
      have x3 := HX.out.cell (j := 3) rfl
      have x4 := HX.out.cell (j := 4) rfl
      go_wp2_with fail
      refine (HP0.out.text val va vc (by omega) (by (try simp [numB_len]); omega) (by (try simp [numB_len]); omega) (HP0.out.touch.rds2 HV.out HVO.out)).mono ?_
      rintro e w1 ⟨v1, rfl, p1, s1⟩
      have t1 := s1 fb _ _ HF.out HFO.out
      have t2 := s1 X _ _ HX.out HXO.out
      have HF := Lib.hid t1.1
      have HFO := Lib.hid t1.2
      have HX := Lib.hid t2.1
      have HXO := Lib.hid t2.2
      have HP0 := Lib.hid p1
      clear p1 s1 t1 t2 y1 y2 y3 y4 y5 x0 x1 x2 x3 x4
      have y1 := HF.out.cell (j := 1) rfl
      have y2 := HF.out.cell (j := 2) rfl
      have y3 := HF.out.cell (j := 3) rfl
      have y4 := HF.out.cell (j := 4) rfl
      have y5 := HF.out.cell (j := 5) rfl
      have x0 := HX.out.cell (j := 0) rfl
      have x1 := HX.out.cell (j := 1) rfl
      have x2 := HX.out.cell (j := 2) rfl
      have x3 := HX.out.cell (j := 3) rfl
      have x4 := HX.out.cell (j := 4) rfl
      go_wp2_with fail
      refine (HP0.out.num un 8 (by omega) (by decide) (by (try simp [numB_len]); omega) (by (try simp [numB_len]); omega)).mono ?_
      rintro e w1 ⟨v1, rfl, p1, s1⟩
      have t1 := s1 fb _ _ HF.out HFO.out
      have t2 := s1 X _ _ HX.out HXO.out
      have HF := Lib.hid t1.1
      have HFO := Lib.hid t1.2
      have HX := Lib.hid t2.1
      have HXO := Lib.hid t2.2
      have HP0 := Lib.hid p1
      clear p1 s1 t1 t2 y1 y2 y3 y4 y5 x0 x1 x2 x3 x4
      have y1 := HF.out.cell (j := 1) rfl
      have y2 := HF.out.cell (j := 2) rfl
      have y3 := HF.out.cell (j := 3) rfl
      have y4 := HF.out.cell (j := 4) rfl
      have y5 := HF.out.cell (j := 5) rfl
      have x0 := HX.out.cell (j := 0) rfl
      have x1 := HX.out.cell (j := 1) rfl
      have x2 := HX.out.cell (j := 2) rfl
      have x3 := HX.out.cell (j := 3) rfl
      have x4 := HX.out.cell (j := 4) rfl
      go_wp2_with fail
      have hzl : (xs ++ numB uk 1 ++ (numB key.length 2 ++ key) ++ (numB val.length 2 ++ val) ++ numB un 8).length ≤ xs.length + 140000 := by first | (simp [numB_len]; omega) | simp [numB_len]
      have HZ : Hid ((xs ++ numB uk 1 ++ (numB key.length 2 ++ key) ++ (numB val.length 2 ++ val) ++ numB un 8) ++ numsB ns = xs ++ actB k key val n ns) := Lib.hid (by rw [HP.out]; simp)
      obtain ⟨zs, hzs⟩ : ∃ zs, (xs ++ numB uk 1 ++ (numB key.length 2 ++ key) ++ (numB val.length 2 ++ val) ++ numB un 8) = zs := ⟨_, rfl⟩
      rw [hzs] at HP0 HZ hzl
      clear hzs y1 y2 y3 y4 y5 x0 x1 x2 x3 x4 HK HV HKO HVO HF HFO HX HXO
      go_loopw [52] (fun i wr => ∃ (j : Nat) (v' : Value), j ≤ ns.length ∧ i = .int .i64 j ∧ PT w B v lim wr v' (zs ++ numsB (ns.take j))) (fun i _ => ns.length - (intOf i).toNat)
      case atStart => exact ⟨0, v1, by omega, rfl, by simpa [numsB] using HP0.out⟩
      case round =>
        clear HP0
        obtain ⟨j, v', hj, rfl, hp⟩ := hrel
        by_cases hlt : j < ns.length
        · obtain ⟨b, o, rfl, hc⟩ := (hp.touch.rds2 HN.out HNO.out).at' (by omega)
          have x0 := hc j (.int .i64 (ns.getD j 0)) (by simp [intsV, hlt, List.getD])
          have HT := Lib.hid (numsB_take ns j hlt)
          have hzz : (zs ++ numsB (ns.take j)).length ≤ xs.length + 141000 := by rw [List.length_append, numsB_len, List.length_take]; omega
          have HPj := Lib.hid hp
          obtain ⟨z, hz⟩ : ∃ z, ns.getD j 0 = z := ⟨_, rfl⟩
          rw [hz] at x0 HT
          have hcz := wrap_uI z
          obtain ⟨uz, huz⟩ : ∃ m, uI z = m := ⟨_, rfl⟩
          have huz1 := uI_lt z
          rw [huz] at hcz huz1 HT
          clear hc hz huz hp
          have hji : (j : Int) < (ns.length : Int) := by omega
          go_wp2_with fail
          refine (HPj.out.num uz 8 (by omega) (by decide) (by omega) (by omega)).mono ?_
          rintro e w2 ⟨v2, rfl, p2, _⟩
          have HP2 := Lib.hid p2
          clear p2
          go_wp2_with fail
          exact ⟨⟨j + 1, v2, by omega, by go_num, by rw [HT.out, ← List.append_assoc]; exact HP2.out⟩, by simp [intOf]; omega⟩
        · obtain rfl : j = ns.length := by omega
          rw [List.take_length] at hp
          have HE : Hid (PT w B v lim wr v' (xs ++ actB k key val n ns)) := Lib.hid (by rw [← HZ.out]; exact hp)
          clear hp HP
          go_wp2_with fail
          go_end0
          exact ⟨v', rfl, HE.out⟩
    · dsimp only at HP HF
      have y1 := HF.out.cell (j := 1) rfl
      have y2 := HF.out.cell (j := 2) rfl
      have y3 := HF.out.cell (j := 3) rfl
      have y4 := HF.out.cell (j := 4) rfl
      have y5 := HF.out.cell (j := 5) rfl
      have x0 := HX.out.cell (j := 0) rfl
      have x1 := HX.out.cell (j := 1) rfl
      have x2 := HX.out.cell (j := 2) rfl
      have x3 := HX.out.cell (j := 3) rfl
      have x4 := HX.out.cell (j := 4) rfl
      go_wp2_with fail
      refine (HP0.out.num uk 1 (by omega) (by decide) (by (try simp [numB_len]); omega) (by (try simp [numB_len]); omega)).mono ?_
      rintro e w1 ⟨v1, rfl, p1, s1⟩
      have t1 := s1 fb _ _ HF.out HFO.out
      have t2 := s1 X _ _ HX.out HXO.out
      have HF := Lib.hid t1.1
      have HFO := Lib.hid t1.2
      have HX := Lib.hid t2.1
      have HXO := Lib.hid t2.2
      have HP0 := Lib.hid p1
      clear p1 s1 t1 t2 y1 y2 y3 y4 y5 x0 x1 x2 x3 x4
      have y1 := HF.out.cell (j := 1) rfl
      have y2 := HF.out.cell (j := 2) rfl
      have y3 := HF.out.cell (j := 3) rfl
      have y4 := HF.out.cell (j := 4) rfl
      have y5 := HF.out.cell (j := 5) rfl
      have x0 := HX.out.cell (j := 0) rfl
      have x1 := HX.out.cell (j := 1) rfl
      have x2 := HX.out.cell (j := 2) rfl
      have x3 := HX.out.cell (j := 3) rfl
      have x4 := HX.out.cell (j := 4) rfl
      go_wp2_with fail
      have hzl : (xs ++ numB uk 1).length ≤ xs.length + 140000 := by first | (simp [numB_len]; omega) | simp [numB_len]
      have HZ : Hid ((xs ++ numB uk 1) ++ numsB ns = xs ++ actB k key val n ns) := Lib.hid (by rw [HP.out]; simp)
      obtain ⟨zs, hzs⟩ : ∃ zs, (xs ++ numB uk 1) = zs := ⟨_, rfl⟩
      rw [hzs] at HP0 HZ hzl
      clear hzs y1 y2 y3 y4 y5 x0 x1 x2 x3 x4 HK HV HKO HVO HF HFO HX HXO
      go_loopw [52] (fun i wr => ∃ (j : Nat) (v' : Value), j ≤ ns.length ∧ i = .int .i64 j ∧ PT w B v lim wr v' (zs ++ numsB (ns.take j))) (fun i _ => ns.length - (intOf i).toNat)
      case atStart => exact ⟨0, v1, by omega, rfl, by simpa [numsB] using HP0.out⟩
      case round =>
        clear HP0
        obtain ⟨j, v', hj, rfl, hp⟩ := hrel
        by_cases hlt : j < ns.length
        · obtain ⟨b, o, rfl, hc⟩ := (hp.touch.rds2 HN.out HNO.out).at' (by omega)
          have x0 := hc j (.int .i64 (ns.getD j 0)) (by simp [intsV, hlt, List.getD])
          have HT := Lib.hid (numsB_take ns j hlt)
          have hzz : (zs ++ numsB (ns.take j)).length ≤ xs.length + 141000 := by rw [List.length_append, numsB_len, List.length_take]; omega
          have HPj := Lib.hid hp
          obtain ⟨z, hz⟩ : ∃ z, ns.getD j 0 = z := ⟨_, rfl⟩
          rw [hz] at x0 HT
          have hcz := wrap_uI z
          obtain ⟨uz, huz⟩ : ∃ m, uI z = m := ⟨_, rfl⟩
          have huz1 := uI_lt z
          rw [huz] at hcz huz1 HT
          clear hc hz huz hp
          have hji : (j : Int) < (ns.length : Int) := by omega
          go_wp2_with fail
          refine (HPj.out.num uz 8 (by omega) (by decide) (by omega) (by omega)).mono ?_
          rintro e w2 ⟨v2, rfl, p2, _⟩
          have HP2 := Lib.hid p2
          clear p2
          go_wp2_with fail
          exact ⟨⟨j + 1, v2, by omega, by go_num, by rw [HT.out, ← List.append_assoc]; exact HP2.out⟩, by simp [intOf]; omega⟩
        · obtain rfl : j = ns.length := by omega
          rw [List.take_length] at hp
          have HE : Hid (PT w B v lim wr v' (xs ++ actB k key val n ns)) := Lib.hid (by rw [← HZ.out]; exact hp)
          clear hp HP
          go_wp2_with fail
          go_end0
          exact ⟨v', rfl, HE.out⟩
    · dsimp only at HP HF
      have y1 := HF.out.cell (j := 1) rfl
      have y2 := HF.out.cell (j := 2) rfl
      have y3 := HF.out.cell (j := 3) rfl
      have y4 := HF.out.cell (j := 4) rfl
      have y5 := HF.out.cell (j := 5) rfl
      have x0 := HX.out.cell (j := 0) rfl
      have x1 := HX.out.cell (j := 1) rfl
      have x2 := HX.out.cell (j := 2) rfl
      have x3 := HX.out.cell (j := 3) rfl
      have x4 := HX.out.cell (j := 4) rfl
      go_wp2_with fail
      refine (HP0.out.num uk 1 (by omega) (by decide) (by (try simp [numB_len]); omega) (by (try simp [numB_len]); omega)).mono ?_
      rintro e w1 ⟨v1, rfl, p1, s1⟩
      have t1 := s1 fb _ _ HF.out HFO.out
      have t2 := s1 X _ _ HX.out HXO.out
      have HF := Lib.hid t1.1
      have HFO := Lib.hid t1.2
      have HX := Lib.hid t2.1
      have HXO := Lib.hid t2.2
      have HP0 := Lib.hid p1
      clear p1 s1 t1 t2 y1 y2 y3 y4 y5 x0 x1 x2 x3 x4
      have y1 := HF.out.cell (j := 1) rfl
      have y2 := HF.out.cell (j := 2) rfl
      have y3 := HF.out.cell (j := 3) rfl
      have y4 := HF.out.cell (j := 4) rfl
      have y5 := HF.out.cell (j := 5) rfl
      have x0 := HX.out.cell (j := 0) rfl
      have x1 := HX.out.cell (j := 1) rfl
      have x2 := HX.out.cell (j := 2) rfl
      have x3 := HX.out.cell (j := 3) rfl
      have x4 := HX.out.cell (j := 4) rfl
      go_wp2_with fail
      refine (HP0.out.num un 8 (by omega) (by decide) (by (try simp [numB_len]); omega) (by (try simp [numB_len]); omega)).mono ?_
      rintro e w1 ⟨v1, rfl, p1, s1⟩
      have t1 := s1 fb _ _ HF.out HFO.out
      have t2 := s1 X _ _ HX.out HXO.out
      have HF := Lib.hid t1.1
      have HFO := Lib.hid t1.2
      have HX := Lib.hid t2.1
      have HXO := Lib.hid t2.2
      have HP0 := Lib.hid p1
      clear p1 s1 t1 t2 y1 y2 y3 y4 y5 x0 x1 x2 x3 x4
      have y1 := HF.out.cell (j := 1) rfl
      have y2 := HF.out.cell (j := 2) rfl
      have y3 := HF.out.cell (j := 3) rfl
      have y4 := HF.out.cell (j := 4) rfl
      have y5 := HF.out.cell (j := 5) rfl
      have x0 := HX.out.cell (j := 0) rfl
      have x1 := HX.out.cell (j := 1) rfl
      have x2 := HX.out.cell (j := 2) rfl
      have x3 := HX.out.cell (j := 3) rfl
      have x4 := HX.out.cell (j := 4) rfl
      go_wp2_with fail
      have hzl : (xs ++ numB uk 1 ++ numB un 8).length ≤ xs.length + 140000 := by first | (simp [numB_len]; omega) | simp [numB_len]
      have HZ : Hid ((xs ++ numB uk 1 ++ numB un 8) ++ numsB ns = xs ++ actB k key val n ns) := Lib.hid (by rw [HP.out]; simp)
      obtain ⟨zs, hzs⟩ : ∃ zs, (xs ++ numB uk 1 ++ numB un 8) = zs := ⟨_, rfl⟩
      rw [hzs] at HP0 HZ hzl
      clear hzs y1 y2 y3 y4 y5 x0 x1 x2 x3 x4 HK HV HKO HVO HF HFO HX HXO
      go_loopw [52] (fun i wr => ∃ (j : Nat) (v' : Value), j ≤ ns.length ∧ i = .int .i64 j ∧ PT w B v lim wr v' (zs ++ numsB (ns.take j))) (fun i _ => ns.length - (intOf i).toNat)
      case atStart => exact ⟨0, v1, by omega, rfl, by simpa [numsB] using HP0.out⟩
      case round =>
        clear HP0
        obtain ⟨j, v', hj, rfl, hp⟩ := hrel
        by_cases hlt : j < ns.length
        · obtain ⟨b, o, rfl, hc⟩ := (hp.touch.rds2 HN.out HNO.out).at' (by omega)
          have x0 := hc j (.int .i64 (ns.getD j 0)) (by simp [intsV, hlt, List.getD])
          have HT := Lib.hid (numsB_take ns j hlt)
          have hzz : (zs ++ numsB (ns.take j)).length ≤ xs.length + 141000 := by rw [List.length_append, numsB_len, List.length_take]; omega
          have HPj := Lib.hid hp
          obtain ⟨z, hz⟩ : ∃ z, ns.getD j 0 = z := ⟨_, rfl⟩
          rw [hz] at x0 HT
          have hcz := wrap_uI z
          obtain ⟨uz, huz⟩ : ∃ m, uI z = m := ⟨_, rfl⟩
          have huz1 := uI_lt z
          rw [huz] at hcz huz1 HT
          clear hc hz huz hp
          have hji : (j : Int) < (ns.length : Int) := by omega
          go_wp2_with fail
          refine (HPj.out.num uz 8 (by omega) (by decide) (by omega) (by omega)).mono ?_
          rintro e w2 ⟨v2, rfl, p2, _⟩
          have HP2 := Lib.hid p2
          clear p2
          go_wp2_with fail
          exact ⟨⟨j + 1, v2, by omega, by go_num, by rw [HT.out, ← List.append_assoc]; exact HP2.out⟩, by simp [intOf]; omega⟩
        · obtain rfl : j = ns.length := by omega
          rw [List.take_length] at hp
          have HE : Hid (PT w B v lim wr v' (xs ++ actB k key val n ns)) := Lib.hid (by rw [← HZ.out]; exact hp)
          clear hp HP
          go_wp2_with fail
          go_end0
          exact ⟨v', rfl, HE.out⟩
    · dsimp only at HP HF
      have y1 := HF.out.cell (j := 1) rfl
      have y2 := HF.out.cell (j := 2) rfl
      have y3 := HF.out.cell (j := 3) rfl
      have y4 := HF.out.cell (j := 4) rfl
      have y5 := HF.out.cell (j := 5) rfl
      have x0 := HX.out.cell (j := 0) rfl
      have x1 := HX.out.cell (j := 1) rfl
      have x2 := HX.out.cell (j := 2) rfl
      have x3 := HX.out.cell (j := 3) rfl
      have x4 := HX.out.cell (j := 4) rfl
      go_wp2_with fail
      refine (HP0.out.num uk 1 (by omega) (by decide) (by (try simp [numB_len]); omega) (by (try simp [numB_len]); omega)).mono ?_
      rintro e w1 ⟨v1, rfl, p1, s1⟩
      have t1 := s1 fb _ _ HF.out HFO.out
      have t2 := s1 X _ _ HX.out HXO.out
      have HF := Lib.hid t1.1
      have HFO := Lib.hid t1.2
      have HX := Lib.hid t2.1
      have HXO := Lib.hid t2.2
      have HP0 := Lib.hid p1
      clear p1 s1 t1 t2 y1 y2 y3 y4 y5 x0 x1 x2 x3 x4
      have y1 := HF.out.cell (j := 1) rfl
      have y2 := HF.out.cell (j := 2) rfl
      have y3 := HF.out.cell (j := 3) rfl
      have y4 := HF.out.cell (j := 4) rfl
      have y5 := HF.out.cell (j := 5) rfl
      have x0 := HX.out.cell (j := 0) rfl
      have x1 := HX.out.cell (j := 1) rfl
      have x2 := HX.out.cell (j := 2) rfl
      have x3 := HX.out.cell (j := 3) rfl
      have x4 := HX.out.cell (j := 4) rfl
      go_wp2_with fail
      refine (HP0.out.num ns.length 1 (by omega) (by decide) (by (try simp [numB_len]); omega) (by (try simp [numB_len]); omega)).mono ?_
      rintro e w1 ⟨v1, rfl, p1, s1⟩
      have t1 := s1 fb _ _ HF.out HFO.out
      have t2 := s1 X _ _ HX.out HXO.out
      have HF := Lib.hid t1.1
      have HFO := Lib.hid t1.2
      have HX := Lib.hid t2.1
      have HXO := Lib.hid t2.2
      have HP0 := Lib.hid p1
      clear p1 s1 t1 t2 y1 y2 y3 y4 y5 x0 x1 x2 x3 x4
      have y1 := HF.out.cell (j := 1) rfl
      have y2 := HF.out.cell (j := 2) rfl
      have y3 := HF.out.cell (j := 3) rfl
      have y4 := HF.out.cell (j := 4) rfl
      have y5 := HF.out.cell (j := 5) rfl
      have x0 := HX.out.cell (j := 0) rfl
      have x1 := HX.out.cell (j := 1) rfl
      have x2 := HX.out.cell (j := 2) rfl
      have x3 := HX.out.cell (j := 3) rfl
      have x4 := HX.out.cell (j := 4) rfl
      go_wp2_with fail
      have hzl : (xs ++ numB uk 1 ++ numB ns.length 1).length ≤ xs.length + 140000 := by first | (simp [numB_len]; omega) | simp [numB_len]
      have HZ : Hid ((xs ++ numB uk 1 ++ numB ns.length 1) ++ numsB ns = xs ++ actB k key val n ns) := Lib.hid (by rw [HP.out]; simp)
      obtain ⟨zs, hzs⟩ : ∃ zs, (xs ++ numB uk 1 ++ numB ns.length 1) = zs := ⟨_, rfl⟩
      rw [hzs] at HP0 HZ hzl
      clear hzs y1 y2 y3 y4 y5 x0 x1 x2 x3 x4 HK HV HKO HVO HF HFO HX HXO
      go_loopw [52] (fun i wr => ∃ (j : Nat) (v' : Value), j ≤ ns.length ∧ i = .int .i64 j ∧ PT w B v lim wr v' (zs ++ numsB (ns.take j))) (fun i _ => ns.length - (intOf i).toNat)
      case atStart => exact ⟨0, v1, by omega, rfl, by simpa [numsB] using HP0.out⟩
      case round =>
        clear HP0
        obtain ⟨j, v', hj, rfl, hp⟩ := hrel
        by_cases hlt : j < ns.length
        · obtain ⟨b, o, rfl, hc⟩ := (hp.touch.rds2 HN.out HNO.out).at' (by omega)
          have x0 := hc j (.int .i64 (ns.getD j 0)) (by simp [intsV, hlt, List.getD])
          have HT := Lib.hid (numsB_take ns j hlt)
          have hzz : (zs ++ numsB (ns.take j)).length ≤ xs.length + 141000 := by rw [List.length_append, numsB_len, List.length_take]; omega
          have HPj := Lib.hid hp
          obtain ⟨z, hz⟩ : ∃ z, ns.getD j 0 = z := ⟨_, rfl⟩
          rw [hz] at x0 HT
          have hcz := wrap_uI z
          obtain ⟨uz, huz⟩ : ∃ m, uI z = m := ⟨_, rfl⟩
          have huz1 := uI_lt z
          rw [huz] at hcz huz1 HT
          clear hc hz huz hp
          have hji : (j : Int) < (ns.length : Int) := by omega
          go_wp2_with fail
          refine (HPj.out.num uz 8 (by omega) (by decide) (by omega) (by omega)).mono ?_
          rintro e w2 ⟨v2, rfl, p2, _⟩
          have HP2 := Lib.hid p2
          clear p2
          go_wp2_with fail
          exact ⟨⟨j + 1, v2, by omega, by go_num, by rw [HT.out, ← List.append_assoc]; exact HP2.out⟩, by simp [intOf]; omega⟩
        · obtain rfl : j = ns.length := by omega
          rw [List.take_length] at hp
          have HE : Hid (PT w B v lim wr v' (xs ++ actB k key val n ns)) := Lib.hid (by rw [← HZ.out]; exact hp)
          clear hp HP
          go_wp2_with fail
          go_end0
          exact ⟨v', rfl, HE.out⟩
    · dsimp only at HP HF
      have y1 := HF.out.cell (j := 1) rfl
      have y2 := HF.out.cell (j := 2) rfl
      have y3 := HF.out.cell (j := 3) rfl
      have y4 := HF.out.cell (j := 4) rfl
      have y5 := HF.out.cell (j := 5) rfl
      have x0 := HX.out.cell (j := 0) rfl
      have x1 := HX.out.cell (j := 1) rfl
      have x2 := HX.out.cell (j := 2) rfl
      have x3 := HX.out.cell (j := 3) rfl
      have x4 := HX.out.cell (j := 4) rfl
      go_wp2_with fail
      refine (HP0.out.num uk 1 (by omega) (by decide) (by (try simp [numB_len]); omega) (by (try simp [numB_len]); omega)).mono ?_
      rintro e w1 ⟨v1, rfl, p1, s1⟩
      have t1 := s1 fb _ _ HF.out HFO.out
      have t2 := s1 X _ _ HX.out HXO.out
      have HF := Lib.hid t1.1
      have HFO := Lib.hid t1.2
      have HX := Lib.hid t2.1
      have HXO := Lib.hid t2.2
      have HP0 := Lib.hid p1
      clear p1 s1 t1 t2 y1 y2 y3 y4 y5 x0 x1 x2 x3 x4
      have y1 := HF.out.cell (j := 1) rfl
      have y2 := HF.out.cell (j := 2) rfl
      have y3 := HF.out.cell (j := 3) rfl
      have y4 := HF.out.cell (j := 4) rfl
      have y5 := HF.out.cell (j := 5) rfl
      have x0 := HX.out.cell (j := 0) rfl
      have x1 := HX.out.cell (j := 1) rfl
      have x2 := HX.out.cell (j := 2) rfl
      have x3 := HX.out.cell (j := 3) rfl
      have x4 := HX.out.cell (j := 4) rfl
      go_wp2_with fail
      have hzl : (xs ++ numB uk 1).length ≤ xs.length + 140000 := by first | (simp [numB_len]; omega) | simp [numB_len]
      have HZ : Hid ((xs ++ numB uk 1) ++ numsB ns = xs ++ actB k key val n ns) := Lib.hid (by rw [HP.out]; simp)
      obtain ⟨zs, hzs⟩ : ∃ zs, (xs ++ numB uk 1) = zs := ⟨_, rfl⟩
      rw [hzs] at HP0 HZ hzl
      clear hzs y1 y2 y3 y4 y5 x0 x1 x2 x3 x4 HK HV HKO HVO HF HFO HX HXO
      go_loopw [52] (fun i wr => ∃ (j : Nat) (v' : Value), j ≤ ns.length ∧ i = .int .i64 j ∧ PT w B v lim wr v' (zs ++ numsB (ns.take j))) (fun i _ => ns.length - (intOf i).toNat)
      case atStart => exact ⟨0, v1, by omega, rfl, by simpa [numsB] using HP0.out⟩
      case round =>
        clear HP0
        obtain ⟨j, v', hj, rfl, hp⟩ := hrel
        by_cases hlt : j < ns.length
        · obtain ⟨b, o, rfl, hc⟩ := (hp.touch.rds2 HN.out HNO.out).at' (by omega)
          have x0 := hc j (.int .i64 (ns.getD j 0)) (by simp [intsV, hlt, List.getD])
          have HT := Lib.hid (numsB_take ns j hlt)
          have hzz : (zs ++ numsB (ns.take j)).length ≤ xs.length + 141000 := by rw [List.length_append, numsB_len, List.length_take]; omega
          have HPj := Lib.hid hp
          obtain ⟨z, hz⟩ : ∃ z, ns.getD j 0 = z := ⟨_, rfl⟩
          rw [hz] at x0 HT
          have hcz := wrap_uI z
          obtain ⟨uz, huz⟩ : ∃ m, uI z = m := ⟨_, rfl⟩
          have huz1 := uI_lt z
          rw [huz] at hcz huz1 HT
          clear hc hz huz hp
          have hji : (j : Int) < (ns.length : Int) := by omega
          go_wp2_with fail
          refine (HPj.out.num uz 8 (by omega) (by decide) (by omega) (by omega)).mono ?_
          rintro e w2 ⟨v2, rfl, p2, _⟩
          have HP2 := Lib.hid p2
          clear p2
          go_wp2_with fail
          exact ⟨⟨j + 1, v2, by omega, by go_num, by rw [HT.out, ← List.append_assoc]; exact HP2.out⟩, by simp [intOf]; omega⟩
        · obtain rfl : j = ns.length := by omega
          rw [List.take_length] at hp
          have HE : Hid (PT w B v lim wr v' (xs ++ actB k key val n ns)) := Lib.hid (by rw [← HZ.out]; exact hp)
          clear hp HP
          go_wp2_with fail
          go_end0
          exact ⟨v', rfl, HE.out⟩

end Go.Proofs.Ytbjpjnkaaiajlaa
