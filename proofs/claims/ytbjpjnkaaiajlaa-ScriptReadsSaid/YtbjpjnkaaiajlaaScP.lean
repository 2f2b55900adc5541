/- package script: Pack. -/
import Derived.Test.YtbjpjnkaaiajlaaScW
namespace Go.Proofs.Ytbjpjnkaaiajlaa
open Go.RowKit

structure SAct where
  k : Int
  key : List Nat
  val : List Nat
  n : Int
  ns : List Int
  ka : Option Addr
  va : Option Addr
  na : Option Addr
  kc : Nat
  vc : Nat
  nc : Nat
instance : Inhabited SAct := ⟨⟨0, [], [], 0, [], none, none, none, 0, 0, 0⟩⟩
def SAct.cells (x : SAct) : List Value := [.int .i64 x.k, .slice x.ka x.key.length x.kc, .slice x.va x.val.length x.vc, .int .i64 x.n, .slice x.na x.ns.length x.nc]
def sactsV (l : List SAct) : List Value := l.flatMap SAct.cells
structure SAct.good (w : World) (x : SAct) : Prop where
  key : Rds w 1 (.slice x.ka x.key.length x.kc) x.key.length (bytesV x.key)
  val : Rds w 1 (.slice x.va x.val.length x.vc) x.val.length (bytesV x.val)
  ns : Rds w 1 (.slice x.na x.ns.length x.nc) x.ns.length (intsV x.ns)
theorem SAct.good.grown {w w' : World} {x : SAct} (h : x.good w) (hg : w.grownBy w' none) : x.good w' := ⟨h.key.grown hg (by simp), h.val.grown hg (by simp), h.ns.grown hg (by simp)⟩
def SAct.right (x : SAct) : Bool := rightB x.k x.key.length x.val.length x.ns.length x.n
def SAct.bytes (x : SAct) : List Nat := actB x.k x.key x.val x.n x.ns
theorem sact_mem (l : List SAct) (i : Nat) (h : i < l.length) : l.getD i default ∈ l := by simp [List.getD, h]
theorem sact_take (l : List SAct) (k : Nat) (h : k < l.length) : l.take (k + 1) = l.take k ++ [l.getD k default] := by
  rw [List.take_succ_eq_append_getElem h]
  simp [List.getD, h]
theorem sactsV_get (l : List SAct) (i j : Nat) (h : i < l.length) (hj : j < 5) : (sactsV l)[i * 5 + j]? = (l.getD i default).cells[j]? :=
  flatMap_get SAct.cells 5 (fun _ => rfl) l i j (l.getD i default) (by simp [List.getD, h]) hj
theorem right_k {x : SAct} (h : x.right = true) : x.key.length ≤ 65535 ∧ x.val.length ≤ 65535 ∧ x.ns.length ≤ 100 := by
  unfold SAct.right rightB at h
  simp only [Bool.and_eq_true, decide_eq_true_eq] at h
  obtain ⟨⟨⟨⟨⟨⟨⟨_, h1⟩, h2⟩, h3⟩, _⟩, _⟩, _⟩, _⟩ := h
  refine ⟨h1, h2, ?_⟩
  rcases sort_of x.k with h | h | h | h | h | h <;> omega
/-- What Pack makes of acts. -/
def packOf (l : List SAct) : List Nat × Nat := if l.all SAct.right = true then (numB l.length 4 ++ l.flatMap SAct.bytes, 0) else ([], 17)

theorem PT.trans {w W W' : World} {B : Nat} {v0 v v' : Value} {lim : Int} {xs ys : List Nat} (h : PT w B v0 lim W v xs) (k : PT W B v lim W' v' ys) : PT w B v0 lim W' v' ys :=
  ⟨k.wr, h.touch.step k.touch h.own, fun b hb => by
    rcases k.own b hb with h1 | h1
    · exact h.own b h1
    · exact .inr (Nat.le_trans h.touch.size h1)⟩

theorem pfx_len (l : List SAct) (j : Nat) : ((l.take j).flatMap SAct.bytes).length ≤ (l.flatMap SAct.bytes).length := by
  conv => rhs; rw [← List.take_append_drop j l, List.flatMap_append, List.length_append]
  omega

set_option maxRecDepth 100000 in
set_option maxHeartbeats 8000000 in
theorem ppack_any (l : List SAct) (a : Option Addr) (c : Nat) (w : World) (hr : Rds w 5 (.slice a l.length c) l.length (sactsV l)) (hg : ∀ x ∈ l, x.good w) (hl : l.length ≤ 60000) (hb : (l.flatMap SAct.bytes).length ≤ 30000000) :
    Calls Try.prog 9 #[.slice a l.length c] w fun e w' => ∃ a' c', e = .returned (.tuple #[.slice a' (packOf l).1.length c', .int .i64 ((packOf l).2 : Int)]) ∧ w'.ownsRow w.heap.size 5 1 (.slice a' (packOf l).1.length c') (packOf l).1.length (bytesV (packOf l).1) ∧ w.grownBy w' none := by
  have HR := Lib.hid hr
  have HG := Lib.hid hg
  have HNW := Lib.hid (newWriter_any 2147483647 (by omega) w)
  have hcl : IntKind.u64.wrap (l.length : Int) = l.length := by rw [IntKind.wrap_u64]; omega
  clear hr hg
  go_enter Try.func9, Try.ntmps9
  go_wp2_with fail
  refine HNW.out.mono ?_
  rintro e w1 ⟨rfl, hw1, g1⟩
  rw [if_pos (by omega)] at hw1
  have HP := Lib.hid (PT.begin hw1)
  have G1 := Lib.hid g1
  clear hw1 g1 HNW
  go_wp2_with fail
  refine (HP.out.num l.length 4 (by omega) (by decide) (by simp) (by simp)).mono ?_
  rintro e w2 ⟨v2, rfl, p2, _⟩
  have HP2 := Lib.hid p2
  clear p2 HP
  obtain ⟨B, hB⟩ : ∃ B, w.heap.size = B := ⟨_, rfl⟩
  have HB : Hid (w.heap.size = B) := Lib.hid hB
  rw [hB] at HP2 ⊢
  clear hB
  go_wp2_with fail
  have hls : HP2 = HP2 := rfl
  clear hls
  go_loopw [18] (fun i wr => ∃ (j : Nat) (v' : Value), j ≤ l.length ∧ i = .int .i64 j ∧ (l.take j).all SAct.right = true ∧ PT w1 B (.slice none 0 0) 2147483647 wr v' (numB l.length 4 ++ (l.take j).flatMap SAct.bytes)) (fun i _ => l.length - (intOf i).toNat)
  case atStart => exact ⟨0, v2, by omega, rfl, by simp, by simpa using HP2.out⟩
  case round =>
    clear HP2
    obtain ⟨j, v', hj, rfl, hall, hp⟩ := hrel
    have hown : ∀ k, WOwn B v' k → w.heap.size ≤ k := fun k hk => by
      rcases hp.own k hk with h | h
      · rcases h with h | h
        · rw [h, ← HB.out]; exact Nat.le_refl _
        · simp [Value.ownBlock] at h
      · exact Nat.le_trans G1.out.size h
    have hgr : w.grownBy wr none := Touch.grown G1.out hp.touch (fun k hk => by
      rcases hk with h | h
      · rw [h, ← HB.out]; exact Nat.le_refl _
      · simp [Value.ownBlock] at h)
    have hpl := pfx_len l j
    have hlen : (numB l.length 4 ++ (l.take j).flatMap SAct.bytes).length ≤ 30000004 := by rw [List.length_append, numB_len]; omega
    by_cases hlt : j < l.length
    · obtain ⟨b, o, rfl, hc⟩ := HR.out.at' (by omega)
      have x0 := hgr.cell (hc _ _ (sactsV_get l j 0 hlt (by omega))) (by simp)
      have x1 := hgr.cell (hc _ _ (sactsV_get l j 1 hlt (by omega))) (by simp)
      have x2 := hgr.cell (hc _ _ (sactsV_get l j 2 hlt (by omega))) (by simp)
      have x3 := hgr.cell (hc _ _ (sactsV_get l j 3 hlt (by omega))) (by simp)
      have x4 := hgr.cell (hc _ _ (sactsV_get l j 4 hlt (by omega))) (by simp)
      simp only [← Nat.add_assoc, Nat.add_zero] at x0 x1 x2 x3 x4
      have hgd := HG.out _ (sact_mem l j hlt)
      have hmem := sact_mem l j hlt
      have htk := sact_take l j hlt
      obtain ⟨x, hx⟩ : ∃ x, l.getD j default = x := ⟨_, rfl⟩
      rw [hx] at x0 x1 x2 x3 x4 hgd hmem htk
      have HGD := Lib.hid hgd
      have HMEM := Lib.hid hmem
      have HTK := Lib.hid htk
      have HPJ := Lib.hid hp
      have HALL := Lib.hid hall
      have HOWN := Lib.hid hown
      have HGR := Lib.hid hgr
      clear hc hx hgd hmem htk hp hall hown hgr hpl
      have hji : (j : Int) < (l.length : Int) := by omega
      go_wp2_with fail
      refine (pright_any x.k x.n x.ka x.va x.na x.key.length x.val.length x.ns.length x.kc x.vc x.nc _).mono ?_
      rintro e w3 ⟨rfl, g3⟩
      have hrx : rightB x.k x.key.length x.val.length x.ns.length x.n = x.right := rfl
      rw [hrx]
      clear hrx
      have hblk := (Blk.new wr 35 [.int .i64 x.k, .slice x.ka x.key.length x.kc, .slice x.va x.val.length x.vc, .int .i64 x.n, .slice x.na x.ns.length x.nc]).grown g3 (by simp)
      have hgn := grownBy_trans (World.grownBy_alloc wr (.cells #[.int .i64 x.k, .slice x.ka x.key.length x.kc, .slice x.va x.val.length x.vc, .int .i64 x.n, .slice x.na x.ns.length x.nc] 35) none) g3
      have HPK := Lib.hid (HPJ.out.later hgn)
      have HGR := Lib.hid (grownBy_trans HGR.out hgn)
      obtain ⟨nb, hnb⟩ : ∃ nb, wr.heap.size = nb := ⟨_, rfl⟩
      rw [hnb] at hblk ⊢
      have z0 := hblk.cell (j := 0) rfl
      have z1 := hblk.cell (j := 1) rfl
      have z2 := hblk.cell (j := 2) rfl
      have z3 := hblk.cell (j := 3) rfl
      have z4 := hblk.cell (j := 4) rfl
      clear hblk hgn g3 HPJ x0 x1 x2 x3 x4 hnb
      cases hri : x.right
      · have hpo : packOf l = ([], 17) := if_neg (fun h => by
          have := List.all_eq_true.1 h x HMEM.out
          rw [hri] at this
          cases this)
        have HPO := Lib.hid hpo
        clear hpo
        go_wp2_with fail
        go_ret2
        rw [HPO.out]
        exact ⟨none, 0, rfl, World.ownsRow_nil _ _ _ _, HGR.out⟩
      · obtain ⟨r1, r2, r3⟩ := right_k hri
        have HRI := Lib.hid hri
        clear hri
        go_wp2_with fail
        have hnew : ∀ (us : List Value) (u : Value), Rds w 1 u us.length us → True := fun _ _ _ => trivial
        clear hnew
        have hgd3 := HGD.out.grown HGR.out
        refine (pwrite_any x.k x.n x.key x.val x.ns x.ka x.va x.na x.kc x.vc x.nc B v' 2147483647 _ _ HPK.out.wr (by omega) (by omega) r1 r2 r3 hgd3.key hgd3.val hgd3.ns
          (fun hne b hb ho => by have := HGD.out.key.lt hne b hb; have := HOWN.out b ho; omega)
          (fun hne b hb ho => by have := HGD.out.val.lt hne b hb; have := HOWN.out b ho; omega)
          (fun hne b hb ho => by have := HGD.out.ns.lt hne b hb; have := HOWN.out b ho; omega)).mono ?_
        rintro e w4 ⟨v4, rfl, p4⟩
        have HP4 := Lib.hid (HPK.out.trans p4)
        have HA4 : Hid ((l.take (j + 1)).all SAct.right = true) := Lib.hid (by rw [HTK.out, List.all_append, HALL.out]; simp [HRI.out])
        have HE4 : Hid (numB l.length 4 ++ (l.take (j + 1)).flatMap SAct.bytes = numB l.length 4 ++ (l.take j).flatMap SAct.bytes ++ actB x.k x.key x.val x.n x.ns) := Lib.hid (by rw [HTK.out, List.flatMap_append, List.append_assoc]; simp [SAct.bytes])
        clear p4 hgd3 z0 z1 z2 z3 z4 HPK
        go_wp2_with fail
        exact ⟨⟨j + 1, v4, by omega, by go_num, HA4.out, by rw [HE4.out]; exact HP4.out⟩, by simp [intOf]; omega⟩
    · obtain rfl : j = l.length := by omega
      rw [List.take_length] at hall hp
      have hpo : packOf l = (numB l.length 4 ++ l.flatMap SAct.bytes, 0) := if_pos hall
      obtain ⟨bs, hbs⟩ : ∃ bs, numB l.length 4 ++ l.flatMap SAct.bytes = bs := ⟨_, rfl⟩
      rw [hbs] at hpo hp
      have HPO := Lib.hid hpo
      have HGR := Lib.hid hgr
      have HPE := Lib.hid hp
      clear hpo hall hp hgr hown hlen hpl hbs
      go_wp2_with fail
      refine (wbytes_any B v' _ 2147483647 false wr HPE.out.wr).mono ?_
      rintro e w5 ⟨a5, c5, rfl, o5, g5⟩
      have HO5 := Lib.hid o5
      have HG5 := Lib.hid (grownBy_trans HGR.out g5)
      have HS5 := Lib.hid HGR.out.size
      clear o5 g5
      go_wp2_with fail
      go_ret2
      rw [HPO.out]
      exact ⟨a5, c5, rfl, ownsRow_mono HO5.out HS5.out, HG5.out⟩

end Go.Proofs.Ytbjpjnkaaiajlaa
