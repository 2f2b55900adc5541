/- package bits: Copy. -/
import Derived.Test.YtjbfnnfbdjjjbaaDoorSetNew
namespace Go.Proofs.YtjbfnnfbdjjjbaaDoor
open Go.RowKit

theorem wordsV_one (ws : List (BitVec 64)) : ∀ u ∈ wordsV ws, u.oneCell' = true := by
  intro u hu
  unfold wordsV at hu
  obtain ⟨i, _, rfl⟩ := List.mem_map.1 hu
  rfl
theorem wordsV_app (xs ys : List (BitVec 64)) : wordsV (xs ++ ys) = wordsV xs ++ wordsV ys := List.map_append
theorem clone64_any (xs : List (BitVec 64)) (a : Option Addr) (c : Nat) (w : World) (hx : xs.length ≤ 100000) (hr : Rds w 1 (.slice a xs.length c) xs.length (wordsV xs)) :
    Calls Tryd.prog 29 #[.slice a xs.length c] w fun e w' => ∃ a' c', e = .returned (.slice a' xs.length c') ∧ w'.ownsRow w.heap.size 54 1 (.slice a' xs.length c') xs.length (wordsV xs) ∧ w.grownBy w' none := by
  obtain ⟨i0, hi, hz0, hz1, hz2⟩ := info_parts infoWord
  cases a with
  | none =>
    have hn := Lib.run_eql_slice_nil (P := Tryd.prog)
    have h0 : xs = [] := by
      rcases hr.2.2 with ⟨_, h⟩ | ⟨ad, cap, h, _⟩
      · exact List.eq_nil_of_length_eq_zero h
      · simp at h
    subst h0
    clear hr
    go_enter Tryd.func29, Tryd.ntmps29
    go_wp2
    go_ret
    exact ⟨none, 0, rfl, World.ownsRow_nil _ _ _ _, grownBy_refl _ _⟩
  | some ad =>
    have hn := Lib.run_eql_slice_nil (P := Tryd.prog)
    have HR := Lib.hid hr
    clear hr
    go_enter Tryd.func29, Tryd.ntmps29
    go_wp2_with (at_builtin; refine wpList_append_rds rfl _ _ 50 rfl w.heap.size 54 i0 (.int .u64 0) 1 8 Tryd.underlying50 hi hz0 hz1 hz2 rfl (by decide) (v := .slice (some ⟨w.heap.size, 0, none⟩) 0 0) (n := 0) (xs := []) (sv := .slice (some ad) xs.length c) rfl (World.ownsRow_made w #[] 0 (Nat.le_refl _) (by simp) (by simp)) rfl (HR.out.alloc _) (wordsV_one xs) (by unfold maxLen; omega) (by omega) (by simp) ?_; intro v3 w3 h1 h2 _; simp only [Nat.zero_add, List.nil_append] at h1; have h4 := Rds.of_owns h1; obtain ⟨a3, c3, rfl⟩ := h4.slice; have O3 := Lib.hid h1; have G3 := Lib.hid (grownBy_new h2); clear h1 h2 h4)
    go_ret
    exact ⟨a3, c3, rfl, O3.out, G3.out⟩

theorem ST.rds {w : World} {B g c n hand : Nat} {ws : List (BitVec 64)} (h : ST w B g c n hand ws) : Rds w 1 (.slice (some ⟨g, 0, none⟩) ws.length c) ws.length (wordsV ws) := by
  refine ⟨by rw [wordsV_len]; omega, by have := h.len; have := h.n2; unfold maxLen; omega, .inr ⟨⟨g, 0, none⟩, c, rfl, fun _ => rfl, fun j u hj => ?_⟩⟩
  obtain ⟨rest, hr⟩ := h.row
  have hlt : j < (wordsV ws).length := (List.getElem?_eq_some_iff.1 hj).1
  have := hr.cell (j := j) (v := u) (by rw [List.getElem?_append_left hlt]; exact hj)
  simpa using this
theorem ST.copied {w w' : World} {B g c n hand : Nat} {ws : List (BitVec 64)} (h : ST w B g c n hand ws) (hg : w.grownBy w' none) (B2 g2 c2 : Nat) (hb : Blk w' B2 52 [.int .i64 n, .int .i64 hand, .slice (some ⟨g2, 0, none⟩) ws.length c2]) (hr : ∃ rest, Blk w' g2 54 (wordsV ws ++ rest)) (hne : B2 ≠ g2) (h1 : w.heap.size ≤ B2) (h2 : w.heap.size ≤ g2) : ST w' B2 g2 c2 n hand ws :=
  ⟨hb, hr, hne, h.tab.same (hg.block _ h.tlt (by simp)), by have := h.tlt; omega, by have := h.tlt; omega, h.len, h.n1, h.n2, h.hd, h.top, Nat.lt_of_lt_of_le h.tlt hg.size⟩
set_option maxHeartbeats 1000000 in
theorem copy_any (B g n hand : Nat) (f : Nat → Bool) (w : World) (h : SF w B g n hand f) :
    Calls Tryd.prog 20 #[.pointer (some ⟨B, 0, none⟩)] w fun e w' => ∃ B2 g2, e = .returned (.pointer (some ⟨B2, 0, none⟩)) ∧ SF w' B2 g2 n hand f ∧ w.heap.size ≤ B2 ∧ w.heap.size ≤ g2 ∧ w.grownBy w' none := by
  obtain ⟨c, ws, hs, hf⟩ := h
  have HST := Lib.hid hs
  have HF := Lib.hid hf
  have hw0 : ws.length ≤ 1024 := by have := hs.len; have := hs.n2; omega
  clear hs hf
  go_enter Tryd.func20, Tryd.ntmps20
  go_wp2_with fail
  refine wp_region_planD (fun w' => w.grownBy w' none) [([0, 1, 2, 3, 4, 5, 6, 7, 8, 9, 10, 11], 12, true), ([13], 14, false), ([], 15, false)] (by kernel_rfl) (by kernel_rfl) ?_
  refine wpPlanD_seg (grownBy_drewN w 1 none) ?_
  repeat (apply wpReadD_step rfl (by rfl); (· intro wS hSw; (try have hSw := hSw rfl); (try dsimp only at hSw); (try have k0 := (HST.out.grown hSw).blk.cell (j := 0) rfl); (try have k1 := (HST.out.grown hSw).blk.cell (j := 1) rfl); (try have k2 := (HST.out.grown hSw).blk.cell (j := 2) rfl); go_simp; (try with_reducible rfl)); try simp only [Act.put, List.setIfInBounds_toArray, List.set_cons_zero, List.set_cons_succ])
  refine wpReadD_nil ?_
  refine wpOp_list rfl (fun K hK => ?_)
  go_simp
  refine (clone64_any ws (some ⟨g, 0, none⟩) c _ (by omega) (HST.out.rds.drewN 1)).mono ?_
  rintro e w2 ⟨a2, c2, rfl, o2, g2⟩
  dsimp only
  have G2 := Lib.hid (grownBy_trans (grownBy_drewN w 1 none) g2)
  have O2 := Lib.hid o2
  refine hK _ _ ⟨fun _ => G2.out, ?_⟩
  clear hK K o2 g2
  try simp only [Act.put, List.setIfInBounds_toArray, List.set_cons_zero, List.set_cons_succ]
  refine wpPlanD_seg G2.out ?_
  repeat (apply wpReadD_step rfl (by rfl); (· intro wS hSw; go_simp; (try with_reducible rfl)); try simp only [Act.put, List.setIfInBounds_toArray, List.set_cons_zero, List.set_cons_succ])
  refine wpReadD_nil ?_
  refine wpOp_list rfl (fun K hK => ?_)
  go_simp
  refine hK _ _ ?_
  first | refine ⟨fun hf => (by cases hf), ?_⟩ | skip
  clear hK K
  try simp only [Act.put, List.setIfInBounds_toArray, List.set_cons_zero, List.set_cons_succ]
  refine wpPlanD_pure (by rfl) ?_
  refine wpReadD_nil ?_
  refine wpOp_list rfl (fun K hK => ?_)
  go_simp
  refine hK _ _ ?_
  first | refine ⟨fun hf => (by cases hf), ?_⟩ | skip
  clear hK K
  try simp only [Act.put, List.setIfInBounds_toArray, List.set_cons_zero, List.set_cons_succ]
  refine wpPlanD_nil (NoPanic.normal ?_)
  go_wp2
  have hpos : 0 < ws.length := by have := HST.out.len; have := HST.out.n1; omega
  obtain ⟨hl, ⟨e1, e2⟩ | ⟨q, cap, cur, e1, hqb, hh, hnc, hcap, hsz, htk⟩⟩ := O2.out
  · omega
  cases e1
  have hblk : Blk w2 q 54 cur.toList := hh
  have hrow : ∃ rest, Blk (w2.alloc (.cells #[.int .i64 n, .int .i64 hand, .slice (some ⟨q, 0, none⟩) ws.length c2] 52)) q 54 (wordsV ws ++ rest) := ⟨cur.toList.drop (ws.length * 1), by rw [← htk, List.take_append_drop]; exact hblk.alloc _⟩
  have hnew := HST.out.copied (grownBy_trans G2.out (World.grownBy_alloc w2 (.cells #[.int .i64 n, .int .i64 hand, .slice (some ⟨q, 0, none⟩) ws.length c2] 52) none)) w2.heap.size q c2 (Blk.new w2 _ _) hrow (by have := hblk.lt; omega) G2.out.size hqb
  refine bodyPost_ret (v := .pointer (some ⟨w2.heap.size, 0, none⟩)) (by simp [results, Tryd.results20, go_sem]) rfl ⟨w2.heap.size, q, rfl, ⟨c2, ws, hnew, HF.out⟩, G2.out.size, hqb, grownBy_trans G2.out (World.grownBy_alloc _ _ none)⟩

end Go.Proofs.YtjbfnnfbdjjjbaaDoor
