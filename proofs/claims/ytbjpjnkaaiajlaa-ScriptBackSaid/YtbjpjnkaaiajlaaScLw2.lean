/- The plain law of scripts, for rows of acts. -/
import Derived.Test.YtbjpjnkaaiajlaaScLaw
namespace Go.Proofs.Ytbjpjnkaaiajlaa
open Go.RowKit

def flatA (l : List SAct) : List Nat := l.flatMap SAct.bytes
theorem right_w {x : SAct} (h : x.right = true) : x.wdata.right = true := by
  obtain ⟨k, key, val, n, ns, ka, va, na, kc, vc, nc⟩ := x
  unfold SAct.wdata
  unfold SAct.right rightB at h ⊢
  dsimp only at h ⊢
  simp only [Bool.and_eq_true, decide_eq_true_eq, Bool.or_eq_true] at h ⊢
  rw [List.length_map]
  refine ⟨h.1, ?_⟩
  rcases h.2 with h | h
  · exact .inl h
  · right; rw [h, wI_in 0 (by omega)]
theorem st_flat (l : List SAct) (hl : ∀ x ∈ l, x.right = true) (T : List Nat) : ∀ i, i ≤ l.length → stP (flatA l ++ T, false) i = (flatA (l.drop i) ++ T, false) ∧ ∀ j, j < i → xP (flatA l ++ T, false) j = (l.getD j default).wdata
  | 0, _ => ⟨rfl, fun j hj => by omega⟩
  | i + 1, h => by
    obtain ⟨h1, h2⟩ := st_flat l hl T i (by omega)
    have hi : i < l.length := by omega
    have hd : flatA (l.drop i) = (l.getD i default).bytes ++ flatA (l.drop (i + 1)) := by
      rw [List.drop_eq_getElem_cons hi]
      have : l.getD i default = l[i] := by simp [List.getD, hi]
      rw [this]
      rfl
    have hr := read_bytes (l.getD i default) (flatA (l.drop (i + 1)) ++ T) (hl _ (sact_mem l i hi))
    rw [← List.append_assoc, ← hd] at hr
    refine ⟨?_, fun j hj => ?_⟩
    · rw [stP, h1, hr]
    · by_cases hji : j < i
      · exact h2 j hji
      · obtain rfl : j = i := by omega
        unfold xP
        rw [h1, hr]
theorem good_flat (l : List SAct) (hl : ∀ x ∈ l, x.right = true) (T : List Nat) : ∀ j, j < l.length → goodP (flatA l ++ T, false) j = true := fun j hj => by
  have h1 := (st_flat l hl T (j + 1) (by omega)).1
  have h2 := (st_flat l hl T (j + 1) (by omega)).2 j (by omega)
  unfold goodP
  rw [h1, h2, right_w (hl _ (sact_mem l j hj))]
  rfl
theorem read_small {p : PS} (hs : ∀ y ∈ p.1, y < 256) : ∀ y ∈ (readA p).2.1, y < 256 := by
  unfold readA readF
  dsimp only
  refine nsP_small ?_ _
  have h1 := left_small' (k := 1) hs
  generalize (nP 1 p).2 = p1 at *
  generalize formX ((nP 1 p).1 : Int) = f
  have h2 : ∀ y ∈ (if f.key = true then tP p1 else ([], p1)).2.1, y < 256 := by
    split
    · exact tP_small h1
    · exact h1
  generalize (if f.key = true then tP p1 else ([], p1)).2 = p2 at *
  have h3 : ∀ y ∈ (if f.value = true then tP p2 else ([], p2)).2.1, y < 256 := by
    split
    · exact tP_small h2
    · exact h2
  generalize (if f.value = true then tP p2 else ([], p2)).2 = p3 at *
  have h4 : ∀ y ∈ (if f.num = true then ((sI (nP 8 p3).1, (nP 8 p3).2) : Int × PS) else (0, p3)).2.1, y < 256 := by
    split
    · exact left_small' h3
    · exact h3
  generalize (if f.num = true then ((sI (nP 8 p3).1, (nP 8 p3).2) : Int × PS) else (0, p3)).2 = p4 at *
  split
  · exact left_small' h4
  · exact h4
theorem st_small {p : PS} (hs : ∀ y ∈ p.1, y < 256) : ∀ i, ∀ y ∈ (stP p i).1, y < 256
  | 0 => hs
  | i + 1 => read_small (st_small hs i)
theorem st_inv {p : PS} (hs : ∀ y ∈ p.1, y < 256) : ∀ i, (∀ j, j < i → goodP p j = true) → p.1 = flatA ((List.range i).map (xP p)) ++ (stP p i).1
  | 0, _ => rfl
  | i + 1, h => by
    have ih := st_inv hs i (fun j hj => h j (by omega))
    have hg := h i (by omega)
    unfold goodP at hg
    rw [Bool.and_eq_true, Bool.not_eq_true'] at hg
    obtain ⟨_, hb⟩ := read_inv (st_small hs i) hg.1
    have hf : flatA ((List.range (i + 1)).map (xP p)) = flatA ((List.range i).map (xP p)) ++ (readA (stP p i)).1.bytes := by
      rw [List.range_succ, List.map_append, List.map_singleton, flatA, List.flatMap_append, List.flatMap_singleton]
      rfl
    rw [hf, List.append_assoc]
    show p.1 = _ ++ (_ ++ (readA (stP p i)).2.1)
    rw [← hb]
    exact ih
/-- What is read whole is what is packed for it. -/
theorem okU_pack {ys : List Nat} (hs : ∀ y ∈ ys, y < 256) (h : okU ys) : ys = numB (nP 4 (ys, false)).1 4 ++ flatA ((List.range (nP 4 (ys, false)).1).map (xP (nP 4 (ys, false)).2)) ∧ ∀ x ∈ (List.range (nP 4 (ys, false)).1).map (xP (nP 4 (ys, false)).2), x.right = true := by
  obtain ⟨hg, hst⟩ := h
  have hi := nP_inv (k := 4) (p := (ys, false)) hs
  have hsp : ∀ y ∈ (nP 4 (ys, false)).2.1, y < 256 := left_small' (p := (ys, false)) hs
  generalize nP 4 (ys, false) = a at *
  obtain ⟨m, p⟩ := a
  dsimp only at hg hst hi hsp ⊢
  have hp2 : p.2 = false := by
    cases m with
    | zero => show (stP p 0).2 = false; rw [hst]
    | succ m =>
      have hg0 := hg 0 (by omega)
      unfold goodP at hg0
      rw [Bool.and_eq_true, Bool.not_eq_true'] at hg0
      exact (read_inv (p := p) hsp hg0.1).1
  have h1 := st_inv hsp m hg
  rw [hst, List.append_nil] at h1
  refine ⟨?_, fun x hx => ?_⟩
  · rw [← h1]
    exact (hi hp2).2
  · obtain ⟨j, hj, rfl⟩ := List.mem_map.1 hx
    have := hg j (List.mem_range.1 hj)
    unfold goodP at this
    rw [Bool.and_eq_true] at this
    exact this.2
theorem np4 (l : List SAct) (T : List Nat) (h : l.length ≤ 65536) : nP 4 (numB l.length 4 ++ (flatA l ++ T), false) = (l.length, (flatA l ++ T, false)) := nP_num l.length 4 _ false (by omega)
/-- Two rows of acts, behind one another's bytes. -/
theorem pack_one {l m : List SAct} {T1 T2 : List Nat} (hl : ∀ x ∈ l, x.right = true) (hm : ∀ x ∈ m, x.right = true) (h1 : l.length ≤ 65536) (h2 : m.length ≤ 65536) (h : numB l.length 4 ++ (flatA l ++ T1) = numB m.length 4 ++ (flatA m ++ T2)) : T1 = T2 := by
  have a := np4 l T1 h1
  have b := np4 m T2 h2
  rw [h, b] at a
  simp only [Prod.mk.injEq] at a
  obtain ⟨e1, e2, _⟩ := a
  have c := (st_flat l hl T1 l.length (Nat.le_refl _)).1
  have d := (st_flat m hm T2 m.length (Nat.le_refl _)).1
  rw [← e2, ← e1, d, show l.drop m.length = [] by rw [e1]; exact List.drop_length, List.drop_length] at c
  simp only [flatA, List.flatMap_nil, List.nil_append, Prod.mk.injEq, and_true] at c
  exact c.symm
theorem packOf_ok {l : List SAct} (h : (packOf l).2 = 0) : (∀ x ∈ l, x.right = true) ∧ (packOf l).1 = numB l.length 4 ++ flatA l := by
  unfold packOf at h ⊢
  split at h
  · rename_i ha
    rw [if_pos ha]
    exact ⟨List.all_eq_true.1 ha, rfl⟩
  · cases h
theorem packOf_no {l : List SAct} (h : (packOf l).2 ≠ 0) : packOf l = ([], 17) := by
  unfold packOf at h ⊢
  split
  · rename_i ha
    rw [if_pos ha] at h
    exact absurd rfl h
  · rfl
/-- Cut short, or with more behind: no script. -/
theorem cut_no {l : List SAct} {ys T : List Nat} (hl : ∀ x ∈ l, x.right = true) (h1 : l.length ≤ 65536) (hs : ∀ y ∈ ys, y < 256) (hT : T ≠ []) (hm : (nP 4 (ys, false)).1 ≤ 65536) (h : ys ++ T = numB l.length 4 ++ flatA l ∨ ys = numB l.length 4 ++ flatA l ++ T) : ¬ okU ys := fun ho => by
  obtain ⟨e, hr⟩ := okU_pack hs ho
  have hlen : ((List.range (nP 4 (ys, false)).1).map (xP (nP 4 (ys, false)).2)).length = (nP 4 (ys, false)).1 := by simp
  rcases h with h | h
  · have := pack_one (T1 := []) (T2 := T) hl hr h1 (by rw [hlen]; exact hm) (by
      rw [hlen, List.append_nil, ← h, ← List.append_assoc, ← e])
    exact hT this.symm
  · have := pack_one (T1 := T) (T2 := []) hl hr h1 (by rw [hlen]; exact hm) (by
      rw [hlen, List.append_nil, ← e, ← List.append_assoc]
      exact h.symm)
    exact hT this
theorem numB4_small (l : List SAct) : ∀ y ∈ numB l.length 4, y < 256 := numB_lt _ _
/-- The number at the beginning of what is cut short. -/
theorem np4_cut (n : Nat) (P ys T : List Nat) (hn : n ≤ 65536) (h : ys ++ T = numB n 4 ++ P) : (nP 4 (ys, false)).1 ≤ 65536 := by
  by_cases h4 : 4 ≤ ys.length
  · have : ys = numB n 4 ++ ys.drop 4 := by
      have h5 : ys.take 4 = numB n 4 := by
        have := congrArg (List.take 4) h
        rw [List.take_append_of_le_length h4, List.take_append_of_le_length (by rw [numB_len]; omega), List.take_of_length_le (l := numB n 4) (by rw [numB_len]; omega)] at this
        exact this
      rw [← h5, List.take_append_drop]
    rw [this, nP_num n 4 _ _ (by omega)]
    exact hn
  · have ho : overB ys ((4 : Nat) : Int) = true := decide_eq_true (by omega)
    unfold nP takeN
    dsimp only
    rw [ho]
    simp [ofB]

theorem bytes_small {x : SAct} (h1 : ∀ y ∈ x.key, y < 256) (h2 : ∀ y ∈ x.val, y < 256) : ∀ y ∈ x.bytes, y < 256 := by
  obtain ⟨k, key, val, n, ns, ka, va, na, kc, vc, nc⟩ := x
  unfold SAct.bytes actB
  dsimp only at h1 h2 ⊢
  have hz : ∀ ns : List Int, ∀ y ∈ numsB ns, y < 256 := fun ns y hy => by
    obtain ⟨n, _, hn⟩ := List.mem_flatMap.1 hy
    exact numB_lt _ _ y hn
  intro y hy
  simp only [List.mem_append] at hy
  rcases hy with ((((hy | hy) | hy) | hy) | hy) | hy
  · exact numB_lt _ _ y hy
  · split at hy
    · rcases List.mem_append.1 hy with h | h
      · exact numB_lt _ _ y h
      · exact h1 y h
    · simp at hy
  · split at hy
    · rcases List.mem_append.1 hy with h | h
      · exact numB_lt _ _ y h
      · exact h2 y h
    · simp at hy
  · split at hy
    · exact numB_lt _ _ y hy
    · simp at hy
  · split at hy
    · exact numB_lt _ _ y hy
    · simp at hy
  · exact hz ns y hy
theorem pack_small {l : List SAct} {w : World} (hg : ∀ x ∈ l, x.rgood w) : ∀ y ∈ (packOf l).1, y < 256 := by
  unfold packOf
  split
  · intro y hy
    rcases List.mem_append.1 hy with h | h
    · exact numB_lt _ _ y h
    · obtain ⟨x, hx, hy⟩ := List.mem_flatMap.1 h
      exact bytes_small (hg x hx).key (hg x hx).val y hy
  · intro y hy
    simp at hy

end Go.Proofs.Ytbjpjnkaaiajlaa
