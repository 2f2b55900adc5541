/- The plain law of scripts: what is packed is read back; what is read is what is packed. -/
import Derived.Test.YtbjpjnkaaiajlaaScUn
namespace Go.Proofs.Ytbjpjnkaaiajlaa
open Go.RowKit

def wI (n : Int) : Int := sI (uI n)
theorem wI_in (n : Int) (h : -9223372036854775808 ≤ n ∧ n ≤ 9223372036854775807) : wI n = n := by
  unfold wI sI uI wrap64
  omega
theorem uI_sI (n : Nat) (h : n < 18446744073709551616) : uI (sI n) = n := by
  unfold uI sI wrap64
  omega
theorem nP_app (k : Nat) (l t : List Nat) (b : Bool) (h : l.length = k) : nP k (l ++ t, b) = (ofB l, (t, b)) := by
  subst h
  have ho : overB (l ++ t) (l.length : Int) = false := decide_eq_false (by rw [List.length_append]; omega)
  have h1 : takeN (l ++ t) (l.length : Int) = l := by unfold takeN; rw [ho]; simp
  have h2 : leftN (l ++ t) (l.length : Int) = t := by unfold leftN; rw [ho]; simp
  have h3 : badN (l ++ t) b (l.length : Int) = b := by unfold badN; rw [ho]; simp
  unfold nP
  dsimp only
  rw [h1, h2, h3]
theorem nP_num (n k : Nat) (t : List Nat) (b : Bool) (hn : n < 256 ^ k) : nP k (numB n k ++ t, b) = (n, (t, b)) := by
  rw [nP_app k (numB n k) t b (numB_len n k), ofB_numB, Nat.mod_eq_of_lt hn]
theorem tP_app (key t : List Nat) (b : Bool) (h : key.length ≤ 65535) : tP (numB key.length 2 ++ (key ++ t), b) = (key, (t, b)) := by
  have h1 := nP_num key.length 2 (key ++ t) b (by omega)
  have h2 := nP_app key.length key t b rfl
  unfold nP at h1 h2
  dsimp only at h1 h2
  simp only [Prod.mk.injEq] at h1 h2
  obtain ⟨a1, a2, a3⟩ := h1
  obtain ⟨b1, b2, b3⟩ := h2
  have hT : textL (numB key.length 2 ++ (key ++ t)) = (key.length : Int) := by
    unfold textL
    have : ((2 : Nat) : Int) = 2 := rfl
    rw [this] at a1
    rw [a1]
  have e2 : leftN (numB key.length 2 ++ (key ++ t)) 2 = key ++ t := a2
  have e3 : badN (numB key.length 2 ++ (key ++ t)) b 2 = b := a3
  have hk : takeN (key ++ t) (key.length : Int) = key := by
    have ho : overB (key ++ t) (key.length : Int) = false := decide_eq_false (by rw [List.length_append]; omega)
    unfold takeN; rw [ho]; simp
  unfold tP
  dsimp only
  rw [hT, e2, e3, hk, b2, b3]
theorem nsP_app (ns : List Int) (t : List Nat) : ∀ c, c ≤ ns.length → nsP c (numsB ns ++ t, false) = ((ns.take c).map wI, (numsB (ns.drop c) ++ t, false))
  | 0, _ => by simp [nsP]
  | c + 1, h => by
    have ih := nsP_app ns t c (by omega)
    have hc : c < ns.length := by omega
    have hd : numsB (ns.drop c) = numB (uI (ns.getD c 0)) 8 ++ numsB (ns.drop (c + 1)) := by
      rw [List.drop_eq_getElem_cons hc]
      have : ns.getD c 0 = ns[c] := by simp [List.getD, hc]
      rw [this]
      rfl
    rw [nsP, ih]
    dsimp only
    rw [hd, List.append_assoc, nP_num _ 8 _ _ (by have := uI_lt (ns.getD c 0); omega)]
    dsimp only
    rw [List.take_succ_eq_append_getElem hc, List.map_append]
    have : ns.getD c 0 = ns[c] := by simp [List.getD, hc]
    rw [this]
    rfl
/-- An act's data, its numbers as they are read. -/
def SAct.wdata (x : SAct) : SAct := ⟨x.k, x.key, x.val, wI x.n, x.ns.map wI, none, none, none, 0, 0, 0⟩
theorem read_bytes (x : SAct) (t : List Nat) (h : x.right = true) : readA (x.bytes ++ t, false) = (x.wdata, (t, false)) := by
  obtain ⟨k, key, val, n, ns, ka, va, na, kc, vc, nc⟩ := x
  unfold SAct.right rightB at h
  simp only [Bool.and_eq_true, decide_eq_true_eq, Bool.or_eq_true, Bool.not_eq_true'] at h
  obtain ⟨⟨⟨⟨⟨⟨⟨hk, h1⟩, h2⟩, h3⟩, h4⟩, h5⟩, h6⟩, h7⟩ := h
  obtain ⟨hk0, hk9⟩ := isK_iff.1 hk
  obtain ⟨kn, rfl⟩ := Int.eq_ofNat_of_zero_le hk0
  have huk : uI (kn : Int) = kn := by unfold uI; omega
  have hns100 : ns.length ≤ 100 := by rcases sort_of (kn : Int) with h | h | h | h | h | h <;> omega
  unfold SAct.bytes actB SAct.wdata
  dsimp only
  rw [huk]
  have hr1 : nP 1 (numB kn 1 ++ ((if (formX (kn : Int)).key = true then numB key.length 2 ++ key else []) ++ ((if (formX (kn : Int)).value = true then numB val.length 2 ++ val else []) ++ ((if (formX (kn : Int)).num = true then numB (uI n) 8 else []) ++ ((if (0 < (formX (kn : Int)).nums ∧ (formX (kn : Int)).just = false) then numB ns.length 1 else []) ++ (numsB ns ++ t))))), false) = (kn, _) := nP_num kn 1 _ false (by omega)
  simp only [List.append_assoc]
  unfold readA
  rw [hr1]
  dsimp only
  generalize formX (kn : Int) = f at *
  unfold readF
  dsimp only
  -- the key
  have hK : (if f.key = true then tP ((if f.key = true then numB key.length 2 ++ key else []) ++ ((if f.value = true then numB val.length 2 ++ val else []) ++ ((if f.num = true then numB (uI n) 8 else []) ++ ((if (0 < f.nums ∧ f.just = false) then numB ns.length 1 else []) ++ (numsB ns ++ t)))), false) else ([], ((if f.key = true then numB key.length 2 ++ key else []) ++ ((if f.value = true then numB val.length 2 ++ val else []) ++ ((if f.num = true then numB (uI n) 8 else []) ++ ((if (0 < f.nums ∧ f.just = false) then numB ns.length 1 else []) ++ (numsB ns ++ t)))), false))) = (key, ((if f.value = true then numB val.length 2 ++ val else []) ++ ((if f.num = true then numB (uI n) 8 else []) ++ ((if (0 < f.nums ∧ f.just = false) then numB ns.length 1 else []) ++ (numsB ns ++ t))), false)) := by
    by_cases hf : f.key = true
    · rw [if_pos hf, if_pos hf, List.append_assoc, tP_app key _ false h1]
    · rw [if_neg hf, if_neg hf, List.nil_append]
      have : key = [] := List.eq_nil_of_length_eq_zero (h5.resolve_left hf)
      rw [this]
  rw [hK]
  dsimp only
  have hV : (if f.value = true then tP ((if f.value = true then numB val.length 2 ++ val else []) ++ ((if f.num = true then numB (uI n) 8 else []) ++ ((if (0 < f.nums ∧ f.just = false) then numB ns.length 1 else []) ++ (numsB ns ++ t))), false) else ([], ((if f.value = true then numB val.length 2 ++ val else []) ++ ((if f.num = true then numB (uI n) 8 else []) ++ ((if (0 < f.nums ∧ f.just = false) then numB ns.length 1 else []) ++ (numsB ns ++ t))), false))) = (val, ((if f.num = true then numB (uI n) 8 else []) ++ ((if (0 < f.nums ∧ f.just = false) then numB ns.length 1 else []) ++ (numsB ns ++ t)), false)) := by
    by_cases hf : f.value = true
    · rw [if_pos hf, if_pos hf, List.append_assoc, tP_app val _ false h2]
    · rw [if_neg hf, if_neg hf, List.nil_append]
      have : val = [] := List.eq_nil_of_length_eq_zero (h6.resolve_left hf)
      rw [this]
  rw [hV]
  dsimp only
  have hN : (if f.num = true then (sI (nP 8 ((if f.num = true then numB (uI n) 8 else []) ++ ((if (0 < f.nums ∧ f.just = false) then numB ns.length 1 else []) ++ (numsB ns ++ t)), false)).1, (nP 8 ((if f.num = true then numB (uI n) 8 else []) ++ ((if (0 < f.nums ∧ f.just = false) then numB ns.length 1 else []) ++ (numsB ns ++ t)), false)).2) else ((0 : Int), ((if f.num = true then numB (uI n) 8 else []) ++ ((if (0 < f.nums ∧ f.just = false) then numB ns.length 1 else []) ++ (numsB ns ++ t)), false))) = (wI n, ((if (0 < f.nums ∧ f.just = false) then numB ns.length 1 else []) ++ (numsB ns ++ t), false)) := by
    by_cases hf : f.num = true
    · rw [if_pos hf, if_pos hf, nP_num _ 8 _ _ (by have := uI_lt n; omega)]
      rfl
    · rw [if_neg hf, if_neg hf, List.nil_append]
      have : n = 0 := h7.resolve_left hf
      rw [this, wI_in 0 (by omega)]
  rw [hN]
  dsimp only
  have hC : (if (0 < f.nums ∧ f.just = false) then nP 1 ((if (0 < f.nums ∧ f.just = false) then numB ns.length 1 else []) ++ (numsB ns ++ t), false) else (f.nums, ((if (0 < f.nums ∧ f.just = false) then numB ns.length 1 else []) ++ (numsB ns ++ t), false))) = (ns.length, (numsB ns ++ t, false)) := by
    by_cases hf : 0 < f.nums ∧ f.just = false
    · rw [if_pos hf, if_pos hf, nP_num _ 1 _ _ (by omega)]
    · rw [if_neg hf, if_neg hf, List.nil_append]
      have : f.nums = ns.length := by
        cases hj : f.just
        · have : ¬ 0 < f.nums := fun h => hf ⟨h, hj⟩
          omega
        · rcases h4 with h | h
          · rw [hj] at h; cases h
          · exact h.symm
      rw [this]
  rw [hC]
  dsimp only
  rw [nsP_app ns t ns.length (Nat.le_refl _), List.take_length, List.drop_length]
  rfl

/-- What was read, was there. -/
theorem nP_inv {k : Nat} {p : PS} (hs : ∀ y ∈ p.1, y < 256) (h : (nP k p).2.2 = false) : p.2 = false ∧ p.1 = numB (nP k p).1 k ++ (nP k p).2.1 := by
  obtain ⟨ys, b⟩ := p
  unfold nP badN at h
  dsimp only at h hs
  rw [Bool.or_eq_false_iff] at h
  obtain ⟨ho, hb⟩ := h
  have hle : k ≤ ys.length := by have := of_decide_eq_false ho; omega
  have h1 : takeN ys (k : Int) = ys.take k := by unfold takeN; rw [ho]; simp
  have h2 : leftN ys (k : Int) = ys.drop k := by unfold leftN; rw [ho]; simp
  refine ⟨hb, ?_⟩
  unfold nP
  dsimp only
  rw [h1, h2]
  have hl : (ys.take k).length = k := by rw [List.length_take]; omega
  have := numB_ofB (ys.take k) (fun x hx => hs x (List.mem_of_mem_take hx))
  rw [hl] at this
  rw [this, List.take_append_drop]
theorem left_small' {k : Nat} {p : PS} (hs : ∀ y ∈ p.1, y < 256) : ∀ y ∈ (nP k p).2.1, y < 256 := left_small p.1 _ hs
theorem tP_small {p : PS} (hs : ∀ y ∈ p.1, y < 256) : ∀ y ∈ (tP p).2.1, y < 256 := left_small _ _ (left_small p.1 _ hs)
theorem tP_inv {p : PS} (hs : ∀ y ∈ p.1, y < 256) (h : (tP p).2.2 = false) : p.2 = false ∧ p.1 = numB (tP p).1.length 2 ++ (tP p).1 ++ (tP p).2.1 := by
  have e : tP p = ((takeN (nP 2 p).2.1 ((nP 2 p).1 : Nat)), (nP (nP 2 p).1 (nP 2 p).2).2) := rfl
  have h1 : (nP (nP 2 p).1 (nP 2 p).2).2.2 = false := by rw [e] at h; exact h
  obtain ⟨a1, a2⟩ := nP_inv (left_small' hs) h1
  obtain ⟨b1, b2⟩ := nP_inv hs a1
  have ho : overB (nP 2 p).2.1 ((nP 2 p).1 : Nat) = false := by
    unfold nP badN at h1
    dsimp only at h1
    rw [Bool.or_eq_false_iff] at h1
    exact h1.1
  have hle : (nP 2 p).1 ≤ (nP 2 p).2.1.length := by have := of_decide_eq_false ho; omega
  have ht : takeN (nP 2 p).2.1 ((nP 2 p).1 : Nat) = (nP 2 p).2.1.take (nP 2 p).1 := by unfold takeN; rw [ho]; simp
  have hd : (nP (nP 2 p).1 (nP 2 p).2).2.1 = (nP 2 p).2.1.drop (nP 2 p).1 := by
    show leftN _ _ = _
    unfold leftN; rw [ho]; simp
  refine ⟨b1, ?_⟩
  rw [e]
  dsimp only
  rw [ht, hd, List.length_take, Nat.min_eq_left hle, List.append_assoc, List.take_append_drop]
  exact b2
theorem nsP_small {p : PS} (hs : ∀ y ∈ p.1, y < 256) : ∀ c, ∀ y ∈ (nsP c p).2.1, y < 256
  | 0 => hs
  | c + 1 => by rw [nsP]; exact left_small' (nsP_small hs c)
theorem nP_lt {k : Nat} {p : PS} (hk : k ≤ 8) (hs : ∀ y ∈ p.1, y < 256) : (nP k p).1 < 18446744073709551616 := by
  unfold nP
  refine Nat.lt_of_lt_of_le (ofB_lt _ (takeN_small p.1 _ hs)) ?_
  have h2 : (takeN p.1 (k : Int)).length ≤ k := by
    unfold takeN
    split
    · simp
    · rw [List.length_take]; simp; omega
  calc 256 ^ (takeN p.1 (k : Int)).length ≤ 256 ^ 8 := Nat.pow_le_pow_right (by omega) (by omega)
    _ = 18446744073709551616 := by decide
theorem nsP_inv {p : PS} (hs : ∀ y ∈ p.1, y < 256) : ∀ c, (nsP c p).2.2 = false → p.2 = false ∧ p.1 = numsB (nsP c p).1 ++ (nsP c p).2.1
  | 0, h => ⟨h, rfl⟩
  | c + 1, h => by
    rw [nsP] at h
    dsimp only at h
    obtain ⟨a1, a2⟩ := nP_inv (nsP_small hs c) h
    obtain ⟨b1, b2⟩ := nsP_inv hs c a1
    refine ⟨b1, ?_⟩
    rw [nsP]
    dsimp only
    have hn : numsB ((nsP c p).1 ++ [sI (nP 8 (nsP c p).2).1]) = numsB (nsP c p).1 ++ numB (nP 8 (nsP c p).2).1 8 := by
      unfold numsB
      rw [List.flatMap_append, List.flatMap_singleton, uI_sI _ (nP_lt (by omega) (nsP_small hs c))]
    rw [hn, List.append_assoc, ← a2]
    exact b2
theorem read_inv {p : PS} (hs : ∀ y ∈ p.1, y < 256) (h : (readA p).2.2 = false) : p.2 = false ∧ p.1 = (readA p).1.bytes ++ (readA p).2.1 := by
  obtain ⟨a, ha⟩ : ∃ a, nP 1 p = a := ⟨_, rfl⟩
  have hk := nP1_lt p hs
  have hs1 : ∀ y ∈ (nP 1 p).2.1, y < 256 := left_small' hs
  have hi1 := fun h => nP_inv (k := 1) (p := p) hs h
  unfold readA at h ⊢
  rw [ha] at h hk hs1 hi1 ⊢
  obtain ⟨kn, p1⟩ := a
  dsimp only at h hk hs1 hi1 ⊢
  have huk : uI (kn : Int) = kn := by unfold uI; omega
  unfold SAct.bytes actB
  dsimp only
  rw [huk]
  generalize formX (kn : Int) = f at *
  unfold readF at h ⊢
  dsimp only at h ⊢
  obtain ⟨b, hb⟩ : ∃ b, (if f.key = true then tP p1 else ([], p1)) = b := ⟨_, rfl⟩
  rw [hb] at h ⊢
  have hbS : ∀ y ∈ b.2.1, y < 256 := by rw [← hb]; split; · exact tP_small hs1
                                        · exact hs1
  have hbI : b.2.2 = false → p1.2 = false ∧ p1.1 = (if f.key = true then numB b.1.length 2 ++ b.1 else []) ++ b.2.1 := by
    rw [← hb]
    split
    · rename_i hf
      intro h
      exact tP_inv hs1 h
    · intro h
      exact ⟨h, rfl⟩
  obtain ⟨c, hc⟩ : ∃ c, (if f.value = true then tP b.2 else ([], b.2)) = c := ⟨_, rfl⟩
  rw [hc] at h ⊢
  have hcS : ∀ y ∈ c.2.1, y < 256 := by rw [← hc]; split; · exact tP_small hbS
                                        · exact hbS
  have hcI : c.2.2 = false → b.2.2 = false ∧ b.2.1 = (if f.value = true then numB c.1.length 2 ++ c.1 else []) ++ c.2.1 := by
    rw [← hc]
    split
    · intro h
      exact tP_inv hbS h
    · intro h
      exact ⟨h, rfl⟩
  obtain ⟨d, hd⟩ : ∃ d : Int × PS, (if f.num = true then (sI (nP 8 c.2).1, (nP 8 c.2).2) else (0, c.2)) = d := ⟨_, rfl⟩
  rw [hd] at h ⊢
  have hdS : ∀ y ∈ d.2.1, y < 256 := by rw [← hd]; split; · exact left_small' hcS
                                        · exact hcS
  have hdI : d.2.2 = false → c.2.2 = false ∧ c.2.1 = (if f.num = true then numB (uI d.1) 8 else []) ++ d.2.1 := by
    rw [← hd]
    split
    · intro h
      dsimp only at h ⊢
      rw [uI_sI _ (nP_lt (by omega) hcS)]
      exact nP_inv hcS h
    · intro h
      exact ⟨h, rfl⟩
  obtain ⟨m, hm⟩ : ∃ m : Nat × PS, (if 0 < f.nums ∧ f.just = false then nP 1 d.2 else (f.nums, d.2)) = m := ⟨_, rfl⟩
  rw [hm] at h ⊢
  have hmS : ∀ y ∈ m.2.1, y < 256 := by rw [← hm]; split; · exact left_small' hdS
                                        · exact hdS
  have hmI : m.2.2 = false → d.2.2 = false ∧ d.2.1 = (if (0 < f.nums ∧ f.just = false) then numB m.1 1 else []) ++ m.2.1 := by
    rw [← hm]
    split
    · intro h
      exact nP_inv hdS h
    · intro h
      exact ⟨h, rfl⟩
  obtain ⟨e1, e2⟩ := nsP_inv hmS m.1 h
  obtain ⟨m1, m2⟩ := hmI e1
  obtain ⟨d1, d2⟩ := hdI m1
  obtain ⟨c1, c2⟩ := hcI d1
  obtain ⟨b1, b2⟩ := hbI c1
  obtain ⟨a1, a2⟩ := hi1 b1
  refine ⟨a1, ?_⟩
  rw [nsP_len]
  rw [a2, b2, c2, d2, m2, e2]
  simp only [List.append_assoc]

end Go.Proofs.Ytbjpjnkaaiajlaa
