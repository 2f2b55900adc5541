/- Small facts on memory: a block known whole, a slice of ints that is read. -/
import Derived.WalkKit
import Derived.Deep.QuietTactic
import Derived.Lib.Hide
import Derived.Laws.AppendOwnNone
import Derived.Maps.AppendAt
namespace Go.Proofs.Ytddpjfmogjcimaa
open Go.RowKit

/-- Block a is a row of cells of element type e that hold vs; none is frozen. -/
def Blk (w : World) (a : Nat) (e : TypeId) (vs : List Value) : Prop := w.heap[a]? = some (.cells vs.toArray e (0, 0))

theorem Blk.lt {w : World} {a : Nat} {e : TypeId} {vs : List Value} (h : Blk w a e vs) : a < w.heap.size := (Array.getElem?_eq_some_iff.1 h).1
theorem Blk.cell? {w : World} {a : Nat} {e : TypeId} {vs : List Value} (h : Blk w a e vs) (j : Nat) : w.cell? ⟨a, j, none⟩ = vs[j]? := by
  unfold Blk at h
  simp [World.cell?, h]
theorem Blk.frozen {w : World} {a : Nat} {e : TypeId} {vs : List Value} (h : Blk w a e vs) (j : Nat) : w.frozen? ⟨a, j, none⟩ = false := by
  unfold Blk at h
  simp [World.frozen?, h]
theorem Blk.cell {w : World} {a : Nat} {e : TypeId} {vs : List Value} (h : Blk w a e vs) {j : Nat} {v : Value} (hj : vs[j]? = some v) : w.cell? ⟨a, j, none⟩ = some v := by rw [h.cell?, hj]
theorem Blk.same {w w' : World} {a : Nat} {e : TypeId} {vs : List Value} (h : Blk w a e vs) (hb : w'.heap[a]? = w.heap[a]?) : Blk w' a e vs := by
  unfold Blk at *
  rw [hb, h]
theorem Blk.new (w : World) (e : TypeId) (vs : List Value) : Blk (w.alloc (.cells vs.toArray e)) w.heap.size e vs := by
  unfold Blk
  show (w.heap.push _)[w.heap.size]? = _
  simp
theorem Blk.alloc {w : World} {a : Nat} {e : TypeId} {vs : List Value} (h : Blk w a e vs) (o : Obj) : Blk (w.alloc o) a e vs :=
  h.same (Below.heap_alloc w o a h.lt)
theorem Blk.drewN {w : World} {a : Nat} {e : TypeId} {vs : List Value} (h : Blk w a e vs) (n : Nat) : Blk (w.drewN n) a e vs := h
theorem Blk.drew {w : World} {a : Nat} {e : TypeId} {vs : List Value} (h : Blk w a e vs) : Blk w.drew a e vs := h
theorem Blk.setCell_other {w : World} {a : Nat} {e : TypeId} {vs : List Value} (h : Blk w a e vs) {p : Addr} (hp : a ≠ p.block) (u : Value) : Blk (w.setCell p u) a e vs :=
  h.same (Below.heap_setCell w p u a hp)
theorem Blk.setCell {w : World} {a : Nat} {e : TypeId} {vs : List Value} (h : Blk w a e vs) (j : Nat) (u : Value) : Blk (w.setCell ⟨a, j, none⟩ u) a e (vs.set j u) := by
  unfold Blk at *
  simp [World.setCell, Array.getElem?_modify, h]
theorem Blk.grown {w w' : World} {a : Nat} {e : TypeId} {vs : List Value} {row : Option Nat} (h : Blk w a e vs) (hg : w.grownBy w' row) (hr : some a ≠ row) : Blk w' a e vs :=
  h.same (hg.block a h.lt hr)
theorem Blk.below {w w' : World} {a B : Nat} {e : TypeId} {vs : List Value} (h : Blk w a e vs) (hb : Below B w w') (ha : a < B) : Blk w' a e vs :=
  h.same (hb.block a ha)

/-- The slice value v of n elements (sz cells each) reads as the cells xs (nil: none). -/
def Rds (w : World) (sz : Nat) (v : Value) (n : Nat) (xs : List Value) : Prop :=
  xs.length = n * sz ∧ n ≤ maxLen ∧ ((v = .slice none 0 0 ∧ n = 0) ∨ ∃ ad cap, v = .slice (some ad) n cap ∧ (n ≠ 0 → ad.spot = none) ∧ ∀ j u, xs[j]? = some u → w.cell? ⟨ad.block, ad.off + j, none⟩ = some u)

theorem Rds.at {w : World} {sz n : Nat} {v : Value} {xs : List Value} (h : Rds w sz v n xs) (hn : 0 < n) : ∃ b off cap, v = .slice (some ⟨b, off, none⟩) n cap ∧ ∀ j u, xs[j]? = some u → w.cell? ⟨b, off + j, none⟩ = some u := by
  obtain ⟨_, _, h⟩ := h
  rcases h with ⟨_, h0⟩ | ⟨⟨b, off, sp⟩, cap, rfl, hs, hc⟩
  · omega
  · obtain rfl : sp = none := hs (by omega)
    exact ⟨b, off, cap, rfl, hc⟩

theorem Rds.slice {w : World} {sz n : Nat} {v : Value} {xs : List Value} (h : Rds w sz v n xs) : ∃ a c, v = .slice a n c := by
  obtain ⟨_, _, h⟩ := h
  rcases h with ⟨rfl, h⟩ | ⟨ad, cap, rfl, _⟩
  · exact ⟨none, 0, by rw [h]⟩
  · exact ⟨_, _, rfl⟩

theorem Rds.at' {w : World} {sz n c : Nat} {a : Option Addr} {xs : List Value} (h : Rds w sz (.slice a n c) n xs) (hn : 0 < n) : ∃ b off, a = some ⟨b, off, none⟩ ∧ ∀ j u, xs[j]? = some u → w.cell? ⟨b, off + j, none⟩ = some u := by
  obtain ⟨b, off, cap, hv, hc⟩ := h.at hn
  simp only [Value.slice.injEq] at hv
  exact ⟨b, off, hv.1, hc⟩

theorem Rds.same {w w' : World} {sz n : Nat} {v : Value} {xs : List Value} (h : Rds w sz v n xs) (hb : xs ≠ [] → ∀ b, v.ownBlock = some b → b < w.heap.size → w'.heap[b]? = w.heap[b]?) : Rds w' sz v n xs := by
  obtain ⟨hl, hm, h⟩ := h
  refine ⟨hl, hm, ?_⟩
  rcases h with h | ⟨ad, cap, hv, hs, hc⟩
  · exact .inl h
  · refine .inr ⟨ad, cap, hv, hs, fun j u hj => ?_⟩
    have h1 := hc j u hj
    have hlt : ad.block < w.heap.size := by
      by_cases hlt : ad.block < w.heap.size
      · exact hlt
      · simp [World.cell?, Array.getElem?_eq_none (Nat.le_of_not_lt hlt)] at h1
    rw [← h1]
    exact World.cell?_of_block (w := w) (a := ⟨ad.block, ad.off + j, none⟩) (hb (fun e => by simp [e] at hj) ad.block (by rw [hv]; rfl) hlt)

theorem Rds.lt {w : World} {sz n : Nat} {v : Value} {xs : List Value} (h : Rds w sz v n xs) (hne : xs ≠ []) : ∀ b, v.ownBlock = some b → b < w.heap.size := by
  intro b' hb'
  obtain ⟨hl, hm, h⟩ := h
  rcases h with ⟨rfl, h0⟩ | ⟨ad, cap, rfl, _, hc⟩
  · simp [Value.ownBlock] at hb'
  · simp [Value.ownBlock] at hb'
    subst hb'
    cases xs with
    | nil => exact absurd rfl hne
    | cons u us =>
      have h1 := hc 0 u rfl
      by_cases hlt : ad.block < w.heap.size
      · exact hlt
      · simp [World.cell?, Array.getElem?_eq_none (Nat.le_of_not_lt hlt)] at h1

theorem Rds.grown {w w' : World} {sz n : Nat} {v : Value} {xs : List Value} {row : Option Nat} (h : Rds w sz v n xs) (hg : w.grownBy w' row) (hr : ∀ b, row = some b → v.ownBlock ≠ some b) : Rds w' sz v n xs :=
  h.same fun _ b hb hlt => hg.block b hlt (fun e => hr b e.symm hb)
theorem Rds.alloc {w : World} {sz n : Nat} {v : Value} {xs : List Value} (h : Rds w sz v n xs) (o : Obj) : Rds (w.alloc o) sz v n xs :=
  h.same fun _ b _ hlt => Below.heap_alloc w o b hlt
theorem Rds.drewN {w : World} {sz n : Nat} {v : Value} {xs : List Value} (h : Rds w sz v n xs) (k : Nat) : Rds (w.drewN k) sz v n xs := h
theorem Rds.below {w w' : World} {B sz n : Nat} {v : Value} {xs : List Value} (h : Rds w sz v n xs) (hb : Below B w w') (hv : xs ≠ [] → ∀ b, v.ownBlock = some b → b < B) : Rds w' sz v n xs :=
  h.same fun hne b hvb _ => hb.block b (hv hne b hvb)
/-- What was read when a call began is read all through it. -/
theorem Rds.later {w w' : World} {sz n : Nat} {v : Value} {xs : List Value} (h : Rds w sz v n xs) (hb : Below w.heap.size w w') : Rds w' sz v n xs :=
  h.below hb h.lt

theorem Rds.nil (w : World) (sz : Nat) : Rds w sz (.slice none 0 0) 0 [] := ⟨by simp, by simp, .inl ⟨rfl, rfl⟩⟩

theorem Rds.of_owns {w : World} {base : Nat} {e : TypeId} {sz n : Nat} {v : Value} {xs : List Value} (h : w.ownsRow base e sz v n xs) : Rds w sz v n xs := by
  obtain ⟨hl, h⟩ := h
  rcases h with ⟨hv, h0⟩ | ⟨g, cap, cur, hv, _, hh, hnc, hcm, hcs, ht⟩
  · exact ⟨hl, by omega, .inl ⟨hv, h0⟩⟩
  · refine ⟨hl, by omega, .inr ⟨⟨g, 0, none⟩, cap, hv, fun _ => rfl, fun j u hj => ?_⟩⟩
    subst ht
    simp [World.cell?, hh]
    have hjn : j < n * sz := by
      have := (List.getElem?_eq_some_iff.1 hj).1
      rw [List.length_take] at this
      omega
    rw [List.getElem?_take_of_lt hjn] at hj
    simpa using hj

theorem Rds.of_blk {w : World} {a : Nat} {e : TypeId} {vs : List Value} (h : Blk w a e vs) {sz n : Nat} (hl : vs.length = n * sz) (hn : n ≤ maxLen) {c : Nat} : Rds w sz (.slice (some ⟨a, 0, none⟩) n c) n vs :=
  ⟨hl, hn, .inr ⟨⟨a, 0, none⟩, c, rfl, fun _ => rfl, fun j u hj => by simpa using h.cell hj⟩⟩

/-- 'append(s, x...)': s nil or the call's own; x whatever slice is read. -/
theorem wpList_append_rds {P : Program} {w : World} {ops : Array Oper} {rest : List Oper} {o : Oper} {a : Act} {Q : Exit → Act → World → Prop} (hgd : o.guard = none) (s x : Operand) (t : TypeId)
    (ho : o.op = .call { callee := .builtin .append, args := #[s, x], argTypes := #[t, t] })
    (base : Nat) (e : TypeId) (i : TypeInfo) (z : Value) (size bytes : Nat) (ht : P.underlying t = some (.slice e)) (hi : P.info? e = some i) (hz : i.zero = some z)
    (hsize : i.size = size) (hby : i.bytes = bytes) (hzs : z.cells.size = size) (hsz : 0 < size)
    {v : Value} {n : Nat} {xs : List Value} (hs : a.eval s = v) (hown : w.ownsRow base e size v n xs)
    {sv : Value} {m : Nat} {news : List Value} (hx : a.eval x = sv) (hr : Rds w size sv m news) (h1 : ∀ u ∈ news, u.oneCell' = true)
    (h63 : n + m ≤ maxLen) (hbytes : (n + m) * bytes ≤ 140737488355328) (hbase : base ≤ w.heap.size)
    (h : ∀ v' w', w'.ownsRow base e size v' (n + m) (xs ++ news) → w.grownBy w' v.ownBlock → (v' = .slice none 0 0 ↔ v = .slice none 0 0 ∧ m = 0) → wpList P ops Q rest (a.put o.dst v') w') : wpList P ops Q (o :: rest) a w := by
  obtain ⟨hl, hm, hr⟩ := hr
  rcases hr with ⟨rfl, rfl⟩ | ⟨⟨b, off, sp⟩, cap, rfl, hsp, hc⟩
  · have hn0 : news = [] := List.eq_nil_of_length_eq_zero (by simpa using hl)
    subst hn0
    refine wpList_append_own_none hgd s x t ho base e i size ht hi v n xs hs hown hx ?_
    exact h v w (by simpa using hown) ⟨rfl, rfl, rfl, Nat.le_refl _, fun _ _ _ => rfl⟩ (by simp)
  · exact wpList_append_own w hgd s x t ho base e i z size bytes ht hi hz hsize hby hzs hsz v n xs hs hown ⟨b, off, sp⟩ m cap news hx hl (fun j u hj => by
      have hm0 : m ≠ 0 := by
        rintro rfl
        have := (List.getElem?_eq_some_iff.1 hj).1
        omega
      obtain rfl : sp = none := hsp hm0
      have := hc j u hj
      unfold Addr.add
      split
      · subst_vars; simpa using this
      · exact this) h1 h63 hbytes hbase h

/-- The same; and where the new slice lies. -/
theorem wpList_append_rds_at {P : Program} {w : World} {ops : Array Oper} {rest : List Oper} {o : Oper} {a : Act} {Q : Exit → Act → World → Prop} (hgd : o.guard = none) (s x : Operand) (t : TypeId)
    (ho : o.op = .call { callee := .builtin .append, args := #[s, x], argTypes := #[t, t] })
    (base : Nat) (e : TypeId) (i : TypeInfo) (z : Value) (size bytes : Nat) (ht : P.underlying t = some (.slice e)) (hi : P.info? e = some i) (hz : i.zero = some z)
    (hsize : i.size = size) (hby : i.bytes = bytes) (hzs : z.cells.size = size) (hsz : 0 < size)
    {v : Value} {n : Nat} {xs : List Value} (hs : a.eval s = v) (hown : w.ownsRow base e size v n xs)
    {sv : Value} {m : Nat} {news : List Value} (hx : a.eval x = sv) (hr : Rds w size sv m news) (h1 : ∀ u ∈ news, u.oneCell' = true)
    (h63 : n + m ≤ maxLen) (hbytes : (n + m) * bytes ≤ 140737488355328) (hbase : base ≤ w.heap.size)
    (h : ∀ v' w', w'.ownsRow base e size v' (n + m) (xs ++ news) → w.grownBy w' v.ownBlock → (v'.ownBlock = v.ownBlock ∨ v'.ownBlock = some w.heap.size) → wpList P ops Q rest (a.put o.dst v') w') : wpList P ops Q (o :: rest) a w := by
  obtain ⟨hl, hm, hr⟩ := hr
  rcases hr with ⟨rfl, rfl⟩ | ⟨⟨b, off, sp⟩, cap, rfl, hsp, hc⟩
  · have hn0 : news = [] := List.eq_nil_of_length_eq_zero (by simpa using hl)
    subst hn0
    refine wpList_append_own_none hgd s x t ho base e i size ht hi v n xs hs hown hx ?_
    exact h v w (by simpa using hown) ⟨rfl, rfl, rfl, Nat.le_refl _, fun _ _ _ => rfl⟩ (.inl rfl)
  · exact wpList_append_own_at w hgd s x t ho base e i z size bytes ht hi hz hsize hby hzs hsz v n xs hs hown ⟨b, off, sp⟩ m cap news hx hl (fun j u hj => by
      have hm0 : m ≠ 0 := by
        rintro rfl
        have := (List.getElem?_eq_some_iff.1 hj).1
        omega
      obtain rfl : sp = none := hsp hm0
      have := hc j u hj
      unfold Addr.add
      split
      · subst_vars; simpa using this
      · exact this) h1 h63 hbytes hbase (fun v' w' q1 q2 _ q4 => h v' w' q1 q2 q4)

theorem ownsRow_mono {w : World} {base base' : Nat} {e : TypeId} {sz n : Nat} {v : Value} {xs : List Value} (h : w.ownsRow base e sz v n xs) (hb : base' ≤ base) : w.ownsRow base' e sz v n xs := by
  obtain ⟨hl, h⟩ := h
  refine ⟨hl, ?_⟩
  rcases h with h | ⟨g, cap, cur, hv, hg, h⟩
  · exact .inl h
  · exact .inr ⟨g, cap, cur, hv, by omega, h⟩

theorem grownBy_trans {a b c : World} {row : Option Nat} (h : a.grownBy b row) (k : b.grownBy c row) : a.grownBy c row :=
  ⟨k.os.trans h.os, k.tape.trans h.tape, k.output.trans h.output, Nat.le_trans h.size k.size, fun i hi hr => (k.block i (Nat.lt_of_lt_of_le hi h.size) hr).trans (h.block i hi hr)⟩
theorem grownBy_refl (a : World) (row : Option Nat) : a.grownBy a row := ⟨rfl, rfl, rfl, Nat.le_refl _, fun _ _ _ => rfl⟩
theorem grownBy_none {a b : World} (h : a.grownBy b none) (row : Option Nat) : a.grownBy b row := ⟨h.os, h.tape, h.output, h.size, fun i hi _ => h.block i hi (by simp)⟩
theorem grownBy_below {a b : World} (h : Below a.heap.size a b) : a.grownBy b none := ⟨h.os, h.tape, h.output, h.size, fun i hi _ => h.block i hi⟩
theorem below_grownBy {a b : World} (h : a.grownBy b none) : Below a.heap.size a b := ⟨h.os, h.tape, h.output, h.size, fun i hi => h.block i hi (by simp)⟩
theorem grownBy_drewN (a : World) (n : Nat) (row : Option Nat) : a.grownBy (a.drewN n) row := ⟨rfl, rfl, rfl, Nat.le_refl _, fun _ _ _ => rfl⟩
theorem grownBy_setCell (W : World) (p : Addr) (v : Value) : W.grownBy (W.setCell p v) (some p.block) :=
  ⟨rfl, rfl, rfl, by simp [World.setCell], fun k _ hk => Below.heap_setCell _ _ _ k (fun e => hk (by rw [e]))⟩

/-- What is appended to a new block goes to that block alone. -/
theorem grownBy_new {w w' : World} {o : Obj} (h : (w.alloc o).grownBy w' (some w.heap.size)) : w.grownBy w' none :=
  ⟨h.os, h.tape, h.output, Nat.le_trans (by simp) h.size, fun k hk _ => (h.block k (by simp; omega) (by simp; omega)).trans (Below.heap_alloc _ _ _ hk)⟩

theorem blk_setCells (a : Nat) (e : TypeId) : ∀ (us old pre post : List Value) (w : World), old.length = us.length → Blk w a e (pre ++ (old ++ post)) → Blk (w.setCells a pre.length us) a e (pre ++ (us ++ post))
  | [], [], pre, post, w, _, h => h
  | u :: us, o :: old, pre, post, w, hl, h => by
    have h1 := h.setCell pre.length u
    have h2 : (pre ++ (o :: old ++ post)).set pre.length u = (pre ++ [u]) ++ (old ++ post) := by simp
    rw [h2] at h1
    have h3 := blk_setCells a e us old (pre ++ [u]) post _ (by simpa using hl) h1
    simpa [World.setCells] using h3
theorem grownBy_setCells (a : Nat) : ∀ (us : List Value) (o : Nat) (w : World), w.grownBy (w.setCells a o us) (some a)
  | [], _, w => grownBy_refl w _
  | u :: us, o, w => grownBy_trans (grownBy_setCell w ⟨a, o, none⟩ u) (grownBy_setCells a us (o + 1) _)

theorem drewN_drewN (w : World) (n m : Nat) : (w.drewN n).drewN m = w.drewN (n + m) := by simp [World.drewN, Nat.add_assoc]

theorem ownsRow_pos {W : World} {base : Nat} {e : TypeId} {size : Nat} {v : Value} {k : Nat} {xs : List Value} (h : W.ownsRow base e size v k xs) (hk : 0 < k) : ∃ g cap, v = .slice (some ⟨g, 0, none⟩) k cap := by
  rcases h.2 with ⟨_, h0⟩ | ⟨g, cap, _, rfl, _⟩
  · omega
  · exact ⟨g, cap, rfl⟩

theorem grownBy_base {w w' w'' : World} {o : Obj} {g : Nat} (h : (w.alloc o).grownBy w' (some w.heap.size)) (h2 : w'.grownBy w'' (some g)) (hg : w.heap.size ≤ g) : w.grownBy w'' none :=
  ⟨h2.os.trans h.os, h2.tape.trans h.tape, h2.output.trans h.output, Nat.le_trans (grownBy_new h).size h2.size, fun k hk _ => (h2.block k (Nat.lt_of_lt_of_le hk (grownBy_new h).size) (by simp; omega)).trans ((grownBy_new h).block k hk (by simp))⟩

theorem grownBy_base2 {w w' w'' : World} {g : Nat} (h : w.grownBy w' none) (h2 : w'.grownBy w'' (some g)) (hg : w.heap.size ≤ g) : w.grownBy w'' none :=
  ⟨h2.os.trans h.os, h2.tape.trans h.tape, h2.output.trans h.output, Nat.le_trans h.size h2.size, fun k hk _ => (h2.block k (Nat.lt_of_lt_of_le hk h.size) (by simp; omega)).trans (h.block k hk (by simp))⟩

/-- What is appended to a row of the call's own turns nothing that was there when the call began. -/
theorem grownBy_own {w wr w1 : World} {base : Nat} {o : Obj} {e : TypeId} {sz n : Nat} {v : Value} {xs : List Value} (hg : w.grownBy wr none) (ho : wr.ownsRow base e sz v n xs) (hb : w.heap.size ≤ base) (h : (wr.alloc o).grownBy w1 v.ownBlock) : w.grownBy w1 none := by
  have hs := hg.size
  refine ⟨h.os.trans hg.os, h.tape.trans hg.tape, h.output.trans hg.output, Nat.le_trans hs (Nat.le_trans (by simp) h.size), fun k hk _ => ?_⟩
  rw [h.block k (by simp; omega) ?_, Below.heap_alloc _ _ _ (by omega), hg.block k hk (by simp)]
  intro e'
  have := (ho.lt k e'.symm).1
  omega

theorem owns_grown {w w' : World} {base : Nat} {e : TypeId} {sz n : Nat} {v : Value} {xs : List Value} (h : w.ownsRow base e sz v n xs) (hg : w.grownBy w' none) : w'.ownsRow base e sz v n xs := by
  refine h.kept hg ?_
  rcases hv : v.ownBlock with _ | g
  · exact .inl rfl
  · exact .inr (by simp)

theorem grownBy_own2 {w wr w1 : World} {base : Nat} {e : TypeId} {sz n : Nat} {v : Value} {xs : List Value} (hg : w.grownBy wr none) (ho : wr.ownsRow base e sz v n xs) (hb : w.heap.size ≤ base) (h : wr.grownBy w1 v.ownBlock) : w.grownBy w1 none := by
  have hs := hg.size
  refine ⟨h.os.trans hg.os, h.tape.trans hg.tape, h.output.trans hg.output, Nat.le_trans hs h.size, fun k hk _ => ?_⟩
  rw [h.block k (by omega) ?_, hg.block k hk (by simp)]
  intro e'
  have := (ho.lt k e'.symm).1
  omega

/-- Below the rows' base nothing is turned by an append to a row. -/
theorem cell_past {w w' : World} {v : Value} (base : Nat) (hg : w.grownBy w' v.ownBlock) (hrow : ∀ q, v.ownBlock = some q → base ≤ q) {p : Addr} {u : Value} (h : w.cell? p = some u) (hp : p.block < base) : w'.cell? p = some u :=
  hg.cell h (fun e => by have := hrow _ e.symm; omega)
theorem blk_past {w w' : World} {v : Value} (base : Nat) (hg : w.grownBy w' v.ownBlock) (hrow : ∀ q, v.ownBlock = some q → base ≤ q) {a : Nat} {e : TypeId} {vs : List Value} (h : Blk w a e vs) (ha : a < base) : Blk w' a e vs :=
  h.grown hg (fun e => by have := hrow _ e.symm; omega)
theorem owns_rows {w : World} {base : Nat} {e : TypeId} {sz n : Nat} {v : Value} {xs : List Value} (h : w.ownsRow base e sz v n xs) : ∀ q, v.ownBlock = some q → base ≤ q := fun q hq => (h.lt q hq).1

/-- A block of one's own, known whole, as a row. -/
theorem owns_of_blk {w : World} {g base : Nat} {e : TypeId} {sz n cap : Nat} {vs xs : List Value} (h : Blk w g e vs) (hb : base ≤ g) (hn : n ≤ cap) (hc : cap ≤ maxLen) (hs : vs.length = cap * sz) (ht : vs.take (n * sz) = xs) (hl : xs.length = n * sz) :
    w.ownsRow base e sz (.slice (some ⟨g, 0, none⟩) n cap) n xs :=
  ⟨hl, .inr ⟨g, cap, vs.toArray, rfl, hb, h, hn, hc, by simpa using hs, by simpa using ht⟩⟩

/-- A store to a block below the rows. -/
theorem owns_set {w : World} {base : Nat} {e : TypeId} {sz n : Nat} {v : Value} {xs : List Value} (h : w.ownsRow base e sz v n xs) (p : Addr) (u : Value) (hp : p.block < base) : (w.setCell p u).ownsRow base e sz v n xs := by
  refine h.kept (grownBy_setCell w p u) (.inr fun e' => ?_)
  have := (h.lt _ e').1
  omega
theorem rds_set' {w : World} {sz n : Nat} {v : Value} {xs : List Value} (h : Rds w sz v n xs) (p : Addr) (u : Value) (hp : xs ≠ [] → v.ownBlock ≠ some p.block) : Rds (w.setCell p u) sz v n xs :=
  h.same fun hne b hb _ => Below.heap_setCell w p u b (fun e => hp hne (by rw [← e]; exact hb))
theorem rds_set {w : World} {sz n : Nat} {v : Value} {xs : List Value} (h : Rds w sz v n xs) (p : Addr) (u : Value) (hp : v.ownBlock ≠ some p.block) : Rds (w.setCell p u) sz v n xs :=
  h.grown (grownBy_setCell w p u) (fun b hb hv => hp (by simp at hb; rw [hb]; exact hv))

end Go.Proofs.Ytddpjfmogjcimaa
