/- package script: the iterator of acts as a contract of a range over a function. -/
import Derived.Test.YtbjpjnkaaiajlaaScAc
import Derived.Test.YtbjpjnkaaiajlaaIter
namespace Go.Proofs.Ytbjpjnkaaiajlaa
open Go.RowKit Go.Shelf

theorem cell_isCells {w : World} {p : Addr} {u : Value} {o : Obj} (hc : w.cell? p = some u) (ho : w.heap[p.block]? = some o) : o.isCells = true := by
  unfold World.cell? at hc
  rw [ho] at hc
  cases o <;> simp_all [Obj.isCells]
theorem rr_own {R : Nat} {v : Value} {xs : List Nat} {bad : Bool} {B : Nat} : OwnFrom B (fun (_ : Unit) W => RR W R v xs bad) := fun _ W W' row hs hg hr => by
  have hb : ∀ (p : Addr) (u : Value), W.cell? p = some u → W'.heap[p.block]? = W.heap[p.block]? := fun p u hc => by
    refine hg.block _ (World.block_lt_of_cell? W p hc) (fun e => ?_)
    obtain ⟨_, o, ho, hn⟩ := hr _ e.symm
    rw [cell_isCells hc ho] at hn
    cases hn
  refine ⟨hs.blk.same (hb ⟨R, 0, none⟩ _ (hs.blk.cell (j := 0) rfl)), hs.rds.same (fun hne b hob hlt => ?_), hs.apart, hs.cap, hs.few, hs.spot, hs.small⟩
  have hlen : 0 < xs.length := by
    cases xs with
    | nil => exact absurd rfl hne
    | cons x xs => simp
  obtain ⟨a1, c1, rfl⟩ := hs.slice
  obtain ⟨b', o', rfl, hc⟩ := hs.rds.at' hlen
  simp [Value.ownBlock] at hob
  subst hob
  exact hb ⟨b', o' + 0, none⟩ _ (hc 0 _ (bytesV_get xs 0 hlen))
/-- Where only what is no cells is turned, all rows are kept. -/
theorem keepT_own {W W' : World} {row : Option Nat} (hg : W.grownBy W' row) (hr : ∀ r, row = some r → ∃ o : Obj, W.heap[r]? = some o ∧ o.isCells = false) : KeepT W W' := fun k cs T fz hk _ => hg.block k (Array.getElem?_eq_some_iff.1 hk).1 (fun e => by
  obtain ⟨o, ho, hn⟩ := hr k e.symm
  rw [hk] at ho
  cases ho
  simp [Obj.isCells] at hn)
theorem blk_own {W W' : World} {row : Option Nat} {a : Nat} {e : TypeId} {vs : List Value} (h : Blk W a e vs) (hg : W.grownBy W' row) (hr : ∀ r, row = some r → ∃ o : Obj, W.heap[r]? = some o ∧ o.isCells = false) : Blk W' a e vs := h.same (hg.block a h.lt (fun e' => by
  obtain ⟨o, ho, hn⟩ := hr a e'.symm
  unfold Blk at h
  rw [h] at ho
  cases ho
  simp [Obj.isCells] at hn))
theorem actsS_own {R m B : Nat} {p : PS} (xs : List SAct) : OwnFrom B (fun (_ : Unit) W => ActsS R p m xs W) := fun s W W' row hs hg hr => by
  obtain ⟨i, v, q, h1, h2, h3, h4, h5, h6⟩ := hs
  exact ⟨i, v, q, h1, h2, h3, h4, rr_own s W W' row h5 hg hr, fun x hx => (h6 x hx).keepT (keepT_own hg (fun r e => (hr r e).2))⟩

theorem acts1_stops (n rc nc n₀ R m : Nat) (S : Nat → Prop) (p : PS) (hn : 2 ≤ n) (w : World) (hr0 : rc < n₀ ∧ ¬ S rc) (hk0 : nc < n₀ ∧ ¬ S nc) (hR0 : R < n₀ ∧ ¬ S R) (hne : rc ≠ R ∧ nc ≠ R) (hn₀ : n₀ ≤ w.heap.size)
    (hRC : w.cell? ⟨rc, 0, none⟩ = some (.pointer (some ⟨R, 0, none⟩))) (hNC : w.cell? ⟨nc, 0, none⟩ = some (.int .i64 (m : Nat))) (v : Value) (hr : RR w R v p.1 p.2) (hv : p.1 ≠ [] → ∀ b, v.ownBlock = some b → b < n₀ ∧ ¬ S b) (hm : m ≤ 65536) :
    SeqStopsR Fence.wide n Try.prog 42 #[.pointer (some ⟨nc, 0, none⟩), .pointer (some ⟨rc, 0, none⟩)] (fun x : SAct => #[.agg x.cells.toArray]) (fun A B => KeptS n₀ S A B ∧ KeepT A B) (fun j => j = R)
      (ActsS R p m) (fun _ _ => True) 1048576 w := fun l J Jx W hW hJ _ hY h0 => by
  have hW' : KeptS n₀ S w W := keptS_of_below (hW.mono hn₀)
  have c1 := (hW'.cell (p := ⟨rc, 0, none⟩) hr0.1 hr0.2).trans hRC
  have c2 := (hW'.cell (p := ⟨nc, 0, none⟩) hk0.1 hk0.2).trans hNC
  have hr' := hr.keptS hW' hR0 hv
  refine (acts1_in n l rc nc n₀ R m S p hn J Jx hr0 hk0 hR0 hne hY hJ W (Nat.le_trans hn₀ hW'.1) c1 c2 v hr' hv hm h0).mono ?_
  rintro e W' ⟨he, ⟨xs, h1, h2⟩ | ⟨pre, h3⟩⟩
  · exact ⟨he, .inl ⟨xs, h1, h2⟩⟩
  · exact ⟨he, .inr ⟨pre, trivial, h3⟩⟩

/-- Under way: what was collected. -/
structure NA (w : World) (O N1 : Nat) (pre : List SAct) (W : World) : Prop where
  row : ∃ v, Boxed W O 28 v ∧ W.ownsRow N1 35 5 v pre.length (sactsV pre) ∧ True
  grown : w.grownBy W none
  size : N1 ≤ W.heap.size
theorem na_own {w : World} {O N1 : Nat} (hN : w.heap.size ≤ N1) : OwnFrom N1 (fun pre W => NA w O N1 pre W) := fun pre W W' row hs hg hr =>
  ⟨(holdsRow_own N1 O 28 35 5 (fun pre : List SAct => pre.length) (fun pre => sactsV pre) (fun _ _ => True)) pre W W' row hs.row hg (fun r e => (hr r e).2),
   Touch.grown (S := fun j => N1 ≤ j) hs.grown (Touch.of hg (fun j e => (hr j e).1)) (fun j hj => by omega), Nat.le_trans hs.size hg.size⟩
theorem na_stable {w : World} {O N1 R : Nat} (hO : O ≠ R) (hN : R < N1) (hR : w.heap.size ≤ R) : Stable (fun j => j = R) (fun pre W => NA w O N1 pre W) := fun pre A B hs ht => by
  obtain ⟨v, hb, hro, _⟩ := hs.row
  refine ⟨⟨v, ?_, ht.owns hro (fun b hb e => by have := (hro.lt b hb).1; omega), trivial⟩, Touch.grown hs.grown ht (fun j e => by subst e; exact hR), Nat.le_trans hs.size ht.size⟩
  have hlt : O < A.heap.size := by
    have := hb.cell
    exact World.block_lt_of_cell? A ⟨O, 0, none⟩ this
  exact (ht.block O hlt hO).trans hb

end Go.Proofs.Ytbjpjnkaaiajlaa
