/- A range over a function whose state lies in memory: the iterator may turn some blocks between two rounds. -/
import Derived.Test.YtbjpjnkaaiajlaaTouch
import Derived.RangeFuncNested
namespace Go.Proofs.Ytbjpjnkaaiajlaa
open Go Go.RowKit

/-- What speaks of no block that the iterator turns. -/
def Stable {β : Type} (SR : Nat → Prop) (J : β → World → Prop) : Prop := ∀ s A B, J s A → Touch SR A B → J s B

/-- An iterator's contract: what it yields, what it may turn on its way (SR), how it leaves its own state (S, Sp); Kp is what a round has to keep. -/
def SeqStopsR {α : Type} (F : Fence) (n : Nat) (P : Program) (g : Nat) (lb : Array Value) (encs : α → Array Value) (Kp : World → World → Prop) (SR : Nat → Prop) (S Sp : List α → World → Prop) (N : Nat) (w : World) : Prop :=
  ∀ (l : Nat) (J Jx : List α → World → Prop) (W : World), Below w.heap.size w W → Stable SR J → Stable SR Jx →
    (∀ pre x W1, J pre W1 → pre.length < N → YieldAt F (n - 1) P l (encs x) W1 fun e W' =>
      (e = .returned (.bool true) ∧ J (pre ++ [x]) W' ∧ Kp W1 W') ∨ (e = .returned (.bool false) ∧ Jx (pre ++ [x]) W' ∧ Kp W1 W')) →
    J [] W →
    CallsIn F n P g (#[.func (.yield l) #[] #[]] ++ lb) W fun e W' => (∃ v, e = .returned v) ∧ ((∃ xs, S xs W' ∧ J xs W') ∨ (∃ pre, Sp pre W' ∧ Jx pre W'))

/-- How a round's body may be left. -/
def postR {α : Type} (B : Nat) (Kp : World → World → Prop) (I : List α → World → Prop) (Ix : Code → List α → World → Prop) (xs : List α) (W : World) : Exit → Act → World → Prop
  | .normal, _, W' => KeepsFrom B W W' ∧ Kp W W' ∧ I xs W'
  | .ret, _, W' => KeepsFrom B W W' ∧ Kp W W' ∧ Ix .ret xs W'
  | .exit id, _, W' => KeepsFrom B W W' ∧ Kp W W' ∧ Ix (.exit id) xs W'
  | .goto t, _, W' => KeepsFrom B W W' ∧ Kp W W' ∧ Ix (.goto t) xs W'
  | .panic _, _, _ => False
  | .outgrown, _, _ => False

/-- The loop's own record. -/
def loopR (fn : FuncId) (tmps : Array Value) (ps : Array Tmp) (assign body : Code) (D : Nat) (st : LoopState) (pe : Option Code) : Loop :=
  { state := st, pending := pe, fn := fn, tmps := tmps, params := ps, assign := assign, body := body, defers := D }

/-- The two blocks of book-keeping of a loop that began in a heap of size D. -/
structure Books (fn : FuncId) (tmps : Array Value) (ps : Array Tmp) (assign body : Code) (D : Nat) (st : LoopState) (pe : Option Code) (W : World) : Prop where
  loop : W.heap[D + 1]? = some (.loop (loopR fn tmps ps assign body D st pe))
  late : W.heap[D]? = some (.deferred (some []))
section
variable {fn : FuncId} {tmps : Array Value} {ps : Array Tmp} {assign body : Code} {D : Nat} {st st' : LoopState} {pe pe' : Option Code} {W W' : World}
theorem Books.lt (h : Books fn tmps ps assign body D st pe W) : D + 1 < W.heap.size := (Array.getElem?_eq_some_iff.1 h.loop).1
theorem Books.keeps (h : Books fn tmps ps assign body D st pe W) (hk : KeepsFrom D W W') : Books fn tmps ps assign body D st pe W' := ⟨hk.same _ _ (by omega) h.loop rfl, hk.same _ _ (Nat.le_refl _) h.late rfl⟩
theorem Books.touch {SR : Nat → Prop} (h : Books fn tmps ps assign body D st pe W) (ht : Touch SR W W') (hs : ∀ j, SR j → j < D) : Books fn tmps ps assign body D st pe W' :=
  ⟨(ht.block _ h.lt (fun e => by have := hs _ e; omega)).trans h.loop, (ht.block _ (by have := h.lt; omega) (fun e => by have := hs _ e; omega)).trans h.late⟩
theorem Books.put (h : Books fn tmps ps assign body D st pe W) : Books fn tmps ps assign body D st' pe' (W.putObj (D + 1) (.loop (loopR fn tmps ps assign body D st' pe'))) :=
  ⟨World.putObj_heap_same h.lt, (World.putObj_heap_other (by omega)).trans h.late⟩
end

variable {F : Fence} {n : Nat} {P : Program}

theorem wpIn_rangeFunc_ownR {α : Type} {g : Operand} {ps : Array Tmp} {assign body : Code} {Q : Exit → Act → World → Prop} {a : Act} {w : World}
    (hro : F.round = none) (h1 : 1 ≤ n) {gf : Nat} {lb : Array Value} (hg : a.eval g = .func (.func gf) #[] lb) (hFg : F.fn gf) (eg : ∀ args w, (callFunc gf args).run P w = .ok (.enter gf args) w)
    {encs : α → Array Value} {Kp : World → World → Prop} {SR : Nat → Prop} {S Sp : List α → World → Prop} {N : Nat} {w0 : World} (hseq : SeqStopsR F (n - 1) P gf lb encs Kp SR S Sp N w0)
    (hKt : ∀ {A B C : World}, Kp A B → Kp B C → Kp A C) (hKb : ∀ (W : World) (l : Nat) (o o' : Obj), w.heap.size ≤ l → W.heap[l]? = some o → o.isCells = false → o.isWalk = false → Kp W (W.putObj l o')) (hb0 : Below w0.heap.size w0 w) (hps : ∀ x, (encs x).size = ps.size)
    (hSR : ∀ j, SR j → j < w.heap.size) (hS : ∀ xs, OwnFrom w.heap.size (fun (_ : Unit) W => S xs W)) (hSp : ∀ xs, OwnFrom w.heap.size (fun (_ : Unit) W => Sp xs W))
    (I : List α → World → Prop) (Ix : Code → List α → World → Prop) (hI : OwnFrom w.heap.size I) (hIx : ∀ c, OwnFrom w.heap.size (Ix c)) (hIs : Stable SR I) (hIxs : ∀ c, Stable SR (Ix c)) (h0 : I [] w) (Ax : α → Act → World → Prop) (hAx : ∀ x a', OwnFrom w.heap.size (fun (_ : Unit) W => Ax x a' W))
    (hassign : ∀ (l : Nat) (pre : List α) (x : α) (W : World) (K : Act → World → Prop), I pre W → (∀ a' W', KeepsFrom w.heap.size W W' → Kp W W' → I pre W' → Ax x a' W' → K a' W') →
      assign.wpIn (F.inRound l) (n - 1 - 1) P (Exit.then K (fun _ _ _ => False)) { tmps := (ps.zip (encs x)).foldl (fun t (p, v) => t.setIfInBounds p v) a.tmps, defers := [] } W)
    (hbody : ∀ (l : Nat) (pre : List α) (x : α) (a' : Act) (W : World), w.heap.size ≤ l → (∃ r, W.heap[l]? = some (.loop r)) → I pre W → Ax x a' W → pre.length < N → body.wpIn (F.inRound l) (n - 1 - 1) P (postR w.heap.size Kp I Ix (pre ++ [x]) W) a' W)
    (hdone : ∀ (D : Nat) (xs : List α) (W : World), w.heap.size ≤ D → S xs W → I xs W → W.heap[D]? = some (.deferred (some [])) → Q .normal { a with defers := { target := .collected D, args := #[] } :: a.defers } W)
    (hstop : ∀ (D : Nat) (c : Code) (pre : List α) (W : World), w.heap.size ≤ D → Sp pre W → Ix c pre W → W.heap[D]? = some (.deferred (some [])) → c.wpIn F n P Q { a with defers := { target := .collected D, args := #[] } :: a.defers } W) :
    (Code.rangeFunc g ps assign body).wpIn F n P Q a w := by
  refine wpIn_rangeFunc ?_
  intro fn hfn
  rw [hro]
  obtain ⟨W0, hW0⟩ : ∃ W0, (w.alloc (.deferred (some []))).alloc (.loop (loopR fn a.tmps ps assign body w.heap.size .ready none)) = W0 := ⟨_, rfl⟩
  have hB0 : Books fn a.tmps ps assign body w.heap.size .ready none W0 := by
    rw [← hW0]
    refine ⟨?_, (Below.heap_alloc _ _ _ (by simp)).trans (World.alloc_heap_new w _)⟩
    have := World.alloc_heap_new (w.alloc (.deferred (some []))) (.loop (loopR fn a.tmps ps assign body w.heap.size .ready none))
    rwa [World.size_alloc] at this
  have hI0 : I [] W0 := by rw [← hW0]; exact hI.alloc _ (hI.alloc _ h0)
  have hb1 : Below w0.heap.size w0 W0 := by
    rw [← hW0]
    exact hb0.trans ((((Below.refl _ w).alloc (Nat.le_refl _) _).alloc (by simp) _).mono hb0.size)
  refine ⟨w.heap.size + 1, [{ target := .collected w.heap.size, args := #[] }], W0, { target := .fn (.func gf) lb, args := #[.func (.yield (w.heap.size + 1)) #[] #[]] }, W0, gf,
    #[.func (.yield (w.heap.size + 1)) #[] #[]] ++ lb, W0, by rw [← hW0]; exact run_enterLoop_outer _ _ _ _ _, by simp only [resolve, hg]; simp [go_sem], fun f' hf' => by simp [Target.leads] at hf'; subst hf'; exact hFg, by simp [invoke, go_sem, eg], fun _ => h1, ?_⟩
  have hcall := hseq (w.heap.size + 1) (fun pre W => I pre W ∧ Books fn a.tmps ps assign body w.heap.size .ready none W)
    (fun pre W => ∃ c, Ix c pre W ∧ Books fn a.tmps ps assign body w.heap.size .done (some c) W) W0 hb1
    (fun s A B h ht => ⟨hIs s A B h.1 ht, h.2.touch ht hSR⟩)
    (fun s A B h ht => by obtain ⟨c, h1, h2⟩ := h; exact ⟨c, hIxs c s A B h1 ht, h2.touch ht hSR⟩) ?_ ⟨hI0, hB0⟩
  · refine hcall.mono ?_
    rintro e W2 ⟨⟨v, rfl⟩, hend⟩
    rcases hend with ⟨xs, h2, h3, h4⟩ | ⟨pre, h2, c, h3, h4⟩
    · have hrun := run_endLoop (P := P) h4.loop (by simp [loopR])
      exact ⟨none, _, hrun, hdone _ xs _ (Nat.le_refl _) ((hS xs).putObj (s := ()) _ h2 (by omega) h4.loop rfl) (hI.putObj _ h3 (by omega) h4.loop rfl) ((World.putObj_heap_other (by omega)).trans h4.late)⟩
    · have hrun := run_endLoop (P := P) h4.loop (by simp [loopR])
      exact ⟨some c, _, hrun, hstop _ c pre _ (Nat.le_refl _) ((hSp pre).putObj (s := ()) _ h2 (by omega) h4.loop rfl) ((hIx c).putObj _ h3 (by omega) h4.loop rfl) ((World.putObj_heap_other (by omega)).trans h4.late)⟩
  · rintro pre x W ⟨hi, hbk⟩ hlen
    refine ⟨fn, _, assign, body, run_yield (P := P) (args := encs x) hbk.loop (by exact hps x), roundIn_of_wpIn hfn (hassign _ pre x W _ hi ?_)⟩
    intro a' Wa hka hpa hia hax
    have hba := hbk.keeps hka
    refine ⟨_, run_beginRound hba.loop rfl, ?_⟩
    have hb2 : Books fn a.tmps ps assign body w.heap.size .busy none (Wa.putObj (w.heap.size + 1) (.loop (loopR fn a.tmps ps assign body w.heap.size .busy none))) := hba.put
    have hp2 : Kp Wa (Wa.putObj (w.heap.size + 1) (.loop (loopR fn a.tmps ps assign body w.heap.size .busy none))) := hKb _ _ _ _ (by omega) hba.loop rfl rfl
    refine wpIn_mono (hbody _ pre x a' _ (by omega) ⟨_, hb2.loop⟩ (hI.putObj _ hia (by omega) hba.loop rfl) ((hAx x a').putObj (s := ()) _ hax (by omega) hba.loop rfl) hlen) ?_
    have hfin : ∀ (jump : Option Code) (W3 : World), Books fn a.tmps ps assign body w.heap.size .busy none W3 →
        (Instr.endRound (w.heap.size + 1) jump).run P W3 = .ok (.bool jump.isNone) (W3.putObj (w.heap.size + 1) (.loop (loopR fn a.tmps ps assign body w.heap.size (if jump.isNone then .ready else .done) jump))) :=
      fun jump W3 h3 => run_endRound (P := P) jump h3.loop
    have hkp : ∀ (jump : Option Code) (st : LoopState) (W3 : World), Books fn a.tmps ps assign body w.heap.size .busy none W3 → Kp (Wa.putObj (w.heap.size + 1) (.loop (loopR fn a.tmps ps assign body w.heap.size .busy none))) W3 → Kp W (W3.putObj (w.heap.size + 1) (.loop (loopR fn a.tmps ps assign body w.heap.size st jump))) :=
      fun jump st W3 h3 hk3 => hKt hpa (hKt (hKt hp2 hk3) (hKb _ _ _ _ (by omega) h3.loop rfl rfl))
    have hout : ∀ (c : Code) (W3 : World), KeepsFrom w.heap.size (Wa.putObj (w.heap.size + 1) (.loop (loopR fn a.tmps ps assign body w.heap.size .busy none))) W3 → Kp (Wa.putObj (w.heap.size + 1) (.loop (loopR fn a.tmps ps assign body w.heap.size .busy none))) W3 → Ix c (pre ++ [x]) W3 →
        (Ix c (pre ++ [x]) (W3.putObj (w.heap.size + 1) (.loop (loopR fn a.tmps ps assign body w.heap.size .done (some c)))) ∧ Books fn a.tmps ps assign body w.heap.size .done (some c) (W3.putObj (w.heap.size + 1) (.loop (loopR fn a.tmps ps assign body w.heap.size .done (some c))))) ∧ Kp W (W3.putObj (w.heap.size + 1) (.loop (loopR fn a.tmps ps assign body w.heap.size .done (some c)))) :=
      fun c W3 hk3 hp3 hi3 => ⟨⟨(hIx c).putObj _ hi3 (by omega) (hb2.keeps hk3).loop rfl, (hb2.keeps hk3).put⟩, hkp (some c) .done W3 (hb2.keeps hk3) hp3⟩
    rintro e a3 W3 hp
    cases e with
    | normal =>
      obtain ⟨hk3, hp3, hi3⟩ := hp
      have hb3 := hb2.keeps hk3
      exact ⟨_, _, hfin none W3 hb3, .inl ⟨rfl, ⟨hI.putObj _ hi3 (by omega) hb3.loop rfl, hb3.put⟩, hkp none .ready W3 hb3 hp3⟩⟩
    | ret =>
      obtain ⟨hk3, hp3, hi3⟩ := hp
      obtain ⟨h4, h5⟩ := hout .ret W3 hk3 hp3 hi3
      exact ⟨_, _, hfin (some .ret) W3 (hb2.keeps hk3), .inr ⟨rfl, ⟨.ret, h4⟩, h5⟩⟩
    | exit id =>
      obtain ⟨hk3, hp3, hi3⟩ := hp
      obtain ⟨h4, h5⟩ := hout (.exit id) W3 hk3 hp3 hi3
      exact ⟨_, _, hfin (some (.exit id)) W3 (hb2.keeps hk3), .inr ⟨rfl, ⟨.exit id, h4⟩, h5⟩⟩
    | goto t =>
      obtain ⟨hk3, hp3, hi3⟩ := hp
      obtain ⟨h4, h5⟩ := hout (.goto t) W3 hk3 hp3 hi3
      exact ⟨_, _, hfin (some (.goto t)) W3 (hb2.keeps hk3), .inr ⟨rfl, ⟨.goto t, h4⟩, h5⟩⟩
    | panic ch => exact hp.elim
    | outgrown => exact hp.elim

/-- The same, where the assign code leaves the world alone. -/
theorem wpIn_rangeFunc_ownRG {α : Type} {g : Operand} {ps : Array Tmp} {assign body : Code} {Q : Exit → Act → World → Prop} {a : Act} {w : World}
    (hro : F.round = none) (h1 : 1 ≤ n) {gf : Nat} {lb : Array Value} (hg : a.eval g = .func (.func gf) #[] lb) (hFg : F.fn gf) (eg : ∀ args w, (callFunc gf args).run P w = .ok (.enter gf args) w)
    {encs : α → Array Value} {Kp : World → World → Prop} {SR : Nat → Prop} {S Sp : List α → World → Prop} {N : Nat} {w0 : World} (hseq : SeqStopsR F (n - 1) P gf lb encs Kp SR S Sp N w0)
    (hKt : ∀ {A B C : World}, Kp A B → Kp B C → Kp A C) (hKr : ∀ W, Kp W W) (hKb : ∀ (W : World) (l : Nat) (o o' : Obj), w.heap.size ≤ l → W.heap[l]? = some o → o.isCells = false → o.isWalk = false → Kp W (W.putObj l o')) (hb0 : Below w0.heap.size w0 w) (hps : ∀ x, (encs x).size = ps.size)
    (hSR : ∀ j, SR j → j < w.heap.size) (hS : ∀ xs, OwnFrom w.heap.size (fun (_ : Unit) W => S xs W)) (hSp : ∀ xs, OwnFrom w.heap.size (fun (_ : Unit) W => Sp xs W))
    (I : List α → World → Prop) (Ix : Code → List α → World → Prop) (hI : OwnFrom w.heap.size I) (hIx : ∀ c, OwnFrom w.heap.size (Ix c)) (hIs : Stable SR I) (hIxs : ∀ c, Stable SR (Ix c)) (h0 : I [] w) (a₁ : α → Act)
    (hassign : ∀ (l : Nat) (x : α) (W : World) (K : Act → World → Prop), K (a₁ x) W →
      assign.wpIn (F.inRound l) (n - 1 - 1) P (Exit.then K (fun _ _ _ => False)) { tmps := (ps.zip (encs x)).foldl (fun t (p, v) => t.setIfInBounds p v) a.tmps, defers := [] } W)
    (hbody : ∀ (l : Nat) (pre : List α) (x : α) (W : World), I pre W → pre.length < N → body.wpIn (F.inRound l) (n - 1 - 1) P (postR w.heap.size Kp I Ix (pre ++ [x]) W) (a₁ x) W)
    (hdone : ∀ (D : Nat) (xs : List α) (W : World), w.heap.size ≤ D → S xs W → I xs W → W.heap[D]? = some (.deferred (some [])) → Q .normal { a with defers := { target := .collected D, args := #[] } :: a.defers } W)
    (hstop : ∀ (D : Nat) (c : Code) (pre : List α) (W : World), w.heap.size ≤ D → Sp pre W → Ix c pre W → W.heap[D]? = some (.deferred (some [])) → c.wpIn F n P Q { a with defers := { target := .collected D, args := #[] } :: a.defers } W) :
    (Code.rangeFunc g ps assign body).wpIn F n P Q a w :=
  wpIn_rangeFunc_ownR hro h1 hg hFg eg hseq hKt hKb hb0 hps hSR hS hSp I Ix hI hIx hIs hIxs h0 (fun x a' _ => a' = a₁ x) (fun _ _ => ownFrom_pure _ (fun _ => _))
    (fun l _ x W K hi hK => hassign l x W K (hK _ W (KeepsFrom.refl _ _) (hKr W) hi rfl))
    (fun l pre x a' W _ _ hi ha hlt => by cases ha; exact hbody l pre x W hi hlt) hdone hstop

end Go.Proofs.Ytbjpjnkaaiajlaa
