/- A row of entries in one block: append in place, copy, clear; append of made ones. -/
import Derived.Test.YtddpjfmogjcimaaEnt
import Derived.Deep.AppendSrc
import Derived.Lib.AppendZerosOnto
import Derived.Laws.IdiomCopy
import Derived.Lib.SliceRun
namespace Go.Proofs.Ytddpjfmogjcimaa
open Go Go.RowKit

/-- An append whose run is known, as one step. -/
theorem step_append_run {P : Program} {ops : Array Oper} {o : Oper} {a : Act} {w : World} {K : Act → World → Prop} {Q : Exit → Act → World → Prop} {E : Prop} (hw : Region.wanted o (yielded ops a.tmps) = true) (s x : Operand) (t tn : TypeId)
    (ho : o.op = .call { callee := .builtin .append, args := #[s, x], argTypes := #[t, tn] }) {v u : Value} (hs : a.eval s = v) (hx : a.eval x = u) {v' : Value} {w' : World}
    (hr : (Builtin.append_ #[t, tn] o.type #[v, u]).run P w = .ok v' w') (h : K (a.put o.dst v') w') : if Region.wanted o (yielded ops a.tmps) = true then Oper.wp P o a w K Q else E := by
  rw [if_pos hw]
  unfold Oper.wp execOp
  simp only [ho, resolve, invoke, builtin, Sem.run_bind, Sem.run_pure, Result.andThen_ok, List.map_toArray, List.map_cons, List.map_nil, hs, hx, hr]
  exact h
theorem step_copy_run {P : Program} {ops : Array Oper} {o : Oper} {a : Act} {w : World} {K : Act → World → Prop} {Q : Exit → Act → World → Prop} {E : Prop} (hw : Region.wanted o (yielded ops a.tmps) = true) (s x : Operand) (t tn : TypeId)
    (ho : o.op = .call { callee := .builtin .copy, args := #[s, x], argTypes := #[t, tn] }) {v u : Value} (hs : a.eval s = v) (hx : a.eval x = u) {v' : Value} {w' : World}
    (hr : (Builtin.copy_ #[t, tn] o.type #[v, u]).run P w = .ok v' w') (h : K (a.put o.dst v') w') : if Region.wanted o (yielded ops a.tmps) = true then Oper.wp P o a w K Q else E := by
  rw [if_pos hw]
  unfold Oper.wp execOp
  simp only [ho, resolve, invoke, builtin, Sem.run_bind, Sem.run_pure, Result.andThen_ok, List.map_toArray, List.map_cons, List.map_nil, hs, hx, hr]
  exact h
/-- A copy whose run is known, for the walk. -/
theorem wpList_copy_run {P : Program} (w : World) {ops : Array Oper} {rest : List Oper} {o : Oper} {a : Act} {Q : Exit → Act → World → Prop} (hgd : o.guard = none) (d s : Operand) (t t' : TypeId)
    (ho : o.op = .call { callee := .builtin .copy, args := #[d, s], argTypes := #[t, t'] }) {v u : Value} (hd : a.eval d = v) (hs : a.eval s = u) {v' : Value} {w' : World}
    (hr : (Builtin.copy_ #[t, t'] o.type #[v, u]).run P w = .ok v' w') (h : wpList P ops Q rest (a.put o.dst v') w') : wpList P ops Q (o :: rest) a w :=
  wpList_plain hgd fun _ hK => by
    unfold Oper.wp execOp
    simp only [ho, resolve, invoke, builtin, Sem.run_bind, Sem.run_pure, Result.andThen_ok, List.map_toArray, List.map_cons, List.map_nil, hd, hs, hr]
    exact hK _ _ h

theorem wpList_clear_run {P : Program} (w : World) {ops : Array Oper} {rest : List Oper} {o : Oper} {a : Act} {Q : Exit → Act → World → Prop} (hgd : o.guard = none) (s : Operand) (t : TypeId)
    (ho : o.op = .call { callee := .builtin .clear, args := #[s], argTypes := #[t] }) {v : Value} (hs : a.eval s = v) {v' : Value} {w' : World}
    (hr : (Builtin.clear_ #[t] o.type #[v]).run P w = .ok v' w') (h : wpList P ops Q rest (a.put o.dst v') w') : wpList P ops Q (o :: rest) a w :=
  wpList_plain hgd fun _ hK => by
    unfold Oper.wp execOp
    simp only [ho, resolve, invoke, builtin, Sem.run_bind, Sem.run_pure, Result.andThen_ok, List.map_toArray, List.map_cons, List.map_nil, hs, hr]
    exact hK _ _ h

abbrev tE : TypeId := 41
abbrev tS : TypeId := 27
def zeroE : List Value := [.int .u64 0, .int .i64 0, .int .i64 0, .int .i64 0]

theorem cell_some {w : World} {g : Nat} {cs : List Value} (hb : Blk w g tE cs) {j : Nat} (hj : j < cs.length) : (w.cell? ⟨g, j, none⟩).isSome = true := by
  rw [hb.cell?, List.getElem?_eq_getElem hj]
  rfl

/-- There is room: the row takes more behind its first ones. -/
theorem run_append_in (w : World) (ty : TypeId) (g i c m : Nat) (a : Addr) (c' : Nat) (cs news : List Value) (hb : Blk w g tE cs) (hl : cs.length = c * 4) (hroom : i + m ≤ c) (hnl : news.length = m * 4) (hn : ∀ j u, news[j]? = some u → w.cell? (a.add j) = some u) (h1 : ∀ u ∈ news, u.oneCell' = true) :
    (Builtin.append_ #[tS, tS] ty #[.slice (some ⟨g, 0, none⟩) i c, .slice (some a) m c']).run Try.prog w = .ok (.slice (some ⟨g, 0, none⟩) (i + m) c) (w.setCells g (i * 4) news) := by
  obtain ⟨i0, hi, hz0, hz1, hz2⟩ := info_parts infoEnt
  have hs : Src Try.prog i0.size tS (.slice (some a) m c') m news w := Src.ofSlice w Try.underlying27 a m c' news (by rw [hz1]; exact hnl) hn h1
  have h := run_append_room_src (P := Try.prog) (w := w) tS tS ty tE i0 Try.underlying27 hi g 0 i c _ m news hs hroom (fun j hj => by rw [hz1, Nat.zero_add]; exact cell_some hb (by omega)) (fun j _ => hb.frozen _)
  rw [hz1, Nat.zero_add] at h
  exact h
theorem run_copy_in (w : World) (ty : TypeId) (g o dl dc n : Nat) (a : Addr) (sl sc : Nat) (cs news : List Value) (hb : Blk w g tE cs) (hmin : Nat.min sl dl = n) (hfit : o + n * 4 ≤ cs.length) (hnl : news.length = n * 4) (hn : ∀ j u, news[j]? = some u → w.cell? (a.add j) = some u) (h1 : ∀ u ∈ news, u.oneCell' = true) :
    (Builtin.copy_ #[tS, tS] ty #[.slice (some ⟨g, o, none⟩) dl dc, .slice (some a) sl sc]).run Try.prog w = .ok (goInt n) (w.setCells g o news) := by
  obtain ⟨i0, hi, hz0, hz1, hz2⟩ := info_parts infoEnt
  have hl := run_firstCells_some (P := Try.prog) (w := w) 4 n a sl sc news hnl hn
  have hst := run_storeCells_cells (P := Try.prog) g o news 0 w (fun j hj => by rw [Nat.add_zero]; exact cell_some hb (by omega)) (fun j _ => by rw [Nat.add_zero]; exact hb.frozen _) h1
  have hu : Try.prog.underlying tS = some (.slice tE) := Try.underlying27
  simp [Builtin.copy_, run_underlying hu, Builtin.lenOf, sizeOf, typeInfo, hi, hz1, hmin, hl, hst]
theorem run_clear_one (w : World) (ty : TypeId) (g o c : Nat) (cs : List Value) (hb : Blk w g tE cs) (hfit : o + 4 ≤ cs.length) :
    (Builtin.clear_ #[tS] ty #[.slice (some ⟨g, o, none⟩) 1 c]).run Try.prog w = .ok (.tuple #[]) (w.setCells g o zeroE) := by
  obtain ⟨i0, hi, hz0, hz1, hz2⟩ := info_parts infoEnt
  have hst := run_storeCells_cells (P := Try.prog) g o zeroE 0 w (fun j hj => by rw [Nat.add_zero]; exact cell_some hb (by simp [zeroE] at hj; omega)) (fun j _ => by rw [Nat.add_zero]; exact hb.frozen _) (by simp [zeroE, Value.oneCell'])
  have hu : Try.prog.underlying tS = some (.slice tE) := Try.underlying27
  have hz : (Builtin.zeroCells (Value.agg #[.int .u64 0, .int .i64 0, .int .i64 0, .int .i64 0]).cells 1).toList = zeroE := by kernel_rfl
  simp only [Nat.add_zero] at hst
  simp [Builtin.clear_, run_underlying hu, zeroValue, typeInfo, hi, hz0, hz, hst]

theorem zeroCells_len (n : Nat) : (Builtin.zeroCells (Value.agg #[.int .u64 0, .int .i64 0, .int .i64 0, .int .i64 0]).cells n).size = n * 4 := by simp [Builtin.zeroCells, Value.cells]

/-- No room: a new row: the first ones, made ones. -/
theorem run_append_made (w : World) (ty : TypeId) (g i c k : Nat) (cs : List Value) (hb : Blk w g tE cs) (hic : i * 4 ≤ cs.length) (h0 : 0 < k) (hk : i + k ≤ 1000) (hc : c < i + k) (hc9 : c ≤ 255) :
    ∃ (c' : Nat) (zs : List Value) (w' : World), (Builtin.append_ #[tS, 3] ty #[.slice (some ⟨g, 0, none⟩) i c, .int .i64 k]).run Try.prog w = .ok (.slice (some ⟨w.heap.size, 0, none⟩) (i + k) c') w' ∧
      Blk w' w.heap.size tE (cs.take (i * 4) ++ zs) ∧ i + k ≤ c' ∧ c' ≤ maxLen ∧ (cs.take (i * 4) ++ zs).length = c' * 4 ∧ w.grownBy w' none := by
  obtain ⟨i0, hi, hz0, hz1, hz2⟩ := info_parts infoEnt
  have hold : (Builtin.firstCells i0.size i (.slice (some ⟨g, 0, none⟩) i c)).run Try.prog w.drew = .ok (cs.take (i * 4)).toArray w.drew := by
    rw [hz1]
    refine run_firstCells_some (P := Try.prog) (w := w.drew) 4 i ⟨g, 0, none⟩ i c (cs.take (i * 4)) (by rw [List.length_take]; omega) (fun j v hj => ?_)
    have hj4 : j < i * 4 := by have := (List.getElem?_eq_some_iff.1 hj).1; rw [List.length_take] at this; omega
    rw [List.getElem?_take, if_pos hj4] at hj
    have h9 := hb.drew.cell hj
    unfold Addr.add
    by_cases h0 : j = 0
    · rw [if_pos h0]
      rw [h0] at h9
      exact h9
    · rw [if_neg h0]
      simpa using h9
  have hnsc : Builtin.nextslicecap (i + k) c ≤ 1000 := by
    unfold Builtin.nextslicecap
    by_cases h2 : i + k > 2 * c
    · rw [if_pos h2]; omega
    · rw [if_neg h2, if_pos (show c < 256 by omega)]; omega
  have h := Lib.run_append_grow_zeros (P := Try.prog) w tS 3 ty tE i0 _ .i64 .i64 Try.underlying27 Try.underlying3 hi hz0 (some ⟨g, 0, none⟩) i c (cs.take (i * 4)) hold k h0 (by rw [hz1]; omega) hc (by omega) (by rw [hz2]; omega) (by rw [hz2]; omega)
  refine ⟨grownCap w (i + k) c tE, (Builtin.zeroCells (Value.agg #[.int .u64 0, .int .i64 0, .int .i64 0, .int .i64 0]).cells k).toList ++ (Builtin.zeroCells (Value.agg #[.int .u64 0, .int .i64 0, .int .i64 0, .int .i64 0]).cells (grownCap w (i + k) c tE - (i + k))).toList, _, h, ?_, grownCap_ge _ _ _ _, grownCap_le_maxLen _ _ _ _ (by unfold maxLen; omega), ?_, ?_⟩
  · have heq : (cs.take (i * 4)).toArray ++ Builtin.zeroCells (Value.agg #[.int .u64 0, .int .i64 0, .int .i64 0, .int .i64 0]).cells k ++ Builtin.zeroCells (Value.agg #[.int .u64 0, .int .i64 0, .int .i64 0, .int .i64 0]).cells (grownCap w (i + k) c tE - (i + k)) = (cs.take (i * 4) ++ ((Builtin.zeroCells (Value.agg #[.int .u64 0, .int .i64 0, .int .i64 0, .int .i64 0]).cells k).toList ++ (Builtin.zeroCells (Value.agg #[.int .u64 0, .int .i64 0, .int .i64 0, .int .i64 0]).cells (grownCap w (i + k) c tE - (i + k))).toList)).toArray := by
      apply Array.ext'
      simp
    rw [heq]
    exact Blk.new w.drew tE _
  · have hge := grownCap_ge w (i + k) c tE
    simp only [List.length_append, Array.length_toList, zeroCells_len, List.length_take]
    omega
  · exact grownBy_trans (grownBy_drewN w 1 none) (World.grownBy_alloc _ _ none)

end Go.Proofs.Ytddpjfmogjcimaa
