/- Small laws of my own over any program: operations on blocks whose cells are one list; the new world is a letter. -/
import Derived.Test.YtkmodkjjboeoeaaProg
import Derived.Test.YtkmodkjjboeoeaaWMore
import Derived.WalkKit
import Derived.Laws.Rows
import Derived.Laws.IdiomCopy
import Derived.Great.BuildSlice
import Derived.StillTailTactics
namespace Go.Proofs.Ytkmodkjjboeoeaa.Mine
open Go.RowKit Go.Proofs.YtkmodkjjboeoeaaW.PrintWords Go.Proofs.YtkmodkjjboeoeaaW.PrintLast Go.Proofs.YtkmodkjjboeoeaaW.PrintMore
section
variable {P : Program}
/-- 'xs[:j:m]', a slice. -/
theorem cut_full (t e : TypeId) {i : TypeInfo} (ht : P.underlying t = some (.slice e)) (hi : P.info? e = some i) (A : Option Addr) (n c j m : Nat) (hj : j ≤ m) (hm : m ≤ c) (W : World) :
    (Instr.slice t (.slice A n c) none (some (.int .i64 (j : Int))) (some (.int .i64 (m : Int)))).run P W = .ok (.slice A j m) W := by
  have ha : (A.map fun x => x.add 0) = A := by cases A <;> simp [Addr.add]
  simp [Instr.slice, Instr.sliceBounds, Instr.sliceBound, run_underlying ht, asIntOf, hj, hm, sizeOf, typeInfo, hi, ha]

/-- A struct (or array) is read, cell by cell. -/
theorem run_load_cells (w : World) (ad : Addr) (ty : TypeId) (seg : List Value) (d : TypeDesc) (hc : ∀ j v, seg[j]? = some v → w.cell? (ad.add j) = some v)
    (hu : P.underlying ty = some d) (hd : (match d with | .struct _ | .array _ _ => true | _ => false) = true) (hi : (P.info? ty).map (·.size) = some seg.length) :
    (loadVar ty ad).run P w = .ok (.agg seg.toArray) w := by
  have hl : (loadCells ad seg.length).run P w = .ok seg.toArray w := run_loadCells_list (P := P) w ad seg hc
  cases hq : P.info? ty with
  | none => simp [hq] at hi
  | some i =>
    have hs : i.size = seg.length := by simpa [hq] using hi
    have hagg : (isAgg ty).run P w = .ok true w := by
      unfold isAgg
      rw [Sem.run_bind, run_underlying hu w]
      cases d <;> simp_all
    simp [loadVar, Sem.run_bind, hagg, sizeOf, typeInfo, hq, hs, hl]
end
theorem splice_one (cs : List Value) (j : Nat) (v : Value) (h : j < cs.length) : cs.take j ++ [v] ++ cs.drop (j + [v].length) = cs.set j v := by
  rw [List.set_eq_take_append_cons_drop, if_pos h]; simp
theorem splice_all (cs seg : List Value) (h : seg.length = cs.length) : cs.take 0 ++ seg ++ cs.drop (0 + seg.length) = seg := by
  simp [h]
section
variable {P : Program} {ops : Array Oper} {rest : List Oper} {o : Oper} {a : Act} {Q : Exit → Act → World → Prop} {W : World}
/-- A load of a struct or an array. -/
theorem ev_load (hgd : o.guard = none) {N : Tmp} (_hd : o.dst = some N) (ty : TypeId) (x : Operand) (ho : o.op = .load ty x) (ad : Addr) (hx : a.eval x = .pointer (some ad)) (seg : List Value) (d : TypeDesc)
    (hc : ∀ j v, seg[j]? = some v → W.cell? (ad.add j) = some v) (hu : P.underlying ty = some d) (hd : (match d with | .struct _ | .array _ _ => true | _ => false) = true) (hi : (P.info? ty).map (·.size) = some seg.length)
    (h : wpList P ops Q rest (a.put o.dst (.agg seg.toArray)) W) : wpList P ops Q (o :: rest) a W := by
  refine wpList_plain hgd fun K hK => ?_
  unfold Oper.wp execOp
  simp only [ho, hx, Instr.loadAt, Instr.sureAddr, Sem.run_bind, Sem.run_pure, Result.andThen_ok, run_load_cells W ad ty seg d hc hu hd hi]
  exact hK _ _ h
/-- A load of one cell. -/
theorem blk_cells {g : Nat} {cs : List Value} {t : TypeId} (hh : W.heap[g]? = some (.cells cs.toArray t (0, 0))) (k : Nat) : W.cell? ⟨g, k, none⟩ = cs[k]? := by
  rw [blk_cell hh]; simp
theorem at_add (g j : Nat) : (⟨g, 0, none⟩ : Addr).add j = ⟨g, j, none⟩ := add_plain g j
/-- The cells of a whole block. -/
theorem blk_all {g : Nat} {cs : List Value} {t : TypeId} (hh : W.heap[g]? = some (.cells cs.toArray t (0, 0))) : ∀ j v, cs[j]? = some v → W.cell? ((⟨g, 0, none⟩ : Addr).add j) = some v := fun j v hv => by
  rw [at_add, blk_cells hh, hv]
/-- Some cells of a block, one behind the other. -/
theorem blk_seg {g : Nat} {cs : List Value} {t : TypeId} (hh : W.heap[g]? = some (.cells cs.toArray t (0, 0))) (o' n : Nat) : ∀ j v, ((cs.drop o').take n)[j]? = some v → W.cell? ((⟨g, o', none⟩ : Addr).add j) = some v := fun j v hv => by
  have : (⟨g, o', none⟩ : Addr).add j = ⟨g, o' + j, none⟩ := by unfold Addr.add; split <;> simp_all
  rw [this, blk_cells hh]
  rw [List.getElem?_take] at hv
  split at hv
  · rwa [List.getElem?_drop] at hv
  · cases hv
/-- A load of a struct or an array, in a region that draws its order. -/
theorem still_load {Q1 : Act → Prop} (hgd : o.guard = none) {N : Tmp} (_hd : o.dst = some N) (ty : TypeId) (x : Operand) (ho : o.op = .load ty x) (ad : Addr) (hx : a.eval x = .pointer (some ad)) (seg : List Value) (d : TypeDesc)
    (hc : ∀ j v, seg[j]? = some v → W.cell? (ad.add j) = some v) (hu : P.underlying ty = some d) (hd : (match d with | .struct _ | .array _ _ => true | _ => false) = true) (hi : (P.info? ty).map (·.size) = some seg.length)
    (h : wpStill P ops W Q1 rest (a.put o.dst (.agg seg.toArray))) : wpStill P ops W Q1 (o :: rest) a := by
  refine wpStill_step fun K hK => ?_
  simp only [Region.wanted, hgd, if_true]
  unfold Oper.still execOp
  simp only [ho, hx, Instr.loadAt, Instr.sureAddr, Sem.run_bind, Sem.run_pure, Result.andThen_ok, run_load_cells W ad ty seg d hc hu hd hi]
  exact ⟨rfl, hK _ h⟩
/-- A store of whatever size into a block. -/
theorem ev_store (hgd : o.guard = none) (hN : o.dst = none) (t : TypeId) (p x : Operand) (ho : o.op = .store t p x) {g j : Nat} {e : TypeId} {cs : List Value} (u : Value) (seg : List Value)
    (hp : a.eval p = .pointer (some ⟨g, j, none⟩)) (hx : a.eval x = u) (hu : u.cells.toList = seg) (hh : W.heap[g]? = some (.cells cs.toArray e (0, 0))) (hj : j + seg.length ≤ cs.length)
    (ht : (P.info? t).map (·.size) = some seg.length) (h1 : ∀ q ∈ seg, q.oneCell' = true)
    (h : ∀ w1, w1.heap[g]? = some (.cells (cs.take j ++ seg ++ cs.drop (j + seg.length)).toArray e (0, 0)) → W.grownBy w1 (some g) → w1.heap.size = W.heap.size → wpList P ops Q rest a w1) : wpList P ops Q (o :: rest) a W := by
  refine wpList_plain hgd fun K hK => ?_
  have hrun := run_store_run (P := P) t u seg hh hu ht (by simpa using hj) h1
  have hrow := setCells_row seg j W cs.toArray hh (by simpa using hj)
  obtain ⟨cur', r1, r2, r3⟩ := hrow
  obtain ⟨s1, s2, s3, s4⟩ := setCells_same g seg j W
  have hw : (W.setCells g j seg).heap[g]? = some (.cells (cs.take j ++ seg ++ cs.drop (j + seg.length)).toArray e (0, 0)) := by
    rw [r1]
    congr 2
    apply Array.ext'
    simpa using r3
  have hK' := hK _ _ (h _ hw ⟨s1, s2, s3, Nat.le_of_eq s4.symm, fun i _ hne => setCells_far seg j i (fun e => hne (by rw [e]))⟩ s4)
  unfold Oper.wp execOp
  simp only [ho, hp, hx, Sem.run_bind, hrun]
  simpa [Oper.upon, Act.put, hN] using hK'
/-- A new variable. -/
theorem ev_alloc (hgd : o.guard = none) {N : Tmp} (_hd : o.dst = some N) {t : TypeId} (_ho : o.op = .alloc t) (cs : List Value)
    (hrun : (execOp a.eval o).run P W = .ok (.value (.pointer (some ⟨W.heap.size, 0, none⟩))) (W.alloc (.cells cs.toArray t (0, 0))))
    (h : ∀ g, g = W.heap.size → ∀ w1, w1.heap[g]? = some (.cells cs.toArray t (0, 0)) → Below W.heap.size W w1 → wpList P ops Q rest (a.put o.dst (.pointer (some ⟨g, 0, none⟩))) w1) : wpList P ops Q (o :: rest) a W :=
  box_event hgd _hd hrun h
/-- A variable that begins with a value. -/
theorem ev_box (hgd : o.guard = none) {N : Tmp} (_hd : o.dst = some N) {t : TypeId} (x : Operand) (ho : o.op = .box t x) (cs : List Value) (hx : a.eval x = .agg cs.toArray)
    (h : ∀ g, g = W.heap.size → ∀ w1, w1.heap[g]? = some (.cells cs.toArray t (0, 0)) → Below W.heap.size W w1 → wpList P ops Q rest (a.put o.dst (.pointer (some ⟨g, 0, none⟩))) w1) : wpList P ops Q (o :: rest) a W := by
  refine box_event hgd _hd ?_ h
  unfold execOp
  simp [ho, hx, Instr.box, newVar, newRow, Value.cells]
/-- '[]T{x}', x a struct. -/
theorem ev_lit1 (hgd : o.guard = none) {N : Tmp} (_hd : o.dst = some N) (t e : TypeId) (x : Operand) (ho : o.op = .buildSlice t 1 #[(0, x)]) (cs : List Value) (hx : a.eval x = .agg cs.toArray) {z : Value} {size bytes : Nat}
    (hu : P.underlying t = some (.slice e)) (hinfo : (P.info? e).map (fun i => (i.zero, i.size, i.bytes)) = some (some z, size, bytes)) (hl : cs.length = size) (hs0 : 0 < size) (hs1 : size ≤ 1000)
    (h : wpList P ops Q rest (a.put o.dst (.slice (some ⟨W.heap.size, 0, none⟩) 1 1)) (W.alloc (.cells cs.toArray e))) : wpList P ops Q (o :: rest) a W := by
  obtain ⟨i, hi, hz, hsz, _⟩ := info_parts hinfo
  refine wpList_buildSlice hgd t e 1 #[(0, x)] ho cs.toArray i z hu hi hz (by rw [hsz]; omega) (by rw [hsz]; omega) ?_ h
  have := Great.fill_whole (s := size) hs0 [.agg cs.toArray] ((Array.range (1 * i.size)).map (z.cells[· % z.cells.size]!)) (by simp [Value.cells, hl]) (by simp [hsz])
  simpa [hx, hsz, Value.cells] using this
end
end Go.Proofs.Ytkmodkjjboeoeaa.Mine
