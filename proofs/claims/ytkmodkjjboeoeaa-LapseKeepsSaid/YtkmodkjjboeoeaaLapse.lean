/- podestalaw06.LapseKeeps is true for every input: what is handed to Tick and Hit is not changed, and not shared. No conditions. -/
import Derived.Test.YtkmodkjjboeoeaaRows
import Derived.Test.YtkmodkjjboeoeaaKeeps
import Derived.Test.YtkmodkjjboeoeaaRead
import Derived.WalkKit
import Derived.ProofKit
import Derived.Carry
namespace Go.Proofs.Ytkmodkjjboeoeaa
open Go.ChangeShapes Go.WideShapes Go.ChangeAt Go.RowKit
open Go.Proofs.YtkmodkjjboeoeaaW.PrintWords Go.Proofs.YtkmodkjjboeoeaaW.PrintLast Go.Proofs.YtkmodkjjboeoeaaW.PrintMore
open A Reading
set_option linter.unusedVariables false
theorem ReadsB_imp {α : Type} {P : Program} {t : TypeId} {d : Kd α} {Bd Bd' : Nat → α → Prop} (h : ReadsB P t d Bd) (hi : ∀ B y, Bd B y → Bd' B y) : ReadsB P t d Bd' := fun H enc W spare held fuel cs x hx =>
  let ⟨y, hy, hb⟩ := h H enc W spare held fuel cs x hx
  ⟨y, hy, fun B hB => hi B y (hb B hB)⟩
theorem c3 : Try.prog.cellsOf 3 = 1 := by kernel_rfl
theorem c24 : Try.prog.cellsOf 24 = 1 := by kernel_rfl
theorem r3 : ReadsB Try.prog 3 (Kd.int .i64) (fun _ n => (Lit.int .i64 n).wf = true) := reads_int 3 .i64 Try.underlying3
theorem r24 : ReadsB Try.prog 24 (Kd.int .u64) (fun _ n => (Lit.int .u64 n).wf = true) := reads_int 24 .u64 Try.underlying24
theorem r26 : ReadsB Try.prog 26 k26 (fun _ _ => True) :=
  ReadsB_imp (reads_array 26 24 12 Try.underlying26 (fun x : S26 => (x.f0, x.f1, x.f2, x.f3, x.f4, x.f5, x.f6, x.f7, x.f8, x.f9, x.f10, x.f11)) (fun a => ⟨a.1, a.2.1, a.2.2.1, a.2.2.2.1, a.2.2.2.2.1, a.2.2.2.2.2.1, a.2.2.2.2.2.2.1, a.2.2.2.2.2.2.2.1, a.2.2.2.2.2.2.2.2.1, a.2.2.2.2.2.2.2.2.2.1, a.2.2.2.2.2.2.2.2.2.2.1, a.2.2.2.2.2.2.2.2.2.2.2⟩) (fun _ => rfl) (by kernel_rfl) (by rw [c24]; rfl)
    (fields_cons r24 c24 (fields_cons r24 c24 (fields_cons r24 c24 (fields_cons r24 c24 (fields_cons r24 c24 (fields_cons r24 c24 (fields_cons r24 c24 (fields_cons r24 c24 (fields_cons r24 c24 (fields_cons r24 c24 (fields_cons r24 c24 (fields_one r24 c24))))))))))))) (fun _ _ _ => trivial)
theorem r28 : ReadsB Try.prog 28 k28 (fun _ _ => True) :=
  ReadsB_imp (reads_struct 28 Try.underlying28 rfl (fun x : S28 => (x.f0, x.f1)) (fun a => ⟨a.1, a.2⟩) (fun _ => rfl) (by kernel_rfl)
    (fields_cons r26 (by kernel_rfl) (fields_one r26 (by kernel_rfl)))) (fun _ _ _ => trivial)
theorem r36 : ReadsB Try.prog 36 k36 (fun _ _ => True) :=
  ReadsB_imp (reads_struct 36 Try.underlying36 rfl (fun x : S36 => (x.f0, x.f1, x.f2, x.f3)) (fun a => ⟨a.1, a.2.1, a.2.2.1, a.2.2.2⟩) (fun _ => rfl) (by kernel_rfl)
    (fields_cons r3 c3 (fields_cons r3 c3 (fields_cons r3 c3 (fields_one r24 c24))))) (fun _ _ _ => trivial)
theorem r29 : ReadsB Try.prog 29 (Kd.slice 36 k36) (fun B ys => ys.length * 32 ≤ B ∧ ∀ y ∈ ys, True) := reads_slice 29 36 32 Try.underlying29 (by kernel_rfl) (by kernel_rfl) r36
theorem r31 : ReadsB Try.prog 31 k31 (fun B y => y.f2.length * 32 ≤ B) :=
  ReadsB_imp (reads_struct 31 Try.underlying31 rfl (fun x : S31 => (x.f0, x.f1, x.f2, x.f3, x.f4, x.f5, x.f6, x.f7, x.f8)) (fun a => ⟨a.1, a.2.1, a.2.2.1, a.2.2.2.1, a.2.2.2.2.1, a.2.2.2.2.2.1, a.2.2.2.2.2.2.1, a.2.2.2.2.2.2.2.1, a.2.2.2.2.2.2.2.2⟩) (fun _ => rfl) (by kernel_rfl)
    (fields_cons r28 (by kernel_rfl) (fields_cons r3 c3 (fields_cons r29 (by kernel_rfl) (fields_cons r3 c3 (fields_cons r3 c3 (fields_cons r3 c3 (fields_cons r3 c3 (fields_cons r3 c3 (fields_one r3 c3)))))))))) (fun _ _ h => h.2.2.1.1)
theorem r22 : ReadsB Try.prog 22 (Kd.slice 31 k31) (fun B ys => ys.length * 272 ≤ B ∧ ∀ y ∈ ys, y.f2.length * 32 ≤ B) := reads_slice 22 31 272 Try.underlying22 (by kernel_rfl) (by kernel_rfl) r31
theorem own : ownKnob Try.prog.godebug = none := by kernel_rfl
theorem laidOut : laidOutB Try.prog = true := by kernel_rfl
set_option maxRecDepth 100000 in
theorem lifted (os : Os) (started : os.Started) (H : Type) (enc : TypeId × Value → H) :
    ReturnsInHanded {} Try.checked os 3 .any (Rows.lapseKeepsSpec.pre6 enc Try.prog Try.f3 Rows.lapseKeepsRow.domain false) (Rows.lapseKeepsSpec.post enc Try.prog Try.f3 false true false false) := by
  refine returnsInHanded_of_change_sized (C := Try.checked) own started (by kernel_rfl) Try.func3
    (ChangeSpec.witness6 (enc := enc) (C := Try.checked) false ⟨#[], #[.slice none 0 0, .int .i64 0], []⟩ 8 (by kernel_rfl) (by kernel_rfl) (by kernel_rfl) (by kernel_rfl)) ?_
  intro W base args ds gs before hval0 hW hcnd hsz0 _
  have hsz : (DataW.weightsEach Try.prog (Try.f3.params.toList ++ Rows.lapseKeepsSpec.plain.varTypes Try.prog) (ds ++ gs)).all (· ≤ reachBytes) = true := hsz0
  have hval : ∀ (j : Nat) t v, Try.f3.params[j]? = some t → args[j]? = some v → Value.okWide Try.prog W .any base t v := hval0
  have hW' := hW
  obtain ⟨p, q, hA0, hV, rfl, hfz, hnd⟩ := hW
  have hA : DataW.TrodAll enc Try.prog W 0 (fun _ => true) true Try.f3.params.toList args.toList ds p := hA0
  rw [Try.params3] at hA hval hsz
  obtain ⟨v0, vs0, d0, ds0, p0, q0, hargs, rfl, rfl, h0, r0⟩ := trodAll_cons hA
  obtain ⟨v1, vs1, d1, ds1, p1, q1, rfl, rfl, rfl, h1, r1⟩ := trodAll_cons r0
  obtain ⟨rfl, rfl, rfl⟩ := trodAll_nil r1
  obtain rfl : args = #[v0, v1] := by cases args; simp_all
  obtain ⟨rfl, rfl⟩ := trodVars_none hV
  obtain ⟨a0, len0, cap0, rfl⟩ := okWide_slice Try.underlying22 (hval 0 22 v0 rfl rfl)
  have k0 := h0
  have lt0 : ∀ x ∈ p0, x.block < W.heap.size := by obtain ⟨m, hm⟩ := k0; exact DataW.trod_lt m _ _ _ hm
  obtain ⟨a1, rfl, rfl, rfl, w1⟩ := open_int Try.underlying3 (hval 1 3 v1 rfl rfl) h1
  have hwt : ∀ n ∈ d0.weights Try.prog 22, n ≤ 140737488351232 := fun n hn => by
    have := List.all_eq_true.1 hsz n (DataW.weights_mem_each (j := 0) (t := 22) (d := d0) rfl rfl n hn)
    exact of_decide_eq_true this
  obtain ⟨xs, hC, hle, hlim⟩ : ∃ xs : List S31, Kd.C k31 W a0 xs.length xs ∧ (xs.length = len0 ∧ xs.length ≤ cap0) ∧ ∀ x ∈ xs, x.f2.length < 4398046511104 := by
    obtain ⟨fuel, hf⟩ := h0
    obtain ⟨xs, ⟨A, c, e, hl, hC⟩, hb⟩ := r22 H enc W (fun _ => true) true fuel _ _ hf
    simp [Value.cells] at e
    obtain ⟨rfl, rfl, rfl⟩ := e
    exact ⟨xs, hC, ⟨rfl, hl⟩, fun x hx => by have := (hb _ hwt).2 x hx; omega⟩
  obtain ⟨rfl, hle⟩ := hle
  clear hA0 hval0 hsz0 hsz hwt
  refine (keeps_walk xs a0 cap0 a1 W hC hle hlim).mono fun e W' ⟨he, bel⟩ => ?_
  subst he
  exact ⟨_, rfl, _, _, _, [], _, [], hW', trodAll_mk1 (shut_bool Try.underlying4 _), (trodAll_cons_mk (Below.trod laidOut (by kernel_rfl) (of_decide_eq_true (by kernel_rfl)) k0 bel lt0) (trodAll_cons_mk (shut_int Try.underlying3 w1) trodAll_mk0)), rfl, bel.frame _, fun h => by cases h⟩
theorem over : Rows.lapseKeepsRow.holds Try.pinned (OpenSpec.ofChange Rows.lapseKeepsSpec) :=
  OpenClaim.holds_of_wide 3 Try.f3 rfl rfl rfl rfl rfl rfl rfl ⟨rfl, rfl, rfl, rfl, rfl⟩ rfl rfl rfl rfl rfl (by kernel_rfl) Try.func3 (by kernel_rfl)
    (of_decide_eq_true (by kernel_rfl)) (by unfold Func.isWrapper; first | (rw [if_pos (by decide +kernel)]; kernel_rfl) | (rw [if_neg (by decide +kernel)]; exact ⟨rfl, rfl⟩))
    (fun os started H enc _ => lifted os started H enc)
/-- The row. -/
theorem lapseKeeps_holds : Rows.LapseKeepsSaid := over
#print axioms lapseKeeps_holds
end Go.Proofs.Ytkmodkjjboeoeaa
