-- made by print.py over an altered view of the translation; the array types by hand
import Derived.Test.YtkmodkjjboeoeaaAx0
import Derived.ChangeKeysEq
namespace Go.Proofs.Ytkmodkjjboeoeaa.A
open Go.RowKit Go.Proofs.YtkmodkjjboeoeaaW.PrintWords Go.Proofs.YtkmodkjjboeoeaaW.PrintLast Go.Proofs.YtkmodkjjboeoeaaW.PrintMore
attribute [local go_sem] max2_int min2_int max_two min_two max_three min_three max_four min_four   -- for this text's walks alone
set_option linter.unusedVariables false
set_option linter.unusedSimpArgs false

theorem eqi_cons {P : Program} {d e sz : Nat} {xs ys : Array Value} {i : Nat} {is : List Nat} {a b : Value} {r s : Bool} {w : World} (ha : (part e xs (i * sz)).run P w = .ok a w) (hb : (part e ys (i * sz)).run P w = .ok b w) (he : (Op.equalIn d e a b).run P w = .ok r w) (hr : (Op.eqItems d e sz xs ys is).run P w = .ok s w) : (Op.eqItems d e sz xs ys (i :: is)).run P w = .ok (r && s) w := by
  simp only [Op.eqItems, Sem.run_bind, ha, hb, he, Result.andThen_ok]
  cases r
  · simp
  · simpa using hr
theorem eqi_last {P : Program} {d e sz : Nat} {xs ys : Array Value} {i : Nat} {a b : Value} {r : Bool} {w : World} (ha : (part e xs (i * sz)).run P w = .ok a w) (hb : (part e ys (i * sz)).run P w = .ok b w) (he : (Op.equalIn d e a b).run P w = .ok r w) : (Op.eqItems d e sz xs ys [i]).run P w = .ok r w := by
  have h := eqi_cons (is := []) (s := true) ha hb he (by simp [Op.eqItems])
  rwa [Bool.and_true] at h
theorem eqA26 (d : Nat) (w : World) (x0 y0 : Int) (x1 y1 : Int) (x2 y2 : Int) (x3 y3 : Int) (x4 y4 : Int) (x5 y5 : Int) (x6 y6 : Int) (x7 y7 : Int) (x8 y8 : Int) (x9 y9 : Int) (x10 y10 : Int) (x11 y11 : Int) :
    (Op.equalIn (d + 2) 26 (.agg #[.int .u64 x0, .int .u64 x1, .int .u64 x2, .int .u64 x3, .int .u64 x4, .int .u64 x5, .int .u64 x6, .int .u64 x7, .int .u64 x8, .int .u64 x9, .int .u64 x10, .int .u64 x11]) (.agg #[.int .u64 y0, .int .u64 y1, .int .u64 y2, .int .u64 y3, .int .u64 y4, .int .u64 y5, .int .u64 y6, .int .u64 y7, .int .u64 y8, .int .u64 y9, .int .u64 y10, .int .u64 y11])).run Try.prog w = .ok (x0 == y0 && (x1 == y1 && (x2 == y2 && (x3 == y3 && (x4 == y4 && (x5 == y5 && (x6 == y6 && (x7 == y7 && (x8 == y8 && (x9 == y9 && (x10 == y10 && (x11 == y11)))))))))))) w := by
  obtain ⟨i0, hi0, hc0⟩ : ∃ i0, Try.prog.info? 24 = some i0 ∧ i0.size = 1 := by
    have h : (Try.prog.info? 24).map (·.size) = some 1 := by kernel_rfl
    exact Option.map_eq_some_iff.1 h
  rw [run_equalIn_array w (d + 1) _ _ Try.underlying26 hi0]
  have hce : Try.prog.cellsOf 24 = 1 := by kernel_rfl
  rw [hce]
  have hl : List.range 12 = [0, 1, 2, 3, 4, 5, 6, 7, 8, 9, 10, 11] := rfl
  rw [hl]
  refine eqi_cons (by go_simp; rfl) (by go_simp; rfl) (by go_simp) ?_
  refine eqi_cons (by go_simp; rfl) (by go_simp; rfl) (by go_simp) ?_
  refine eqi_cons (by go_simp; rfl) (by go_simp; rfl) (by go_simp) ?_
  refine eqi_cons (by go_simp; rfl) (by go_simp; rfl) (by go_simp) ?_
  refine eqi_cons (by go_simp; rfl) (by go_simp; rfl) (by go_simp) ?_
  refine eqi_cons (by go_simp; rfl) (by go_simp; rfl) (by go_simp) ?_
  refine eqi_cons (by go_simp; rfl) (by go_simp; rfl) (by go_simp) ?_
  refine eqi_cons (by go_simp; rfl) (by go_simp; rfl) (by go_simp) ?_
  refine eqi_cons (by go_simp; rfl) (by go_simp; rfl) (by go_simp) ?_
  refine eqi_cons (by go_simp; rfl) (by go_simp; rfl) (by go_simp) ?_
  refine eqi_cons (by go_simp; rfl) (by go_simp; rfl) (by go_simp) ?_
  exact eqi_last (by go_simp; rfl) (by go_simp; rfl) (by go_simp)
theorem eqA28 (d : Nat) (w : World) (x0 y0 : Int) (x1 y1 : Int) (x2 y2 : Int) (x3 y3 : Int) (x4 y4 : Int) (x5 y5 : Int) (x6 y6 : Int) (x7 y7 : Int) (x8 y8 : Int) (x9 y9 : Int) (x10 y10 : Int) (x11 y11 : Int) (x12 y12 : Int) (x13 y13 : Int) (x14 y14 : Int) (x15 y15 : Int) (x16 y16 : Int) (x17 y17 : Int) (x18 y18 : Int) (x19 y19 : Int) (x20 y20 : Int) (x21 y21 : Int) (x22 y22 : Int) (x23 y23 : Int) :
    (Op.equalIn (d + 3) 28 (.agg #[.int .u64 x0, .int .u64 x1, .int .u64 x2, .int .u64 x3, .int .u64 x4, .int .u64 x5, .int .u64 x6, .int .u64 x7, .int .u64 x8, .int .u64 x9, .int .u64 x10, .int .u64 x11, .int .u64 x12, .int .u64 x13, .int .u64 x14, .int .u64 x15, .int .u64 x16, .int .u64 x17, .int .u64 x18, .int .u64 x19, .int .u64 x20, .int .u64 x21, .int .u64 x22, .int .u64 x23]) (.agg #[.int .u64 y0, .int .u64 y1, .int .u64 y2, .int .u64 y3, .int .u64 y4, .int .u64 y5, .int .u64 y6, .int .u64 y7, .int .u64 y8, .int .u64 y9, .int .u64 y10, .int .u64 y11, .int .u64 y12, .int .u64 y13, .int .u64 y14, .int .u64 y15, .int .u64 y16, .int .u64 y17, .int .u64 y18, .int .u64 y19, .int .u64 y20, .int .u64 y21, .int .u64 y22, .int .u64 y23])).run Try.prog w = .ok ((x0 == y0 && (x1 == y1 && (x2 == y2 && (x3 == y3 && (x4 == y4 && (x5 == y5 && (x6 == y6 && (x7 == y7 && (x8 == y8 && (x9 == y9 && (x10 == y10 && (x11 == y11)))))))))))) && ((x12 == y12 && (x13 == y13 && (x14 == y14 && (x15 == y15 && (x16 == y16 && (x17 == y17 && (x18 == y18 && (x19 == y19 && (x20 == y20 && (x21 == y21 && (x22 == y22 && (x23 == y23)))))))))))))) w := by
  refine eqA_of Try.underlying28 (by kernel_rfl) ?_
  refine eqf_cons (by rfl) (by go_simp) (by go_simp) (eqA26 (d + 0) w _ _ _ _ _ _ _ _ _ _ _ _ _ _ _ _ _ _ _ _ _ _ _ _) ?_
  exact eqf_last (by rfl) (by go_simp) (by go_simp) (eqA26 (d + 0) w _ _ _ _ _ _ _ _ _ _ _ _ _ _ _ _ _ _ _ _ _ _ _ _)
end Go.Proofs.Ytkmodkjjboeoeaa.A
