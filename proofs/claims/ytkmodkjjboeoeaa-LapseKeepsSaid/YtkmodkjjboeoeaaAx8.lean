-- made by print.py over an altered view of the translation (alter.py: arrays as structs)
import Derived.Test.YtkmodkjjboeoeaaAx0
namespace Go.Proofs.Ytkmodkjjboeoeaa.A
open Go.RowKit Go.Proofs.YtkmodkjjboeoeaaW.PrintWords Go.Proofs.YtkmodkjjboeoeaaW.PrintLast Go.Proofs.YtkmodkjjboeoeaaW.PrintMore
attribute [local go_sem] max2_int min2_int max_two min_two max_three min_three max_four min_four   -- for this text's walks alone
set_option linter.unusedVariables false
set_option linter.unusedSimpArgs false

/-! ### lapse_more: function 9 -/
def lapse_more.f (a0 : Int) (a1 : Int) : Option (Int) := if a0 ≥ (wrap64 (4611686018427387904 - a1)) then (some (mx a0 4611686018427387904)) else (some (wrap64 (a0 + a1)))
set_option maxHeartbeats 8000000 in
set_option maxRecDepth 100000 in
theorem lapse_more.calls (a0 : Int) (a1 : Int) (r : Int) (w : World) (h : lapse_more.f a0 a1 = some r) :
    Calls Try.prog 9 #[.int .i64 a0, .int .i64 a1] w fun e w' => e = .returned (.int .i64 r) ∧ Below w.heap.size w w' := by
  have HB := Aside0.mk (Below.refl w.heap.size w)
  have H : (if a0 ≥ (wrap64 (4611686018427387904 - a1)) then (some (mx a0 4611686018427387904)) else (some (wrap64 (a0 + a1)))) = some r := h
  clear h
  by_cases c3 : a0 ≥ (wrap64 (4611686018427387904 - a1))
  · rw [if_pos c3] at H
    have c3b0 : decide ((wrap64 (4611686018427387904 - a1)) ≤ a0) = true := decide_eq_true c3
    clear c3
    obtain ⟨ji4, hji4⟩ : ∃ j_ : Int, (mx a0 4611686018427387904) = j_ := ⟨_, rfl⟩
    replace H : (some ji4) = some r := by first | (rw [hji4] at H; exact H) | (simp only [hji4] at H ⊢; exact H)
    (try (have hji4l : 4611686018427387904 ≤ ji4 := by (rw [← hji4]; unfold mx; (repeat' split) <;> omega)))
    (try (have hji4m : 0 ≤ ji4 := by omega))
    have hji4_ : (if a0 < 4611686018427387904 then 4611686018427387904 else a0) = ji4 := hji4
    obtain rfl := Option.some.inj H
    go_enter Try.func9, Try.ntmps9
    go_wp2
    go_ret
    exact ⟨by first | rfl | (simp [errW_none, errW_some] <;> rfl) | (simp only [← hji4]; first | rfl | (simp [errW_none, errW_some] <;> rfl)) | (simp [*, errW_none, errW_some] <;> rfl), by repeat (first | (with_reducible first | exact HB.out | apply below_alloc | apply pw_below_drewN | apply below_drew1) | exact HB.out)⟩
  · rw [if_neg c3] at H
    have c3b0 : decide ((wrap64 (4611686018427387904 - a1)) ≤ a0) = false := decide_eq_false c3
    clear c3
    obtain rfl := Option.some.inj H
    go_enter Try.func9, Try.ntmps9
    go_wp2
    go_ret
    exact ⟨by first | rfl | (simp [errW_none, errW_some] <;> rfl) | (simp [*, errW_none, errW_some] <;> rfl), by repeat (first | (with_reducible first | exact HB.out | apply below_alloc | apply pw_below_drewN | apply below_drew1) | exact HB.out)⟩

end Go.Proofs.Ytkmodkjjboeoeaa.A
