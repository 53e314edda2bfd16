-- the statement as print.py tells it; the proof by hand
import Derived.Test.YtkmodkjjboeoeaaAx0
import Derived.Test.YtkmodkjjboeoeaaMine
import Derived.Lib.SliceRun
namespace Go.Proofs.Ytkmodkjjboeoeaa.A
open Go.RowKit Go.Proofs.YtkmodkjjboeoeaaW.PrintWords Go.Proofs.YtkmodkjjboeoeaaW.PrintLast Go.Proofs.YtkmodkjjboeoeaaW.PrintMore
attribute [local go_sem] max2_int min2_int max_two min_two max_three min_three max_four min_four   -- for this text's walks alone
set_option linter.unusedVariables false
set_option linter.unusedSimpArgs false

/-! ### api_Act_16: function 16 -/
def api_Act_16.f (l0 : List (S36)) : Option ((List (S36))) := if 0 ≤ (l0.length : Int) then (if (l0.length : Int) ≤ (l0.length : Int) then (some (l0.take ((l0.length : Int) : Int).toNat)) else (none)) else (none)
set_option maxHeartbeats 8000000 in
set_option maxRecDepth 100000 in
theorem api_Act_16.calls (P0_ : Nat → Prop) (A0 : Option Addr) (c0 : Nat) (l0 : List (S36)) (r : List (S36)) (w : World) (hs0 : Kd.V k36 36 w w.heap.size (fun k_ => P0_ k_) (.slice A0 l0.length c0) l0) (h : api_Act_16.f l0 = some r) :
    Calls Try.prog 16 #[.slice A0 l0.length c0] w fun e w' => ∃ v0_ : Value, e = .returned (v0_) ∧ Kd.V k36 36 w' w.heap.size (fun k_ => (P0_ k_ ∨ w.heap.size ≤ k_)) v0_ r ∧ Below w.heap.size w w' := by
  have hf : r = l0 := by
    unfold api_Act_16.f at h
    rw [if_pos (by omega), if_pos (Int.le_refl _)] at h
    simpa using h.symm
  subst hf
  obtain ⟨A, c, hv, hl, hF⟩ := hs0
  injection hv with e1 e2 e3
  subst e1; subst e3
  obtain ⟨i0, hi, _, _, _⟩ := info_parts info36
  have hcut := Mine.cut_full (P := Try.prog) 29 36 Try.underlying29 hi A0 r.length c0 r.length r.length (Nat.le_refl _) hl
  have HF := Aside0.mk hF
  have HL := Aside0.mk hl
  clear hF hl h hi
  go_enter Try.func16, Try.ntmps16
  go_wp2
  go_ret
  exact ⟨_, rfl, ⟨A0, r.length, rfl, Nat.le_refl _, Kd.F_mono HF.out (fun _ hk => .inl hk)⟩, Below.refl _ _⟩

end Go.Proofs.Ytkmodkjjboeoeaa.A
