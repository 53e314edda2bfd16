-- the statement as print.py tells it; the proof by hand
import Derived.Test.YtkmodkjjboeoeaaAx0
import Derived.Test.YtkmodkjjboeoeaaMine
import Derived.Lib.SliceRun
namespace Go.Proofs.Ytkmodkjjboeoeaa.A
open Go.RowKit Go.Proofs.YtkmodkjjboeoeaaW.PrintWords Go.Proofs.YtkmodkjjboeoeaaW.PrintLast Go.Proofs.YtkmodkjjboeoeaaW.PrintMore
attribute [local go_sem] max2_int min2_int max_two min_two max_three min_three max_four min_four   -- for this text's walks alone
set_option linter.unusedVariables false
set_option linter.unusedSimpArgs false

/-! ### api_Act_17: function 17 -/
def api_Act_17.f (l0 : List (S36)) : Option ((List (S36))) := if (l0.length : Int) = 0 then (some ([] : List (S36))) else ((some (([] : List (S36)) : List (S36))).bind fun y106 => (if y106.length + l0.length < 4398046511104 then (some (y106 ++ l0)) else (none)))
set_option maxHeartbeats 8000000 in
set_option maxRecDepth 100000 in
theorem api_Act_17.calls (A0 : Option Addr) (c0 : Nat) (l0 : List (S36)) (r : List (S36)) (w : World) (hr0 : Kd.C k36 w A0 l0.length l0) (hc0 : l0.length ≤ c0) (h : api_Act_17.f l0 = some r) :
    Calls Try.prog 17 #[.slice A0 l0.length c0] w fun e w' => ∃ v0_ : Value, e = .returned (v0_) ∧ Kd.R k36 36 w' w.heap.size (fun _ => True) v0_ r ∧ Below w.heap.size w w' := by
  have hf : r = l0 := by
    unfold api_Act_17.f at h
    by_cases c : (l0.length : Int) = 0
    · rw [if_pos c] at h
      have : l0 = [] := List.length_eq_zero_iff.1 (by omega)
      rw [this]; simpa using h.symm
    · rw [if_neg c] at h
      simp only [Option.bind_some] at h
      split at h
      · simpa using h.symm
      · cases h
  have hlt : ([] : List (S36)).length + l0.length < 4398046511104 := by
    unfold api_Act_17.f at h
    by_cases c : (l0.length : Int) = 0
    · simp only [List.length_nil]; omega
    · rw [if_neg c] at h
      simp only [Option.bind_some] at h
      split at h
      · assumption
      · cases h
  subst hf
  clear h
  have HR0 := Aside0.mk hr0
  have HL := Aside0.mk hlt
  clear hlt
  have HB := Aside0.mk (Below.refl w.heap.size w)
  cases A0 with
  | none =>
    have h0 : r = [] := by
      rcases Nat.eq_zero_or_pos r.length with z | z
      · exact List.length_eq_zero_iff.1 z
      · obtain ⟨ad, e, _⟩ := hr0.2.2 z
        cases e
    subst h0
    clear hr0 hc0
    have hnil : ∀ (W : World) (n c : Nat), (binOp .eql 29 (.slice none n c) (.slice none 0 0)).run Try.prog W = .ok (.bool true) W := fun W n c => Lib.run_eql_slice_nil W 29 36 none n c 0 0 Try.underlying29
    go_enter Try.func17, Try.ntmps17
    go_wp2
    go_ret
    exact ⟨_, rfl, Kd.R_nil _ _ _ _ _, HB.out⟩
  | some ad =>
    have hnil : ∀ (W : World) (n c : Nat), (binOp .eql 29 (.slice (some ad) n c) (.slice none 0 0)).run Try.prog W = .ok (.bool false) W := fun W n c => Lib.run_eql_slice_nil W 29 36 (some ad) n c 0 0 Try.underlying29
    obtain ⟨y106, hy106⟩ : ∃ y_ : List (S36), y_ = (([] : List (S36))) := ⟨_, rfl⟩
    have hlt2 : y106.length + r.length < 4398046511104 := by rw [hy106]; exact HL.out
    obtain ⟨y109, hy109⟩ : ∃ y_ : List (S36), y_ = (y106 ++ r) := ⟨_, rfl⟩
    have hfin : y109 = r := by rw [hy109, hy106]; rfl
    have Ny106 := Aside0.mk hy106
    have Ny109 := Aside0.mk hy109
    have LM := Aside0.mk hlt2
    have FIN := Aside0.mk hfin
    clear hy106 hy109 hlt2 hfin
    clear hr0 hc0
    go_enter Try.func17, Try.ntmps17
    go_wp2_with (first | ((with_reducible refine gate_dst (N := 5) rfl ?_); refine Kd.R_lit k36 _ 36 ?hg (N := 5) ?hd (xs := ([] : List (S36))) (inner := []) (ok := fun _ => True) (okp := fun _ => True) ?hr ?hp (fun _ hk => hk) trivial (Below.refl _ _) (Nat.le_refl _) (by simp) ?_; (case hd => rfl); (case hg => rfl); (case hr => first | (go_simp; done) | (go_simp; rfl)); (case hp => exact (Reps.none _ _)); intro v107 w4 ho5 hb hg_ hnew_; clear hg_ hnew_; rw [← Ny106.out] at ho5; have n0_ := Aside0.mk (Kd.R_lower ho5 (below_size HB.out)); have n1_ := Aside0.mk (below_step HB.out hb); clear HB; have HO108 := n0_; have HB := n1_; clear n0_ n1_; clear hb ho5) | ((with_reducible refine gate_builtin (b := .append) (xs := #[.tmp 5, .tmp 6]) rfl ?_); at_builtin; refine Kd.R_append_rows k36 (w0 := w) w.heap.size rfl (.tmp 5) (.tmp 6) 29 36 (.agg #[(.int .i64 0), (.int .i64 0), (.int .i64 0), (.int .u64 0)]) 32 rfl Try.underlying29 info36 rfl (by decide) (by omega) v107 y106 r _ _ _ (fun _ => True) (fun _ => False) rfl rfl ?aO ?aR (fun _ _ h => h) (fun _ h => h.elim) ?aF ?aB ?aS ?aL ?_; (case aR => exact Kd.C_below HR0.out HB.out); (case aB => exact HB.out); (case aF => exact (fun _ _ => trivial)); (case aO => exact HO108.out); (case aS => exact (below_size HB.out)); (case aL => have := LM.out; omega); intro v110 w6 ho hb hg hat; rw [← Ny109.out] at ho; have n0_ := Aside0.mk (hb); have n1_ := Aside0.mk (ho); clear HB; clear HO108; have HB := n0_; have HO111 := n1_; clear n0_ n1_; clear ho hb hg hat))
    go_ret
    exact ⟨_, rfl, FIN.out ▸ HO111.out, HB.out⟩

end Go.Proofs.Ytkmodkjjboeoeaa.A
