/- The answers of a program that does something. -/
import Derived.Test.YtkmodkjjboeoeaaTick
import Derived.Test.YtkmodkjjboeoeaaHit
namespace Go.Proofs.Ytkmodkjjboeoeaa.A
open Go.RowKit Go.Proofs.YtkmodkjjboeoeaaW.PrintWords Go.Proofs.YtkmodkjjboeoeaaW.PrintLast Go.Proofs.YtkmodkjjboeoeaaW.PrintMore
set_option linter.unusedVariables false
set_option linter.unusedSimpArgs false
def ansA : S31 := { z31 with f3 := 5 }
def ansB : S31 := { z31 with f4 := 9 }
def ansCells : List Value := [.int .u64 0, .int .u64 0, .int .u64 0, .int .u64 0, .int .u64 0, .int .u64 0, .int .u64 0, .int .u64 0, .int .u64 0, .int .u64 0, .int .u64 0, .int .u64 0, .int .u64 0, .int .u64 0, .int .u64 0, .int .u64 0, .int .u64 0, .int .u64 0, .int .u64 0, .int .u64 0, .int .u64 0, .int .u64 0, .int .u64 0, .int .u64 0, .int .i64 0, .slice none 0 0, .int .i64 5, .int .i64 0, .int .i64 0, .int .i64 0, .int .i64 0, .int .i64 0] ++ [.int .u64 0, .int .u64 0, .int .u64 0, .int .u64 0, .int .u64 0, .int .u64 0, .int .u64 0, .int .u64 0, .int .u64 0, .int .u64 0, .int .u64 0, .int .u64 0, .int .u64 0, .int .u64 0, .int .u64 0, .int .u64 0, .int .u64 0, .int .u64 0, .int .u64 0, .int .u64 0, .int .u64 0, .int .u64 0, .int .u64 0, .int .u64 0, .int .i64 0, .slice none 0 0, .int .i64 0, .int .i64 9, .int .i64 0, .int .i64 0, .int .i64 0, .int .i64 0]
theorem ans_typ (w : World) (i j : Int) : Typ w [.int .u64 0, .int .u64 0, .int .u64 0, .int .u64 0, .int .u64 0, .int .u64 0, .int .u64 0, .int .u64 0, .int .u64 0, .int .u64 0, .int .u64 0, .int .u64 0, .int .u64 0, .int .u64 0, .int .u64 0, .int .u64 0, .int .u64 0, .int .u64 0, .int .u64 0, .int .u64 0, .int .u64 0, .int .u64 0, .int .u64 0, .int .u64 0, .int .i64 0, .slice none 0 0, .int .i64 i, .int .i64 j, .int .i64 0, .int .i64 0, .int .i64 0, .int .i64 0] := fun ad n c h1 h2 => by
  injection h1 with h1
  injection h1 with e1
  cases e1
theorem ans_reps (w : World) : Reps (Kd.FK k31u w (fun _ => False)) k31u.sz [ansA, ansB] ansCells := by
  refine ⟨rfl, fun j p hj => ?_⟩
  rcases j with _ | _ | j
  · obtain rfl := Option.some.inj hj
    exact fun W' hW => ⟨k31_mkF w _ ansA (Nat.le_refl 0) (Kd.F_nil _ _ _) W' hW, ans_typ W' _ _⟩
  · obtain rfl := Option.some.inj hj
    exact fun W' hW => ⟨k31_mkF w _ ansB (Nat.le_refl 0) (Kd.F_nil _ _ _) W' hW, ans_typ W' _ _⟩
  · simp at hj
theorem ans_left : (([ansA, ansB].map (aged 5)).filter fun x => !overB x) = [aged 5 ansB] := by
  have h1 : overB (aged 5 ansA) = true := by decide +kernel
  have h2 : overB (aged 5 ansB) = false := by decide +kernel
  simp [h1, h2]
theorem ans_gone : (([ansA, ansB].map (aged 5)).filter overB) = [aged 5 ansA] := by
  have h1 : overB (aged 5 ansA) = true := by decide +kernel
  have h2 : overB (aged 5 ansB) = false := by decide +kernel
  simp [h1, h2]
theorem ans_small : Small [ansA, ansB] := ⟨by decide, fun x hx => by
  have : x.f2.length = 0 := by
    rcases List.mem_cons.1 hx with rfl | hx
    · rfl
    · rcases List.mem_cons.1 hx with rfl | hx
      · rfl
      · cases hx
  omega⟩
theorem ans_age : (aged 5 ansB).f8 = 5 := by decide +kernel
theorem ans_idle : (aged 5 ansA).f3 = 5 := by decide +kernel
/-- Cells of the first rule of a list. -/
theorem first_cells {W : World} {base c n : Nat} {ok : Nat → Prop} {A : Option Addr} {x : S31} (h : Kd.N k31u 31 W base ok (.slice A n c) [x]) : n = 1 ∧ ∃ g, A = some ⟨g, 0, none⟩ ∧ W.cell? ⟨g, 26, none⟩ = some (.int .i64 x.f3) ∧ W.cell? ⟨g, 31, none⟩ = some (.int .i64 x.f8) := by
  obtain ⟨g, rfl, _, _⟩ := N_row h (by simp)
  have hn := (Kd.N_reads' h).1
  obtain ⟨cs, hcl, hF, hcc⟩ := Kd.N_get h z31 0 (by omega) (by simp at hn; omega)
  obtain ⟨A', c', hcs, _⟩ := k31_openF (FK_plain hF)
  refine ⟨by simpa using hn, g, rfl, ?_, ?_⟩
  · have := hcc 26 _ (by rw [hcs]; rfl); rw [Mine.at_add] at this; exact this
  · have := hcc 31 _ (by rw [hcs]; rfl); rw [Mine.at_add] at this; exact this
set_option maxHeartbeats 4000000 in
set_option maxRecDepth 100000 in
theorem answers_calls (w : World) : Calls Try.prog 4 #[] w fun e w' => e = .returned (.bool true) ∧ Below w.heap.size w w' := by
  have HB := Aside0.mk (Below.refl w.heap.size w)
  go_enter Try.func4, Try.ntmps4
  go_wp2_with (first
    | ((with_reducible refine gate_dst (N := 6) rfl ?_); refine Kd.N_lit k31u (w0 := w) w.heap.size 31 ?hg (N' := 6) ?hd (xs := [ansA, ansB]) (inner := ansCells) (ok := fun _ => True) (okp := fun _ => False) ?hr (ans_reps _) (fun _ hk => hk.elim) trivial (Below.refl _ _) (Nat.le_refl _) (by decide) ?_; (case hd => rfl); (case hg => rfl); (case hr => unfold ansCells; first | (go_simp; done) | (go_simp; rfl)); intro v1 w1 hN hb hg hat; obtain ⟨A1, c1, e1⟩ := Kd.N_slice hN; subst e1; have HN := Aside0.mk hN; have n0 := Aside0.mk hb; clear HB hN hb hg hat; have HB := n0; clear n0)
    | (go_at_call 5; go_must ((refine (tick_calls [ansA, ansB] A1 c1 5 _ (Kd.N_reads' HN.out).2.2 (Kd.N_reads' HN.out).2.1 ans_small (by decide) (by decide)).mono ?_); rintro e w2 ⟨v0, v1, rfl, hL, hG, hbel⟩; rw [ans_left] at hL; rw [ans_gone] at hG; obtain ⟨AL, cL, eL⟩ := Kd.N_slice hL; obtain ⟨AG, cG, eG⟩ := Kd.N_slice hG; subst eL; subst eG; obtain ⟨_, gL, rfl, _, hc1⟩ := first_cells hL; obtain ⟨_, gG, rfl, hc2, _⟩ := first_cells hG; have hd1 : w2.cell? ⟨gL, 31, none⟩ = some (.int .i64 5) := (hc1.trans (by rw [ans_age])); have hd2 : w2.cell? ⟨gG, 26, none⟩ = some (.int .i64 5) := (hc2.trans (by rw [ans_idle])); have n0 := Aside0.mk (below_step HB.out hbel); clear HB HN hc1 hc2 hL hG hbel; have HB := n0; clear n0)))
  go_ret
  exact ⟨rfl, HB.out⟩
end Go.Proofs.Ytkmodkjjboeoeaa.A
