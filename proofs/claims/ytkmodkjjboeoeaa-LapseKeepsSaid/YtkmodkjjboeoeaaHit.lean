/- lapse.Hit: as many rules, all of them in new memory. -/
import Derived.Test.YtkmodkjjboeoeaaTick
namespace Go.Proofs.Ytkmodkjjboeoeaa.A
open Go.RowKit Go.Proofs.YtkmodkjjboeoeaaW.PrintWords Go.Proofs.YtkmodkjjboeoeaaW.PrintLast Go.Proofs.YtkmodkjjboeoeaaW.PrintMore
set_option linter.unusedVariables false
set_option linter.unusedSimpArgs false
theorem rule_hits {W : World} {ok : Nat → Prop} {x : S31} {cs : List Value} (n : Int) (h : Kd.FK k31u W ok x cs) : cs[29]? = some (.int .i64 x.f6) ∧ Kd.FK k31u W ok { x with f6 := n } (cs.take 29 ++ [.int .i64 n] ++ cs.drop (29 + [Value.int .i64 n].length)) ∧ Kd.FK k31u W ok { x with f7 := n } (cs.take 30 ++ [.int .i64 n] ++ cs.drop (30 + [Value.int .i64 n].length)) := by
  have h29 : (cs.take 29 ++ [Value.int .i64 n] ++ cs.drop (29 + [Value.int .i64 n].length))[25]? = cs[25]? ∧ (cs.take 30 ++ [Value.int .i64 n] ++ cs.drop (30 + [Value.int .i64 n].length))[25]? = cs[25]? ∧ cs[29]? = some (.int .i64 x.f6) := by
    obtain ⟨A, c, rfl, hl, hF⟩ := k31_openF (FK_plain h)
    exact ⟨rfl, rfl, rfl⟩
  refine ⟨h29.2.2, FK_typ h ?_ h29.1, FK_typ h ?_ h29.2.1⟩
  · obtain ⟨A, c, rfl, hl, hF⟩ := k31_openF (FK_plain h)
    exact k31_mkF W ok { x with f6 := n } hl hF
  · obtain ⟨A, c, rfl, hl, hF⟩ := k31_openF (FK_plain h)
    exact k31_mkF W ok { x with f7 := n } hl hF
theorem N_row {α : Type} {d : Kd α} {e base n c : Nat} {w : World} {ok : Nat → Prop} {A : Option Addr} {xs : List α} (h : Kd.N d e w base ok (.slice A n c) xs) (hn : 0 < xs.length) : ∃ g, A = some ⟨g, 0, none⟩ ∧ base ≤ g ∧ ok g := by
  obtain ⟨h0, rows, hl, hR, _⟩ := h
  obtain ⟨_, inner, ho, _⟩ := hR
  rcases ho.2 with ⟨_, hz⟩ | ⟨g, cap, cur, hv, hb, _⟩
  · omega
  · injection hv with e1 e2 e3
    subst e1
    exact ⟨g, rfl, hb, h0 g rfl⟩
def HitPost (n : Nat) (w : World) (e : Ending) (w' : World) : Prop := ∃ A' c' l', e = .returned (.slice A' n n) ∧ l'.length = n ∧ Kd.N k31u 31 w' w.heap.size (fun k => w.heap.size ≤ k) (.slice A' n c') l' ∧ Below w.heap.size w w'
set_option maxHeartbeats 4000000 in
set_option maxRecDepth 100000 in
theorem hit_calls (l : List S31) (A : Option Addr) (c : Nat) (m : Int) (w : World) (hC : Kd.C k31u w A l.length l) (hc : l.length ≤ c) (hsm : Small l) :
    Calls Try.prog 6 #[.slice A l.length c, .int .i64 m] w (HitPost l.length w) := by
  have HC := Aside0.mk hC
  have HLE := Aside0.mk hc
  have HSM := Aside0.mk hsm
  clear hC hc hsm
  by_cases h0 : 0 ≤ m
  · by_cases h1 : m < l.length
    · obtain ⟨j, rfl⟩ := Int.eq_ofNat_of_zero_le h0
      have hj : j < l.length := by omega
      have p0 : decide (0 ≤ (j : Int)) = true := decide_eq_true h0
      have p1 : decide ((j : Int) < (l.length : Int)) = true := decide_eq_true h1
      go_enter Try.func6, Try.ntmps6
      go_wp2_with (first
        | (go_at_call 8; refine (copyN_calls l A c _ HC.out HLE.out HSM.out).mono ?_; rintro e w1 ⟨A', c', rfl, hN, hbel⟩; obtain ⟨g, rfl, hg, _⟩ := N_row hN (by omega); have HN := Aside0.mk hN; have HB := Aside0.mk hbel; obtain ⟨cs, hcl, hFK, hcc⟩ := Kd.N_get hN z31 (j : Int) (by omega) (by omega); obtain ⟨x, ex⟩ : ∃ x_ : S31, x_ = l.getD ((j : Int)).toNat z31 := ⟨_, rfl⟩; rw [← ex] at hFK; clear ex; have HF := Aside0.mk hFK; have HCC := Aside0.mk hcc; have HCL := Aside0.mk hcl; have hc29 : w1.cell? ⟨g, j * 32 + 29, none⟩ = some (.int .i64 x.f6) := (by have := hcc 29 _ (rule_hits 0 hFK).1; rw [Mine.at_add] at this; exact this); clear hN hbel HC HLE hFK hcc hcl; have HCD := Aside0.mk (fun q u (h : cs[q]? = some u) => show w1.cell? ⟨g, ((j : Int)).toNat * k31u.sz + q, none⟩ = some u from (by have := HCC.out q u h; rw [Mine.at_add] at this; exact this)); clear HCC)
        | (go_at_call 9; refine (more_calls _ _ _).mono ?_; rintro e w2 ⟨rfl, rfl⟩; clear hc29)
        | ((with_reducible refine gate_ (.store 3 (.tmp 28) (.tmp 26)) rfl ?_); go_must ((refine Kd.N_store k31u (w0 := w) w.heap.size rfl rfl 3 (.tmp 28) (.tmp 26) rfl 31 (g := g) (n := l.length) (cap := c') (j : Int) 29 l { x with f6 := moreF x.f6 1 } (.int .i64 (moreF x.f6 1)) [.int .i64 (moreF x.f6 1)] cs (fun k => w.heap.size ≤ k) (fun k => w.heap.size ≤ k ∧ k ≠ g) rfl rfl rfl rfl (by kernel_rfl) (by simp [Value.oneCell']) HN.out (by omega) (by omega) HCL.out HCD.out (show 30 ≤ 32 by omega) (Kd.FK_mono (rule_hits _ HF.out).2.1 (fun k hk => ⟨hk.1, fun e => hk.2 (by rw [e]; rfl)⟩)) (fun k hk => hk) HB.out ?_); intro w3 hN3 hB3 hg3; have HN3 := Aside0.mk hN3; have HB3 := Aside0.mk hB3; clear hN3 hB3 hg3 HN HB HCD HF HCL cs))
        | ((with_reducible refine gate_ (.store 3 (.tmp 30) (.const (.int .i64 0))) rfl ?_); obtain ⟨cs, hcl, hFK, hcc⟩ := Kd.N_get HN3.out z31 (j : Int) (by omega) (by omega); go_must ((refine Kd.N_store k31u (w0 := w) w.heap.size rfl rfl 3 (.tmp 30) (.const (.int .i64 0)) rfl 31 (g := g) (n := l.length) (cap := c') (j : Int) 30 _ { (l.set ((j : Int)).toNat { x with f6 := moreF x.f6 1 }).getD ((j : Int)).toNat z31 with f7 := 0 } (.int .i64 0) [.int .i64 0] cs (fun k => w.heap.size ≤ k) (fun k => w.heap.size ≤ k ∧ k ≠ g) rfl rfl rfl rfl (by kernel_rfl) (by simp [Value.oneCell']) HN3.out (by omega) (by omega) hcl (fun q u h => by have := hcc q u h; rw [Mine.at_add] at this; exact this) (show 31 ≤ 32 by omega) (Kd.FK_mono (rule_hits _ hFK).2.2 (fun k hk => ⟨hk.1, fun e => hk.2 (by rw [e]; rfl)⟩)) (fun k hk => hk) HB3.out ?_); intro w4 hN4 hB4 hg4; have HN4 := Aside0.mk hN4; have HB4 := Aside0.mk hB4; clear hN4 hB4 hg4 HN3 HB3 hcl hFK hcc)))
      go_ret
      exact ⟨some ⟨g, 0, none⟩, c', _, rfl, by simp, HN4.out, HB4.out⟩
    · have p0 : decide (0 ≤ m) = true := decide_eq_true h0
      have p1 : decide (m < (l.length : Int)) = false := decide_eq_false h1
      go_enter Try.func6, Try.ntmps6
      go_wp2_with (first | (go_at_call 8; refine (copyN_calls l A c _ HC.out HLE.out HSM.out).mono ?_; rintro e w1 ⟨A', c', rfl, hN, hbel⟩; have HN := Aside0.mk hN; have HB := Aside0.mk hbel; clear hN hbel HC HLE))
      go_ret
      exact ⟨A', c', l, rfl, rfl, HN.out, HB.out⟩
  · have p0 : decide (0 ≤ m) = false := decide_eq_false h0
    go_enter Try.func6, Try.ntmps6
    go_wp2_with (first | (go_at_call 8; refine (copyN_calls l A c _ HC.out HLE.out HSM.out).mono ?_; rintro e w1 ⟨A', c', rfl, hN, hbel⟩; have HN := Aside0.mk hN; have HB := Aside0.mk hbel; clear hN hbel HC HLE))
    go_ret
    exact ⟨A', c', l, rfl, rfl, HN.out, HB.out⟩
end Go.Proofs.Ytkmodkjjboeoeaa.A
