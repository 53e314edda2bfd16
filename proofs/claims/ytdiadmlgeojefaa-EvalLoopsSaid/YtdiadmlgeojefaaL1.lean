/- Laws and walks for EvalLoops: texts laid together by my own small program. -/
import Derived.Great.BuildSlice
import Derived.Laws.IdiomCopy
import Derived.Laws.Rows
import Derived.StillTailTactics
import Derived.Test.YtdiadmlgeojefaaProg
import Derived.WalkKit
import Derived.WalkSpells
import Derived.Test.YtdiadmlgeojefaaL0
namespace Go.Proofs.Ytdiadmlgeojefaa.A
open Go.RowKit Go.Proofs.YtdiadmlgeojefaaW.PrintWords Go.Proofs.YtdiadmlgeojefaaW.PrintLast Go.Proofs.YtdiadmlgeojefaaW.PrintMore
attribute [local go_sem] max2_int min2_int max_two min_two max_three min_three max_four min_four   -- for this text's walks alone
set_option linter.unusedVariables false
set_option linter.unusedSimpArgs false
def podestaref15_Eye_Int.f (k : Nat) (s0_0 : List (S112)) (s0_1 : Int) (s0_2 : Int) (s0_3 : Int) (s0_4 : Int) (s0_5 : Int) : Option (Int × Int × Int × Int × Int × Int) := (podestaref15_Eye_See.f s0_0 s0_1 s0_2 s0_3 s0_4 s0_5).bind fun bt177 => ((podestaref15_Digits.f k bt177.1).bind fun t183 => (if t183 = true then ((podestaref15_Num.f k bt177.1).bind fun t184 => (some (t184, wrap64 (bt177.2.1 + 1), bt177.2.2.1, bt177.2.2.2.1, bt177.2.2.2.2.1, bt177.2.2.2.2.2))) else ((podestaref15_Eye_Bad.f s0_0 bt177.2.1 bt177.2.2.1 bt177.2.2.2.1 bt177.2.2.2.2.1 bt177.2.2.2.2.2 15).bind fun bt185 => (some (0, bt185.1, bt185.2.1, bt185.2.2.1, bt185.2.2.2.1, bt185.2.2.2.2)))))
theorem podestaref15_Eye_Int.mono : ∀ a0 a1 a2 a3 a4 a5 k, LeO (podestaref15_Eye_Int.f k a0 a1 a2 a3 a4 a5) (podestaref15_Eye_Int.f (k + 1) a0 a1 a2 a3 a4 a5) := by
  intro a0 a1 a2 a3 a4 a5 k
  unfold podestaref15_Eye_Int.f
  repeat' first
      | (with_reducible exact podestaref15_Digits.mono _ _)
      | (with_reducible exact podestaref15_Num.mono _ _)
      | (with_reducible exact LeO.refl _)
      | (with_reducible exact LeO.none _)
      | (with_reducible refine LeO.ite ?_ ?_)
      | (with_reducible refine LeO.bind ?_ (fun _ => ?_))
      | exact podestaref15_Digits.mono _ _
      | exact podestaref15_Num.mono _ _
      | exact LeO.none _
      | refine LeO.ite ?_ ?_
      | refine LeO.bind ?_ (fun _ => ?_)
set_option maxHeartbeats 8000000 in
set_option maxRecDepth 100000 in
theorem podestaref15_Eye_Int.calls (k : Nat) (g : Nat) (s0_0 : List (S112)) (s0_1 : Int) (s0_2 : Int) (s0_3 : Int) (s0_4 : Int) (s0_5 : Int) (r1 : Int) (r2 : Int) (r3 : Int) (r4 : Int) (r5 : Int) (r6 : Int) (w0 w : World) (hI : IsS79 w0 w g s0_0 s0_1 s0_2 s0_3 s0_4 s0_5) (hB : Below w0.heap.size w0 w) (h : podestaref15_Eye_Int.f k s0_0 s0_1 s0_2 s0_3 s0_4 s0_5 = some (r1, r2, r3, r4, r5, r6)) :
    Calls Try.prog 36 #[.pointer (some ⟨g, 0, none⟩)] w fun e w' => e = .returned (.int .i64 r1) ∧ IsS79 w0 w' g s0_0 r2 r3 r4 r5 r6 ∧ Below w0.heap.size w0 w' ∧ KeepBut w w' g none := by
  have HI0 := Aside0.mk hI
  have HK := Aside0.mk (KeepBut.refl w g none)
  have HL := Aside0.mk hB.size
  clear hI
  have HW0 := Aside0.mk hB.size
  have HB := Aside0.mk hB
  clear hB
  have H : ((podestaref15_Eye_See.f s0_0 s0_1 s0_2 s0_3 s0_4 s0_5).bind fun bt177 => ((podestaref15_Digits.f k bt177.1).bind fun t183 => (if t183 = true then ((podestaref15_Num.f k bt177.1).bind fun t184 => (some (t184, wrap64 (bt177.2.1 + 1), bt177.2.2.1, bt177.2.2.2.1, bt177.2.2.2.2.1, bt177.2.2.2.2.2))) else ((podestaref15_Eye_Bad.f s0_0 bt177.2.1 bt177.2.2.1 bt177.2.2.2.1 bt177.2.2.2.2.1 bt177.2.2.2.2.2 15).bind fun bt185 => (some (0, bt185.1, bt185.2.1, bt185.2.2.1, bt185.2.2.2.1, bt185.2.2.2.2)))))) = some (r1, r2, r3, r4, r5, r6) := h
  clear h
  replace H := Option.bind_eq_some_iff.mp H
  obtain ⟨⟨t177, t178, t179, t180, t181, t182⟩, A20, H⟩ := H
  replace H : ((podestaref15_Digits.f k t177).bind fun t183 => (if t183 = true then ((podestaref15_Num.f k t177).bind fun t184 => (some (t184, wrap64 (t178 + 1), t179, t180, t181, t182))) else ((podestaref15_Eye_Bad.f s0_0 t178 t179 t180 t181 t182 15).bind fun bt185 => (some (0, bt185.1, bt185.2.1, bt185.2.2.1, bt185.2.2.2.1, bt185.2.2.2.2))))) = some (r1, r2, r3, r4, r5, r6) := H
  have A2 := Aside0.mk A20
  clear A20
  replace H := Option.bind_eq_some_iff.mp H
  obtain ⟨t183, A30, H⟩ := H
  replace H : (if t183 = true then ((podestaref15_Num.f k t177).bind fun t184 => (some (t184, wrap64 (t178 + 1), t179, t180, t181, t182))) else ((podestaref15_Eye_Bad.f s0_0 t178 t179 t180 t181 t182 15).bind fun bt185 => (some (0, bt185.1, bt185.2.1, bt185.2.2.1, bt185.2.2.2.1, bt185.2.2.2.2)))) = some (r1, r2, r3, r4, r5, r6) := H
  have A3 := Aside0.mk A30
  clear A30
  by_cases c4 : t183 = true
  · subst c4
    have H1 : ((podestaref15_Num.f k t177).bind fun t184 => (some (t184, wrap64 (t178 + 1), t179, t180, t181, t182))) = some (r1, r2, r3, r4, r5, r6) := by rw [if_pos rfl] at H; exact H
    clear H
    have H := H1
    clear H1
    replace H := Option.bind_eq_some_iff.mp H
    obtain ⟨t184, A50, H⟩ := H
    replace H : (some (t184, wrap64 (t178 + 1), t179, t180, t181, t182)) = some (r1, r2, r3, r4, r5, r6) := H
    have A5 := Aside0.mk A50
    clear A50
    simp only [Option.some.injEq, Prod.mk.injEq] at H
    obtain ⟨rfl, rfl, rfl, rfl, rfl, rfl⟩ := H
    go_enter Try.func36, Try.ntmps36
    go_wp2_with (first | ((with_reducible refine gate_callee (f := 57) rfl ?_); refine goesL_ (some 5) rfl rfl Try.func57 (by kernel_rfl) rfl #[.pointer (some ⟨g, 0, none⟩)] rfl (by (try simp only [List.map_toArray, List.map_cons, List.map_nil]); first | done | rfl | (simp only [List.length_drop, List.length_take]; rfl)) ?_; (with_reducible refine (podestaref15_Eye_See.calls g s0_0 s0_1 s0_2 s0_3 s0_4 s0_5 t177 t178 t179 t180 t181 t182 w0 _ ?side1 ?side2 A2.out).mono ?_); (case side1 => repeat (first | (with_reducible first | exact HI0.out | apply IsS79.alloc | apply IsS79.drewN | apply IsS79.drew | apply IsS79.set_1 | apply IsS79.set_2 | apply IsS79.set_3 | apply IsS79.set_4 | apply IsS79.set_5) | exact HI0.out)); (case side2 => repeat (first | (with_reducible first | exact HB.out | apply below_alloc | apply pw_below_drewN | apply below_drew1 | refine below_set ?_ (IsS79.ge HI0.out)) | exact HB.out)); rintro e w6 ⟨rfl, hi, hb, hk⟩; refine ⟨_, rfl, ?_⟩; have n0_ := Aside0.mk (KeepBut.trans (by repeat (first | (with_reducible first | exact HK.out | apply KeepBut.set_ | apply keep_drewN | apply keep_drew | apply keep_alloc) | exact HK.out)) hk (.inl rfl)); have n1_ := Aside0.mk (hb); have n2_ := Aside0.mk (hi); clear HK; clear HB; clear HI0; have HK := n0_; have HB := n1_; have HI0 := n2_; clear n0_ n1_ n2_; (try clear hb); (try clear hb2); (try clear hk); (try clear hi)) | ((with_reducible refine gate_callee (f := 55) rfl ?_); refine goesL_ (some 7) rfl rfl Try.func55 (by kernel_rfl) rfl #[.string t177] rfl (by (try simp only [List.map_toArray, List.map_cons, List.map_nil]); first | done | rfl | (simp only [List.length_drop, List.length_take]; rfl)) ?_; (with_reducible refine (podestaref15_Digits.calls k t177 true _ A3.out).mono ?_); rintro e w' ⟨rfl, ⟨nd, rfl⟩⟩; refine ⟨_, rfl, ?_⟩; (try (rw [drewN_self w6]; generalize hq_ : World.drewN w6 _ = w6; have n0_ : Aside0 (IsS79 w0 w6 g s0_0 t178 t179 t180 t181 t182) := ⟨by rw [← hq_]; exact (by repeat (first | (with_reducible first | exact HI0.out | apply IsS79.alloc | apply IsS79.drewN | apply IsS79.drew | apply IsS79.set_1 | apply IsS79.set_2 | apply IsS79.set_3 | apply IsS79.set_4 | apply IsS79.set_5) | exact HI0.out))⟩; have n1_ : Aside0 (KeepBut w w6 g none) := ⟨by rw [← hq_]; exact (by repeat (first | (with_reducible first | exact HK.out | apply KeepBut.set_ | apply keep_drewN | apply keep_drew | apply keep_alloc) | exact HK.out))⟩; have n2_ : Aside0 (Below w0.heap.size w0 w6) := ⟨by rw [← hq_]; exact (by repeat (first | (with_reducible first | exact HB.out | apply below_alloc | apply pw_below_drewN | apply below_drew1 | refine below_set ?_ (IsS79.ge HI0.out)) | exact HB.out))⟩; clear HI0 HK HB hq_; have HI0 := n0_; have HK := n1_; have HB := n2_; clear n0_ n1_ n2_)); obtain ⟨ASz7_0, cSz7_0, HGz7, hgz7, HSz7_0⟩ := HI0.out; have hcz7_0 := cellS79_0 HGz7; have hcz7_1 := cellS79_1 HGz7; have hcz7_2 := cellS79_2 HGz7; have hcz7_3 := cellS79_3 HGz7; have hcz7_4 := cellS79_4 HGz7; have hcz7_5 := cellS79_5 HGz7; have hfz7_1 := blk_frozen HGz7 1; have hfz7_2 := blk_frozen HGz7 2; have hfz7_3 := blk_frozen HGz7 3; have hfz7_4 := blk_frozen HGz7 4; have hfz7_5 := blk_frozen HGz7 5; clear HGz7 hgz7) | ((with_reducible refine gate_callee (f := 60) rfl ?_); refine goesL_ (some 19) rfl rfl Try.func60 (by kernel_rfl) rfl #[.string t177] rfl (by (try simp only [List.map_toArray, List.map_cons, List.map_nil]); first | done | rfl | (simp only [List.length_drop, List.length_take]; rfl)) ?_; (with_reducible refine (podestaref15_Num.calls k t177 t184 _ A5.out).mono ?_); rintro e w' ⟨rfl, ⟨nd, rfl⟩⟩; refine ⟨_, rfl, ?_⟩))
    go_ret
    exact ⟨by first | rfl | (simp [errW_none, errW_some] <;> rfl) | (simp [*, errW_none, errW_some] <;> rfl), by repeat (first | (with_reducible first | exact HI0.out | apply IsS79.alloc | apply IsS79.drewN | apply IsS79.drew | apply IsS79.set_1 | apply IsS79.set_2 | apply IsS79.set_3 | apply IsS79.set_4 | apply IsS79.set_5) | exact HI0.out), by repeat (first | (with_reducible first | exact HB.out | apply below_alloc | apply pw_below_drewN | apply below_drew1 | refine below_set ?_ (IsS79.ge HI0.out)) | exact HB.out), by repeat (first | (with_reducible first | exact HK.out | apply KeepBut.set_ | apply keep_drewN | apply keep_drew | apply keep_alloc) | exact HK.out)⟩
  · replace c4 := Bool.eq_false_iff.mpr c4
    subst c4
    have H1 : ((podestaref15_Eye_Bad.f s0_0 t178 t179 t180 t181 t182 15).bind fun bt185 => (some (0, bt185.1, bt185.2.1, bt185.2.2.1, bt185.2.2.2.1, bt185.2.2.2.2))) = some (r1, r2, r3, r4, r5, r6) := by rw [if_neg (show ¬ (false = true) by decide)] at H; exact H
    clear H
    have H := H1
    clear H1
    replace H := Option.bind_eq_some_iff.mp H
    obtain ⟨⟨t185, t186, t187, t188, t189⟩, A80, H⟩ := H
    replace H : (some (0, t185, t186, t187, t188, t189)) = some (r1, r2, r3, r4, r5, r6) := H
    have A8 := Aside0.mk A80
    clear A80
    simp only [Option.some.injEq, Prod.mk.injEq] at H
    obtain ⟨rfl, rfl, rfl, rfl, rfl, rfl⟩ := H
    go_enter Try.func36, Try.ntmps36
    go_wp2_with (first | ((with_reducible refine gate_callee (f := 57) rfl ?_); refine goesL_ (some 5) rfl rfl Try.func57 (by kernel_rfl) rfl #[.pointer (some ⟨g, 0, none⟩)] rfl (by (try simp only [List.map_toArray, List.map_cons, List.map_nil]); first | done | rfl | (simp only [List.length_drop, List.length_take]; rfl)) ?_; (with_reducible refine (podestaref15_Eye_See.calls g s0_0 s0_1 s0_2 s0_3 s0_4 s0_5 t177 t178 t179 t180 t181 t182 w0 _ ?side1 ?side2 A2.out).mono ?_); (case side1 => repeat (first | (with_reducible first | exact HI0.out | apply IsS79.alloc | apply IsS79.drewN | apply IsS79.drew | apply IsS79.set_1 | apply IsS79.set_2 | apply IsS79.set_3 | apply IsS79.set_4 | apply IsS79.set_5) | exact HI0.out)); (case side2 => repeat (first | (with_reducible first | exact HB.out | apply below_alloc | apply pw_below_drewN | apply below_drew1 | refine below_set ?_ (IsS79.ge HI0.out)) | exact HB.out)); rintro e w9 ⟨rfl, hi, hb, hk⟩; refine ⟨_, rfl, ?_⟩; have n0_ := Aside0.mk (KeepBut.trans (by repeat (first | (with_reducible first | exact HK.out | apply KeepBut.set_ | apply keep_drewN | apply keep_drew | apply keep_alloc) | exact HK.out)) hk (.inl rfl)); have n1_ := Aside0.mk (hb); have n2_ := Aside0.mk (hi); clear HK; clear HB; clear HI0; have HK := n0_; have HB := n1_; have HI0 := n2_; clear n0_ n1_ n2_; (try clear hb); (try clear hb2); (try clear hk); (try clear hi)) | ((with_reducible refine gate_callee (f := 55) rfl ?_); refine goesL_ (some 7) rfl rfl Try.func55 (by kernel_rfl) rfl #[.string t177] rfl (by (try simp only [List.map_toArray, List.map_cons, List.map_nil]); first | done | rfl | (simp only [List.length_drop, List.length_take]; rfl)) ?_; (with_reducible refine (podestaref15_Digits.calls k t177 false _ A3.out).mono ?_); rintro e w' ⟨rfl, ⟨nd, rfl⟩⟩; refine ⟨_, rfl, ?_⟩) | ((with_reducible refine gate_callee (f := 59) rfl ?_); refine goesL_ (some 10) rfl rfl Try.func59 (by kernel_rfl) rfl #[.pointer (some ⟨g, 0, none⟩), .int .i64 15] rfl (by (try simp only [List.map_toArray, List.map_cons, List.map_nil]); first | done | rfl | (simp only [List.length_drop, List.length_take]; rfl)) ?_; (with_reducible refine (podestaref15_Eye_Bad.calls g s0_0 t178 t179 t180 t181 t182 15 t185 t186 t187 t188 t189 w0 _ ?side1 ?side2 A8.out).mono ?_); (case side1 => repeat (first | (with_reducible first | exact HI0.out | apply IsS79.alloc | apply IsS79.drewN | apply IsS79.drew | apply IsS79.set_1 | apply IsS79.set_2 | apply IsS79.set_3 | apply IsS79.set_4 | apply IsS79.set_5) | exact HI0.out)); (case side2 => repeat (first | (with_reducible first | exact HB.out | apply below_alloc | apply pw_below_drewN | apply below_drew1 | refine below_set ?_ (IsS79.ge HI0.out)) | exact HB.out)); rintro e w10 ⟨rfl, hi, hb, hk⟩; refine ⟨_, rfl, ?_⟩; have n0_ := Aside0.mk (KeepBut.trans (by repeat (first | (with_reducible first | exact HK.out | apply KeepBut.set_ | apply keep_drewN | apply keep_drew | apply keep_alloc) | exact HK.out)) hk (.inl rfl)); have n1_ := Aside0.mk (hb); have n2_ := Aside0.mk (hi); clear HK; clear HB; clear HI0; have HK := n0_; have HB := n1_; have HI0 := n2_; clear n0_ n1_ n2_; (try clear hb); (try clear hb2); (try clear hk); (try clear hi)))
    go_ret
    exact ⟨by first | rfl | (simp [errW_none, errW_some] <;> rfl) | (simp [*, errW_none, errW_some] <;> rfl), by repeat (first | (with_reducible first | exact HI0.out | apply IsS79.alloc | apply IsS79.drewN | apply IsS79.drew | apply IsS79.set_1 | apply IsS79.set_2 | apply IsS79.set_3 | apply IsS79.set_4 | apply IsS79.set_5) | exact HI0.out), by repeat (first | (with_reducible first | exact HB.out | apply below_alloc | apply pw_below_drewN | apply below_drew1 | refine below_set ?_ (IsS79.ge HI0.out)) | exact HB.out), by repeat (first | (with_reducible first | exact HK.out | apply KeepBut.set_ | apply keep_drewN | apply keep_drew | apply keep_alloc) | exact HK.out)⟩
end Go.Proofs.Ytdiadmlgeojefaa.A
namespace Go.Proofs.Ytdiadmlgeojefaa.A
open Go.RowKit Go.Proofs.YtdiadmlgeojefaaW.PrintWords Go.Proofs.YtdiadmlgeojefaaW.PrintLast Go.Proofs.YtdiadmlgeojefaaW.PrintMore
attribute [local go_sem] max2_int min2_int max_two min_two max_three min_three max_four min_four   -- for this text's walks alone
set_option linter.unusedVariables false
set_option linter.unusedSimpArgs false
def podestaref15_Eye_down.f (s0_0 : List (S112)) (s0_1 : Int) (s0_2 : Int) (s0_3 : Int) (s0_4 : Int) (s0_5 : Int) : Option (Bool × Int × Int × Int × Int × Int) := if s0_3 ≥ 40 then ((podestaref15_Eye_Bad.f s0_0 s0_1 s0_2 s0_3 s0_4 s0_5 13).bind fun bt190 => (some (false, bt190.1, bt190.2.1, bt190.2.2.1, bt190.2.2.2.1, bt190.2.2.2.2))) else (some (true, s0_1, s0_2, wrap64 (s0_3 + 1), s0_4, s0_5))
set_option maxHeartbeats 8000000 in
set_option maxRecDepth 100000 in
theorem podestaref15_Eye_down.calls (g : Nat) (s0_0 : List (S112)) (s0_1 : Int) (s0_2 : Int) (s0_3 : Int) (s0_4 : Int) (s0_5 : Int) (r1 : Bool) (r2 : Int) (r3 : Int) (r4 : Int) (r5 : Int) (r6 : Int) (w0 w : World) (hI : IsS79 w0 w g s0_0 s0_1 s0_2 s0_3 s0_4 s0_5) (hB : Below w0.heap.size w0 w) (h : podestaref15_Eye_down.f s0_0 s0_1 s0_2 s0_3 s0_4 s0_5 = some (r1, r2, r3, r4, r5, r6)) :
    Calls Try.prog 76 #[.pointer (some ⟨g, 0, none⟩)] w fun e w' => e = .returned (.bool r1) ∧ IsS79 w0 w' g s0_0 r2 r3 r4 r5 r6 ∧ Below w0.heap.size w0 w' ∧ KeepBut w w' g none := by
  have HI0 := Aside0.mk hI
  have HK := Aside0.mk (KeepBut.refl w g none)
  have HL := Aside0.mk hB.size
  clear hI
  have HW0 := Aside0.mk hB.size
  have HB := Aside0.mk hB
  clear hB
  have H : (if s0_3 ≥ 40 then ((podestaref15_Eye_Bad.f s0_0 s0_1 s0_2 s0_3 s0_4 s0_5 13).bind fun bt190 => (some (false, bt190.1, bt190.2.1, bt190.2.2.1, bt190.2.2.2.1, bt190.2.2.2.2))) else (some (true, s0_1, s0_2, wrap64 (s0_3 + 1), s0_4, s0_5))) = some (r1, r2, r3, r4, r5, r6) := h
  clear h
  by_cases c2 : s0_3 ≥ 40
  · rw [if_pos c2] at H
    have c2b0 : decide (40 ≤ s0_3) = true := decide_eq_true c2
    clear c2
    replace H := Option.bind_eq_some_iff.mp H
    obtain ⟨⟨t190, t191, t192, t193, t194⟩, A30, H⟩ := H
    replace H : (some (false, t190, t191, t192, t193, t194)) = some (r1, r2, r3, r4, r5, r6) := H
    have A3 := Aside0.mk A30
    clear A30
    simp only [Option.some.injEq, Prod.mk.injEq] at H
    obtain ⟨rfl, rfl, rfl, rfl, rfl, rfl⟩ := H
    obtain ⟨ASz4_0, cSz4_0, HGz4, hgz4, HSz4_0⟩ := HI0.out
    have hcz4_0 := cellS79_0 HGz4
    have hcz4_1 := cellS79_1 HGz4
    have hcz4_2 := cellS79_2 HGz4
    have hcz4_3 := cellS79_3 HGz4
    have hcz4_4 := cellS79_4 HGz4
    have hcz4_5 := cellS79_5 HGz4
    have hfz4_1 := blk_frozen HGz4 1
    have hfz4_2 := blk_frozen HGz4 2
    have hfz4_3 := blk_frozen HGz4 3
    have hfz4_4 := blk_frozen HGz4 4
    have hfz4_5 := blk_frozen HGz4 5
    clear HGz4 hgz4
    go_enter Try.func76, Try.ntmps76
    go_wp2_with (first | ((with_reducible refine gate_callee (f := 59) rfl ?_); refine goesL_ (some 9) rfl rfl Try.func59 (by kernel_rfl) rfl #[.pointer (some ⟨g, 0, none⟩), .int .i64 13] rfl (by (try simp only [List.map_toArray, List.map_cons, List.map_nil]); first | done | rfl | (simp only [List.length_drop, List.length_take]; rfl)) ?_; (with_reducible refine (podestaref15_Eye_Bad.calls g s0_0 s0_1 s0_2 s0_3 s0_4 s0_5 13 t190 t191 t192 t193 t194 w0 _ ?side1 ?side2 A3.out).mono ?_); (case side1 => repeat (first | (with_reducible first | exact HI0.out | apply IsS79.alloc | apply IsS79.drewN | apply IsS79.drew | apply IsS79.set_1 | apply IsS79.set_2 | apply IsS79.set_3 | apply IsS79.set_4 | apply IsS79.set_5) | exact HI0.out)); (case side2 => repeat (first | (with_reducible first | exact HB.out | apply below_alloc | apply pw_below_drewN | apply below_drew1 | refine below_set ?_ (IsS79.ge HI0.out)) | exact HB.out)); rintro e w5 ⟨rfl, hi, hb, hk⟩; refine ⟨_, rfl, ?_⟩; have n0_ := Aside0.mk (KeepBut.trans (by repeat (first | (with_reducible first | exact HK.out | apply KeepBut.set_ | apply keep_drewN | apply keep_drew | apply keep_alloc) | exact HK.out)) hk (.inl rfl)); have n1_ := Aside0.mk (hb); have n2_ := Aside0.mk (hi); clear HK; clear HB; clear HI0; have HK := n0_; have HB := n1_; have HI0 := n2_; clear n0_ n1_ n2_; (try clear hb); (try clear hb2); (try clear hk); (try clear hi)))
    go_ret
    exact ⟨by first | rfl | (simp [errW_none, errW_some] <;> rfl) | (simp [*, errW_none, errW_some] <;> rfl), by repeat (first | (with_reducible first | exact HI0.out | apply IsS79.alloc | apply IsS79.drewN | apply IsS79.drew | apply IsS79.set_1 | apply IsS79.set_2 | apply IsS79.set_3 | apply IsS79.set_4 | apply IsS79.set_5) | exact HI0.out), by repeat (first | (with_reducible first | exact HB.out | apply below_alloc | apply pw_below_drewN | apply below_drew1 | refine below_set ?_ (IsS79.ge HI0.out)) | exact HB.out), by repeat (first | (with_reducible first | exact HK.out | apply KeepBut.set_ | apply keep_drewN | apply keep_drew | apply keep_alloc) | exact HK.out)⟩
  · rw [if_neg c2] at H
    have c2b0 : decide (40 ≤ s0_3) = false := decide_eq_false c2
    clear c2
    simp only [Option.some.injEq, Prod.mk.injEq] at H
    obtain ⟨rfl, rfl, rfl, rfl, rfl, rfl⟩ := H
    obtain ⟨ASz6_0, cSz6_0, HGz6, hgz6, HSz6_0⟩ := HI0.out
    have hcz6_0 := cellS79_0 HGz6
    have hcz6_1 := cellS79_1 HGz6
    have hcz6_2 := cellS79_2 HGz6
    have hcz6_3 := cellS79_3 HGz6
    have hcz6_4 := cellS79_4 HGz6
    have hcz6_5 := cellS79_5 HGz6
    have hfz6_1 := blk_frozen HGz6 1
    have hfz6_2 := blk_frozen HGz6 2
    have hfz6_3 := blk_frozen HGz6 3
    have hfz6_4 := blk_frozen HGz6 4
    have hfz6_5 := blk_frozen HGz6 5
    clear HGz6 hgz6
    go_enter Try.func76, Try.ntmps76
    go_wp2
    go_ret
    exact ⟨by first | rfl | (simp [errW_none, errW_some] <;> rfl) | (simp [*, errW_none, errW_some] <;> rfl), by repeat (first | (with_reducible first | exact HI0.out | apply IsS79.alloc | apply IsS79.drewN | apply IsS79.drew | apply IsS79.set_1 | apply IsS79.set_2 | apply IsS79.set_3 | apply IsS79.set_4 | apply IsS79.set_5) | exact HI0.out), by repeat (first | (with_reducible first | exact HB.out | apply below_alloc | apply pw_below_drewN | apply below_drew1 | refine below_set ?_ (IsS79.ge HI0.out)) | exact HB.out), by repeat (first | (with_reducible first | exact HK.out | apply KeepBut.set_ | apply keep_drewN | apply keep_drew | apply keep_alloc) | exact HK.out)⟩
end Go.Proofs.Ytdiadmlgeojefaa.A
namespace Go.Proofs.Ytdiadmlgeojefaa.A
open Go.RowKit Go.Proofs.YtdiadmlgeojefaaW.PrintWords Go.Proofs.YtdiadmlgeojefaaW.PrintLast Go.Proofs.YtdiadmlgeojefaaW.PrintMore
attribute [local go_sem] max2_int min2_int max_two min_two max_three min_three max_four min_four   -- for this text's walks alone
set_option linter.unusedVariables false
set_option linter.unusedSimpArgs false
def podestaref15_level.f (a0 : Int) (a1 : Bool) : Option (List ByteArray) := if a0 = 0 then (some (([(⟨#[124, 124]⟩ : ByteArray)] : List ByteArray))) else (if a0 = 1 then (some (([(⟨#[38, 38]⟩ : ByteArray)] : List ByteArray))) else (if a0 = 2 then (some (([(⟨#[61, 61]⟩ : ByteArray), (⟨#[33, 61]⟩ : ByteArray), (⟨#[60]⟩ : ByteArray), (⟨#[60, 61]⟩ : ByteArray), (⟨#[62]⟩ : ByteArray), (⟨#[62, 61]⟩ : ByteArray)] : List ByteArray))) else (if a0 = 3 then (some (([(⟨#[43]⟩ : ByteArray), (⟨#[45]⟩ : ByteArray)] : List ByteArray))) else (if a1 = true then (some (([(⟨#[42]⟩ : ByteArray), (⟨#[47]⟩ : ByteArray), (⟨#[37]⟩ : ByteArray)] : List ByteArray))) else (some (([(⟨#[42]⟩ : ByteArray), (⟨#[37]⟩ : ByteArray)] : List ByteArray)))))))
set_option maxHeartbeats 8000000 in
set_option maxRecDepth 100000 in
theorem podestaref15_level.calls (a0 : Int) (a1 : Bool) (r : List ByteArray) (w : World) (h : podestaref15_level.f a0 a1 = some r) :
    Calls Try.prog 116 #[.int .i64 a0, .bool a1] w fun e w' => ∃ v0_ : Value, e = .returned (v0_) ∧ Kd.R Kd.string 9 w' w.heap.size (fun _ => True) v0_ r ∧ Below w.heap.size w w' := by
  have HB := Aside0.mk (Below.refl w.heap.size w)
  have H : (if a0 = 0 then (some (([(⟨#[124, 124]⟩ : ByteArray)] : List ByteArray))) else (if a0 = 1 then (some (([(⟨#[38, 38]⟩ : ByteArray)] : List ByteArray))) else (if a0 = 2 then (some (([(⟨#[61, 61]⟩ : ByteArray), (⟨#[33, 61]⟩ : ByteArray), (⟨#[60]⟩ : ByteArray), (⟨#[60, 61]⟩ : ByteArray), (⟨#[62]⟩ : ByteArray), (⟨#[62, 61]⟩ : ByteArray)] : List ByteArray))) else (if a0 = 3 then (some (([(⟨#[43]⟩ : ByteArray), (⟨#[45]⟩ : ByteArray)] : List ByteArray))) else (if a1 = true then (some (([(⟨#[42]⟩ : ByteArray), (⟨#[47]⟩ : ByteArray), (⟨#[37]⟩ : ByteArray)] : List ByteArray))) else (some (([(⟨#[42]⟩ : ByteArray), (⟨#[37]⟩ : ByteArray)] : List ByteArray)))))))) = some r := h
  clear h
  by_cases c3 : a0 = 0
  · rw [if_pos c3] at H
    have c3b0 : (a0 == 0) = true := beq_iff_eq.mpr c3
    have c3b1 : (a0 != 0) = false := bne_eq_false_iff_eq.mpr c3
    clear c3
    obtain ⟨y230, hy230⟩ : ∃ y_ : List ByteArray, y_ = (([(⟨#[124, 124]⟩ : ByteArray)] : List ByteArray)) := ⟨_, rfl⟩
    replace H : (some y230) = some r := by first | (rw [hy230]; with_reducible exact H) | (have H2_ := (Option.bind_some _ _).symm.trans H; rw [hy230]; with_reducible exact H2_) | (have H2_ := (Option.bind_some _ _).symm.trans H; with_reducible exact H2_) | with_reducible exact H | (rw [hy230]; exact H) | exact H
    have Ny230 := Aside0.mk hy230
    clear hy230
    obtain rfl := Option.some.inj H
    go_enter Try.func116, Try.ntmps116
    go_wp2_with (first | ((with_reducible refine gate_dst (N := 8) rfl ?_); refine Kd.R_lit Kd.string _ 9 ?hg (N := 8) ?hd (xs := ([(⟨#[124, 124]⟩ : ByteArray)] : List ByteArray)) (inner := [.string (⟨#[124, 124]⟩ : ByteArray)]) (ok := fun _ => True) (okp := fun _ => True) ?hr ?hp (fun _ hk => hk) trivial (Below.refl _ _) (Nat.le_refl _) (by simp) ?_; (case hd => rfl); (case hg => rfl); (case hr => first | (go_simp; done) | (go_simp; rfl)); (case hp => exact (Reps.one (show Kd.M Kd.string _ _ _ (⟨#[124, 124]⟩ : ByteArray) [.string (⟨#[124, 124]⟩ : ByteArray)] from rfl) (Reps.none _ _))); intro v231 w4 ho5 hb hg_ hnew_; clear hg_ hnew_; (first | rw [← Ny230.out] at ho5 | (simp only [Int.reduceToNat] at ho5; rw [← Ny230.out] at ho5)); have n0_ := Aside0.mk (Kd.R_lower ho5 (below_size (by repeat (first | (with_reducible first | exact HB.out | apply below_alloc | apply pw_below_drewN | apply below_drew1) | exact HB.out)))); have n1_ := Aside0.mk (below_step (by repeat (first | (with_reducible first | exact HB.out | apply below_alloc | apply pw_below_drewN | apply below_drew1) | exact HB.out)) hb); clear HB; have HO232 := n0_; have HB := n1_; clear n0_ n1_; clear hb ho5))
    go_ret
    exact ⟨_, by first | rfl | (simp [errW_none, errW_some] <;> rfl) | (simp [*, errW_none, errW_some] <;> rfl), by (with_reducible repeat (first | apply Kd.R_alloc | apply Kd.R_drewN | apply Kd.R_drew)); exact HO232.out, by repeat (first | (with_reducible first | exact HB.out | apply below_alloc | apply pw_below_drewN | apply below_drew1) | exact HB.out)⟩
  · rw [if_neg c3] at H
    have c3b0 : (a0 == 0) = false := beq_eq_false_iff_ne.mpr c3
    have c3b1 : (a0 != 0) = true := bne_iff_ne.mpr c3
    by_cases c6 : a0 = 1
    · rw [if_pos c6] at H
      have c6b0 : (a0 == 1) = true := beq_iff_eq.mpr c6
      have c6b1 : (a0 != 1) = false := bne_eq_false_iff_eq.mpr c6
      clear c6
      obtain ⟨y233, hy233⟩ : ∃ y_ : List ByteArray, y_ = (([(⟨#[38, 38]⟩ : ByteArray)] : List ByteArray)) := ⟨_, rfl⟩
      replace H : (some y233) = some r := by first | (rw [hy233]; with_reducible exact H) | (have H2_ := (Option.bind_some _ _).symm.trans H; rw [hy233]; with_reducible exact H2_) | (have H2_ := (Option.bind_some _ _).symm.trans H; with_reducible exact H2_) | with_reducible exact H | (rw [hy233]; exact H) | exact H
      have Ny233 := Aside0.mk hy233
      clear hy233
      obtain rfl := Option.some.inj H
      go_enter Try.func116, Try.ntmps116
      go_wp2_with (first | ((with_reducible refine gate_dst (N := 11) rfl ?_); refine Kd.R_lit Kd.string _ 9 ?hg (N := 11) ?hd (xs := ([(⟨#[38, 38]⟩ : ByteArray)] : List ByteArray)) (inner := [.string (⟨#[38, 38]⟩ : ByteArray)]) (ok := fun _ => True) (okp := fun _ => True) ?hr ?hp (fun _ hk => hk) trivial (Below.refl _ _) (Nat.le_refl _) (by simp) ?_; (case hd => rfl); (case hg => rfl); (case hr => first | (go_simp; done) | (go_simp; rfl)); (case hp => exact (Reps.one (show Kd.M Kd.string _ _ _ (⟨#[38, 38]⟩ : ByteArray) [.string (⟨#[38, 38]⟩ : ByteArray)] from rfl) (Reps.none _ _))); intro v234 w7 ho8 hb hg_ hnew_; clear hg_ hnew_; (first | rw [← Ny233.out] at ho8 | (simp only [Int.reduceToNat] at ho8; rw [← Ny233.out] at ho8)); have n0_ := Aside0.mk (Kd.R_lower ho8 (below_size (by repeat (first | (with_reducible first | exact HB.out | apply below_alloc | apply pw_below_drewN | apply below_drew1) | exact HB.out)))); have n1_ := Aside0.mk (below_step (by repeat (first | (with_reducible first | exact HB.out | apply below_alloc | apply pw_below_drewN | apply below_drew1) | exact HB.out)) hb); clear HB; have HO235 := n0_; have HB := n1_; clear n0_ n1_; clear hb ho8))
      go_ret
      exact ⟨_, by first | rfl | (simp [errW_none, errW_some] <;> rfl) | (simp [*, errW_none, errW_some] <;> rfl), by (with_reducible repeat (first | apply Kd.R_alloc | apply Kd.R_drewN | apply Kd.R_drew)); exact HO235.out, by repeat (first | (with_reducible first | exact HB.out | apply below_alloc | apply pw_below_drewN | apply below_drew1) | exact HB.out)⟩
    · rw [if_neg c6] at H
      have c6b0 : (a0 == 1) = false := beq_eq_false_iff_ne.mpr c6
      have c6b1 : (a0 != 1) = true := bne_iff_ne.mpr c6
      by_cases c9 : a0 = 2
      · rw [if_pos c9] at H
        have c9b0 : (a0 == 2) = true := beq_iff_eq.mpr c9
        have c9b1 : (a0 != 2) = false := bne_eq_false_iff_eq.mpr c9
        clear c9
        obtain ⟨y236, hy236⟩ : ∃ y_ : List ByteArray, y_ = (([(⟨#[61, 61]⟩ : ByteArray), (⟨#[33, 61]⟩ : ByteArray), (⟨#[60]⟩ : ByteArray), (⟨#[60, 61]⟩ : ByteArray), (⟨#[62]⟩ : ByteArray), (⟨#[62, 61]⟩ : ByteArray)] : List ByteArray)) := ⟨_, rfl⟩
        replace H : (some y236) = some r := by first | (rw [hy236]; with_reducible exact H) | (have H2_ := (Option.bind_some _ _).symm.trans H; rw [hy236]; with_reducible exact H2_) | (have H2_ := (Option.bind_some _ _).symm.trans H; with_reducible exact H2_) | with_reducible exact H | (rw [hy236]; exact H) | exact H
        have Ny236 := Aside0.mk hy236
        clear hy236
        obtain rfl := Option.some.inj H
        go_enter Try.func116, Try.ntmps116
        go_wp2_with (first | ((with_reducible refine gate_dst (N := 14) rfl ?_); refine Kd.R_lit Kd.string _ 9 ?hg (N := 14) ?hd (xs := ([(⟨#[61, 61]⟩ : ByteArray), (⟨#[33, 61]⟩ : ByteArray), (⟨#[60]⟩ : ByteArray), (⟨#[60, 61]⟩ : ByteArray), (⟨#[62]⟩ : ByteArray), (⟨#[62, 61]⟩ : ByteArray)] : List ByteArray)) (inner := [.string (⟨#[61, 61]⟩ : ByteArray), .string (⟨#[33, 61]⟩ : ByteArray), .string (⟨#[60]⟩ : ByteArray), .string (⟨#[60, 61]⟩ : ByteArray), .string (⟨#[62]⟩ : ByteArray), .string (⟨#[62, 61]⟩ : ByteArray)]) (ok := fun _ => True) (okp := fun _ => True) ?hr ?hp (fun _ hk => hk) trivial (Below.refl _ _) (Nat.le_refl _) (by simp) ?_; (case hd => rfl); (case hg => rfl); (case hr => first | (go_simp; done) | (go_simp; rfl)); (case hp => exact (Reps.one (show Kd.M Kd.string _ _ _ (⟨#[61, 61]⟩ : ByteArray) [.string (⟨#[61, 61]⟩ : ByteArray)] from rfl) (Reps.one (show Kd.M Kd.string _ _ _ (⟨#[33, 61]⟩ : ByteArray) [.string (⟨#[33, 61]⟩ : ByteArray)] from rfl) (Reps.one (show Kd.M Kd.string _ _ _ (⟨#[60]⟩ : ByteArray) [.string (⟨#[60]⟩ : ByteArray)] from rfl) (Reps.one (show Kd.M Kd.string _ _ _ (⟨#[60, 61]⟩ : ByteArray) [.string (⟨#[60, 61]⟩ : ByteArray)] from rfl) (Reps.one (show Kd.M Kd.string _ _ _ (⟨#[62]⟩ : ByteArray) [.string (⟨#[62]⟩ : ByteArray)] from rfl) (Reps.one (show Kd.M Kd.string _ _ _ (⟨#[62, 61]⟩ : ByteArray) [.string (⟨#[62, 61]⟩ : ByteArray)] from rfl) (Reps.none _ _)))))))); intro v237 w10 ho11 hb hg_ hnew_; clear hg_ hnew_; (first | rw [← Ny236.out] at ho11 | (simp only [Int.reduceToNat] at ho11; rw [← Ny236.out] at ho11)); have n0_ := Aside0.mk (Kd.R_lower ho11 (below_size (by repeat (first | (with_reducible first | exact HB.out | apply below_alloc | apply pw_below_drewN | apply below_drew1) | exact HB.out)))); have n1_ := Aside0.mk (below_step (by repeat (first | (with_reducible first | exact HB.out | apply below_alloc | apply pw_below_drewN | apply below_drew1) | exact HB.out)) hb); clear HB; have HO238 := n0_; have HB := n1_; clear n0_ n1_; clear hb ho11))
        go_ret
        exact ⟨_, by first | rfl | (simp [errW_none, errW_some] <;> rfl) | (simp [*, errW_none, errW_some] <;> rfl), by (with_reducible repeat (first | apply Kd.R_alloc | apply Kd.R_drewN | apply Kd.R_drew)); exact HO238.out, by repeat (first | (with_reducible first | exact HB.out | apply below_alloc | apply pw_below_drewN | apply below_drew1) | exact HB.out)⟩
      · rw [if_neg c9] at H
        have c9b0 : (a0 == 2) = false := beq_eq_false_iff_ne.mpr c9
        have c9b1 : (a0 != 2) = true := bne_iff_ne.mpr c9
        by_cases c12 : a0 = 3
        · rw [if_pos c12] at H
          have c12b0 : (a0 == 3) = true := beq_iff_eq.mpr c12
          have c12b1 : (a0 != 3) = false := bne_eq_false_iff_eq.mpr c12
          clear c12
          obtain ⟨y239, hy239⟩ : ∃ y_ : List ByteArray, y_ = (([(⟨#[43]⟩ : ByteArray), (⟨#[45]⟩ : ByteArray)] : List ByteArray)) := ⟨_, rfl⟩
          replace H : (some y239) = some r := by first | (rw [hy239]; with_reducible exact H) | (have H2_ := (Option.bind_some _ _).symm.trans H; rw [hy239]; with_reducible exact H2_) | (have H2_ := (Option.bind_some _ _).symm.trans H; with_reducible exact H2_) | with_reducible exact H | (rw [hy239]; exact H) | exact H
          have Ny239 := Aside0.mk hy239
          clear hy239
          obtain rfl := Option.some.inj H
          go_enter Try.func116, Try.ntmps116
          go_wp2_with (first | ((with_reducible refine gate_dst (N := 17) rfl ?_); refine Kd.R_lit Kd.string _ 9 ?hg (N := 17) ?hd (xs := ([(⟨#[43]⟩ : ByteArray), (⟨#[45]⟩ : ByteArray)] : List ByteArray)) (inner := [.string (⟨#[43]⟩ : ByteArray), .string (⟨#[45]⟩ : ByteArray)]) (ok := fun _ => True) (okp := fun _ => True) ?hr ?hp (fun _ hk => hk) trivial (Below.refl _ _) (Nat.le_refl _) (by simp) ?_; (case hd => rfl); (case hg => rfl); (case hr => first | (go_simp; done) | (go_simp; rfl)); (case hp => exact (Reps.one (show Kd.M Kd.string _ _ _ (⟨#[43]⟩ : ByteArray) [.string (⟨#[43]⟩ : ByteArray)] from rfl) (Reps.one (show Kd.M Kd.string _ _ _ (⟨#[45]⟩ : ByteArray) [.string (⟨#[45]⟩ : ByteArray)] from rfl) (Reps.none _ _)))); intro v240 w13 ho14 hb hg_ hnew_; clear hg_ hnew_; (first | rw [← Ny239.out] at ho14 | (simp only [Int.reduceToNat] at ho14; rw [← Ny239.out] at ho14)); have n0_ := Aside0.mk (Kd.R_lower ho14 (below_size (by repeat (first | (with_reducible first | exact HB.out | apply below_alloc | apply pw_below_drewN | apply below_drew1) | exact HB.out)))); have n1_ := Aside0.mk (below_step (by repeat (first | (with_reducible first | exact HB.out | apply below_alloc | apply pw_below_drewN | apply below_drew1) | exact HB.out)) hb); clear HB; have HO241 := n0_; have HB := n1_; clear n0_ n1_; clear hb ho14))
          go_ret
          exact ⟨_, by first | rfl | (simp [errW_none, errW_some] <;> rfl) | (simp [*, errW_none, errW_some] <;> rfl), by (with_reducible repeat (first | apply Kd.R_alloc | apply Kd.R_drewN | apply Kd.R_drew)); exact HO241.out, by repeat (first | (with_reducible first | exact HB.out | apply below_alloc | apply pw_below_drewN | apply below_drew1) | exact HB.out)⟩
        · rw [if_neg c12] at H
          have c12b0 : (a0 == 3) = false := beq_eq_false_iff_ne.mpr c12
          have c12b1 : (a0 != 3) = true := bne_iff_ne.mpr c12
          by_cases c15 : a1 = true
          · subst c15
            have H1 : (some (([(⟨#[42]⟩ : ByteArray), (⟨#[47]⟩ : ByteArray), (⟨#[37]⟩ : ByteArray)] : List ByteArray))) = some r := by rw [if_pos rfl] at H; exact H
            clear H
            have H := H1
            clear H1
            obtain ⟨y242, hy242⟩ : ∃ y_ : List ByteArray, y_ = (([(⟨#[42]⟩ : ByteArray), (⟨#[47]⟩ : ByteArray), (⟨#[37]⟩ : ByteArray)] : List ByteArray)) := ⟨_, rfl⟩
            replace H : (some y242) = some r := by first | (rw [hy242]; with_reducible exact H) | (have H2_ := (Option.bind_some _ _).symm.trans H; rw [hy242]; with_reducible exact H2_) | (have H2_ := (Option.bind_some _ _).symm.trans H; with_reducible exact H2_) | with_reducible exact H | (rw [hy242]; exact H) | exact H
            have Ny242 := Aside0.mk hy242
            clear hy242
            obtain rfl := Option.some.inj H
            go_enter Try.func116, Try.ntmps116
            go_wp2_with (first | ((with_reducible refine gate_dst (N := 19) rfl ?_); refine Kd.R_lit Kd.string _ 9 ?hg (N := 19) ?hd (xs := ([(⟨#[42]⟩ : ByteArray), (⟨#[47]⟩ : ByteArray), (⟨#[37]⟩ : ByteArray)] : List ByteArray)) (inner := [.string (⟨#[42]⟩ : ByteArray), .string (⟨#[47]⟩ : ByteArray), .string (⟨#[37]⟩ : ByteArray)]) (ok := fun _ => True) (okp := fun _ => True) ?hr ?hp (fun _ hk => hk) trivial (Below.refl _ _) (Nat.le_refl _) (by simp) ?_; (case hd => rfl); (case hg => rfl); (case hr => first | (go_simp; done) | (go_simp; rfl)); (case hp => exact (Reps.one (show Kd.M Kd.string _ _ _ (⟨#[42]⟩ : ByteArray) [.string (⟨#[42]⟩ : ByteArray)] from rfl) (Reps.one (show Kd.M Kd.string _ _ _ (⟨#[47]⟩ : ByteArray) [.string (⟨#[47]⟩ : ByteArray)] from rfl) (Reps.one (show Kd.M Kd.string _ _ _ (⟨#[37]⟩ : ByteArray) [.string (⟨#[37]⟩ : ByteArray)] from rfl) (Reps.none _ _))))); intro v243 w16 ho17 hb hg_ hnew_; clear hg_ hnew_; (first | rw [← Ny242.out] at ho17 | (simp only [Int.reduceToNat] at ho17; rw [← Ny242.out] at ho17)); have n0_ := Aside0.mk (Kd.R_lower ho17 (below_size (by repeat (first | (with_reducible first | exact HB.out | apply below_alloc | apply pw_below_drewN | apply below_drew1) | exact HB.out)))); have n1_ := Aside0.mk (below_step (by repeat (first | (with_reducible first | exact HB.out | apply below_alloc | apply pw_below_drewN | apply below_drew1) | exact HB.out)) hb); clear HB; have HO244 := n0_; have HB := n1_; clear n0_ n1_; clear hb ho17))
            go_ret
            exact ⟨_, by first | rfl | (simp [errW_none, errW_some] <;> rfl) | (simp [*, errW_none, errW_some] <;> rfl), by (with_reducible repeat (first | apply Kd.R_alloc | apply Kd.R_drewN | apply Kd.R_drew)); exact HO244.out, by repeat (first | (with_reducible first | exact HB.out | apply below_alloc | apply pw_below_drewN | apply below_drew1) | exact HB.out)⟩
          · replace c15 := Bool.eq_false_iff.mpr c15
            subst c15
            have H1 : (some (([(⟨#[42]⟩ : ByteArray), (⟨#[37]⟩ : ByteArray)] : List ByteArray))) = some r := by rw [if_neg (show ¬ (false = true) by decide)] at H; exact H
            clear H
            have H := H1
            clear H1
            obtain ⟨y245, hy245⟩ : ∃ y_ : List ByteArray, y_ = (([(⟨#[42]⟩ : ByteArray), (⟨#[37]⟩ : ByteArray)] : List ByteArray)) := ⟨_, rfl⟩
            replace H : (some y245) = some r := by first | (rw [hy245]; with_reducible exact H) | (have H2_ := (Option.bind_some _ _).symm.trans H; rw [hy245]; with_reducible exact H2_) | (have H2_ := (Option.bind_some _ _).symm.trans H; with_reducible exact H2_) | with_reducible exact H | (rw [hy245]; exact H) | exact H
            have Ny245 := Aside0.mk hy245
            clear hy245
            obtain rfl := Option.some.inj H
            go_enter Try.func116, Try.ntmps116
            go_wp2_with (first | ((with_reducible refine gate_dst (N := 20) rfl ?_); refine Kd.R_lit Kd.string _ 9 ?hg (N := 20) ?hd (xs := ([(⟨#[42]⟩ : ByteArray), (⟨#[37]⟩ : ByteArray)] : List ByteArray)) (inner := [.string (⟨#[42]⟩ : ByteArray), .string (⟨#[37]⟩ : ByteArray)]) (ok := fun _ => True) (okp := fun _ => True) ?hr ?hp (fun _ hk => hk) trivial (Below.refl _ _) (Nat.le_refl _) (by simp) ?_; (case hd => rfl); (case hg => rfl); (case hr => first | (go_simp; done) | (go_simp; rfl)); (case hp => exact (Reps.one (show Kd.M Kd.string _ _ _ (⟨#[42]⟩ : ByteArray) [.string (⟨#[42]⟩ : ByteArray)] from rfl) (Reps.one (show Kd.M Kd.string _ _ _ (⟨#[37]⟩ : ByteArray) [.string (⟨#[37]⟩ : ByteArray)] from rfl) (Reps.none _ _)))); intro v246 w18 ho19 hb hg_ hnew_; clear hg_ hnew_; (first | rw [← Ny245.out] at ho19 | (simp only [Int.reduceToNat] at ho19; rw [← Ny245.out] at ho19)); have n0_ := Aside0.mk (Kd.R_lower ho19 (below_size (by repeat (first | (with_reducible first | exact HB.out | apply below_alloc | apply pw_below_drewN | apply below_drew1) | exact HB.out)))); have n1_ := Aside0.mk (below_step (by repeat (first | (with_reducible first | exact HB.out | apply below_alloc | apply pw_below_drewN | apply below_drew1) | exact HB.out)) hb); clear HB; have HO247 := n0_; have HB := n1_; clear n0_ n1_; clear hb ho19))
            go_ret
            exact ⟨_, by first | rfl | (simp [errW_none, errW_some] <;> rfl) | (simp [*, errW_none, errW_some] <;> rfl), by (with_reducible repeat (first | apply Kd.R_alloc | apply Kd.R_drewN | apply Kd.R_drew)); exact HO247.out, by repeat (first | (with_reducible first | exact HB.out | apply below_alloc | apply pw_below_drewN | apply below_drew1) | exact HB.out)⟩
end Go.Proofs.Ytdiadmlgeojefaa.A
namespace Go.Proofs.Ytdiadmlgeojefaa.Mine
open Go.RowKit Go.Proofs.YtdiadmlgeojefaaW.PrintWords Go.Proofs.YtdiadmlgeojefaaW.PrintLast Go.Proofs.YtdiadmlgeojefaaW.PrintMore
section
variable {P : Program}
theorem run_load_cells (w : World) (ad : Addr) (ty : TypeId) (seg : List Value) (d : TypeDesc) (hc : ∀ j v, seg[j]? = some v → w.cell? (ad.add j) = some v)
    (hu : P.underlying ty = some d) (hd : (match d with | .struct _ | .array _ _ => true | _ => false) = true) (hi : (P.info? ty).map (·.size) = some seg.length) :
    (loadVar ty ad).run P w = .ok (.agg seg.toArray) w := by
  have hl : (loadCells ad seg.length).run P w = .ok seg.toArray w := run_loadCells_list (P := P) w ad seg hc
  cases hq : P.info? ty with
  | none => simp [hq] at hi
  | some i =>
    have hs : i.size = seg.length := by simpa [hq] using hi
    have hagg : (isAgg ty).run P w = .ok true w := by
      unfold isAgg
      rw [Sem.run_bind, run_underlying hu w]
      cases d <;> simp_all
    simp [loadVar, Sem.run_bind, hagg, sizeOf, typeInfo, hq, hs, hl]
end
theorem splice_one (cs : List Value) (j : Nat) (v : Value) (h : j < cs.length) : cs.take j ++ [v] ++ cs.drop (j + [v].length) = cs.set j v := by
  rw [List.set_eq_take_append_cons_drop, if_pos h]; simp
theorem splice_all (cs seg : List Value) (h : seg.length = cs.length) : cs.take 0 ++ seg ++ cs.drop (0 + seg.length) = seg := by
  simp [h]
section
variable {P : Program} {ops : Array Oper} {rest : List Oper} {o : Oper} {a : Act} {Q : Exit → Act → World → Prop} {W : World}
theorem ev_load (hgd : o.guard = none) {N : Tmp} (_hd : o.dst = some N) (ty : TypeId) (x : Operand) (ho : o.op = .load ty x) (ad : Addr) (hx : a.eval x = .pointer (some ad)) (seg : List Value) (d : TypeDesc)
    (hc : ∀ j v, seg[j]? = some v → W.cell? (ad.add j) = some v) (hu : P.underlying ty = some d) (hd : (match d with | .struct _ | .array _ _ => true | _ => false) = true) (hi : (P.info? ty).map (·.size) = some seg.length)
    (h : wpList P ops Q rest (a.put o.dst (.agg seg.toArray)) W) : wpList P ops Q (o :: rest) a W := by
  refine wpList_plain hgd fun K hK => ?_
  unfold Oper.wp execOp
  simp only [ho, hx, Instr.loadAt, Instr.sureAddr, Sem.run_bind, Sem.run_pure, Result.andThen_ok, run_load_cells W ad ty seg d hc hu hd hi]
  exact hK _ _ h
theorem blk_cells {g : Nat} {cs : List Value} {t : TypeId} (hh : W.heap[g]? = some (.cells cs.toArray t (0, 0))) (k : Nat) : W.cell? ⟨g, k, none⟩ = cs[k]? := by
  rw [blk_cell hh]; simp
theorem at_add (g j : Nat) : (⟨g, 0, none⟩ : Addr).add j = ⟨g, j, none⟩ := add_plain g j
theorem blk_all {g : Nat} {cs : List Value} {t : TypeId} (hh : W.heap[g]? = some (.cells cs.toArray t (0, 0))) : ∀ j v, cs[j]? = some v → W.cell? ((⟨g, 0, none⟩ : Addr).add j) = some v := fun j v hv => by
  rw [at_add, blk_cells hh, hv]
theorem blk_seg {g : Nat} {cs : List Value} {t : TypeId} (hh : W.heap[g]? = some (.cells cs.toArray t (0, 0))) (o' n : Nat) : ∀ j v, ((cs.drop o').take n)[j]? = some v → W.cell? ((⟨g, o', none⟩ : Addr).add j) = some v := fun j v hv => by
  have : (⟨g, o', none⟩ : Addr).add j = ⟨g, o' + j, none⟩ := by unfold Addr.add; split <;> simp_all
  rw [this, blk_cells hh]
  rw [List.getElem?_take] at hv
  split at hv
  · rwa [List.getElem?_drop] at hv
  · cases hv
theorem ev_store (hgd : o.guard = none) (hN : o.dst = none) (t : TypeId) (p x : Operand) (ho : o.op = .store t p x) {g j : Nat} {e : TypeId} {cs : List Value} (u : Value) (seg : List Value)
    (hp : a.eval p = .pointer (some ⟨g, j, none⟩)) (hx : a.eval x = u) (hu : u.cells.toList = seg) (hh : W.heap[g]? = some (.cells cs.toArray e (0, 0))) (hj : j + seg.length ≤ cs.length)
    (ht : (P.info? t).map (·.size) = some seg.length) (h1 : ∀ q ∈ seg, q.oneCell' = true)
    (h : ∀ w1, w1.heap[g]? = some (.cells (cs.take j ++ seg ++ cs.drop (j + seg.length)).toArray e (0, 0)) → W.grownBy w1 (some g) → w1.heap.size = W.heap.size → wpList P ops Q rest a w1) : wpList P ops Q (o :: rest) a W := by
  refine wpList_plain hgd fun K hK => ?_
  have hrun := run_store_run (P := P) t u seg hh hu ht (by simpa using hj) h1
  have hrow := setCells_row seg j W cs.toArray hh (by simpa using hj)
  obtain ⟨cur', r1, r2, r3⟩ := hrow
  obtain ⟨s1, s2, s3, s4⟩ := setCells_same g seg j W
  have hw : (W.setCells g j seg).heap[g]? = some (.cells (cs.take j ++ seg ++ cs.drop (j + seg.length)).toArray e (0, 0)) := by
    rw [r1]
    congr 2
    apply Array.ext'
    simpa using r3
  have hK' := hK _ _ (h _ hw ⟨s1, s2, s3, Nat.le_of_eq s4.symm, fun i _ hne => setCells_far seg j i (fun e => hne (by rw [e]))⟩ s4)
  unfold Oper.wp execOp
  simp only [ho, hp, hx, Sem.run_bind, hrun]
  simpa [Oper.upon, Act.put, hN] using hK'
theorem ev_alloc (hgd : o.guard = none) {N : Tmp} (_hd : o.dst = some N) {t : TypeId} (_ho : o.op = .alloc t) (cs : List Value)
    (hrun : (execOp a.eval o).run P W = .ok (.value (.pointer (some ⟨W.heap.size, 0, none⟩))) (W.alloc (.cells cs.toArray t (0, 0))))
    (h : ∀ g, g = W.heap.size → ∀ w1, w1.heap[g]? = some (.cells cs.toArray t (0, 0)) → Below W.heap.size W w1 → wpList P ops Q rest (a.put o.dst (.pointer (some ⟨g, 0, none⟩))) w1) : wpList P ops Q (o :: rest) a W :=
  box_event hgd _hd hrun h
theorem ev_box (hgd : o.guard = none) {N : Tmp} (_hd : o.dst = some N) {t : TypeId} (x : Operand) (ho : o.op = .box t x) (cs : List Value) (hx : a.eval x = .agg cs.toArray)
    (h : ∀ g, g = W.heap.size → ∀ w1, w1.heap[g]? = some (.cells cs.toArray t (0, 0)) → Below W.heap.size W w1 → wpList P ops Q rest (a.put o.dst (.pointer (some ⟨g, 0, none⟩))) w1) : wpList P ops Q (o :: rest) a W := by
  refine box_event hgd _hd ?_ h
  unfold execOp
  simp [ho, hx, Instr.box, newVar, newRow, Value.cells]
theorem ev_lit1 (hgd : o.guard = none) {N : Tmp} (_hd : o.dst = some N) (t e : TypeId) (x : Operand) (ho : o.op = .buildSlice t 1 #[(0, x)]) (cs : List Value) (hx : a.eval x = .agg cs.toArray) {z : Value} {size bytes : Nat}
    (hu : P.underlying t = some (.slice e)) (hinfo : (P.info? e).map (fun i => (i.zero, i.size, i.bytes)) = some (some z, size, bytes)) (hl : cs.length = size) (hs0 : 0 < size) (hs1 : size ≤ 1000)
    (h : wpList P ops Q rest (a.put o.dst (.slice (some ⟨W.heap.size, 0, none⟩) 1 1)) (W.alloc (.cells cs.toArray e))) : wpList P ops Q (o :: rest) a W := by
  obtain ⟨i, hi, hz, hsz, _⟩ := info_parts hinfo
  refine wpList_buildSlice hgd t e 1 #[(0, x)] ho cs.toArray i z hu hi hz (by rw [hsz]; omega) (by rw [hsz]; omega) ?_ h
  have := Great.fill_whole (s := size) hs0 [.agg cs.toArray] ((Array.range (1 * i.size)).map (z.cells[· % z.cells.size]!)) (by simp [Value.cells, hl]) (by simp [hsz])
  simpa [hx, hsz, Value.cells] using this
end
end Go.Proofs.Ytdiadmlgeojefaa.Mine
namespace Go.Proofs.Ytdiadmlgeojefaa.A
open Go.RowKit Go.Proofs.YtdiadmlgeojefaaW.PrintWords Go.Proofs.YtdiadmlgeojefaaW.PrintLast Go.Proofs.YtdiadmlgeojefaaW.PrintMore
set_option linter.unusedVariables false
set_option linter.unusedSimpArgs false
structure St where
  i : Int
  en : Int
  deep : Int
  e : Int
  a : Int
def mk6 {α : Type} (r : Option (α × Int × Int × Int × Int × Int)) : Option (α × St) := r.map fun r => (r.1, ⟨r.2.1, r.2.2.1, r.2.2.2.1, r.2.2.2.2.1, r.2.2.2.2.2⟩)
def mk5 (r : Option (Int × Int × Int × Int × Int)) : Option St := r.map fun r => ⟨r.1, r.2.1, r.2.2.1, r.2.2.2.1, r.2.2.2.2⟩
theorem mk6_some {α : Type} {r : Option (α × Int × Int × Int × Int × Int)} {x : α} {s : St} (h : mk6 r = some (x, s)) : r = some (x, s.i, s.en, s.deep, s.e, s.a) := by
  unfold mk6 at h
  cases r with
  | none => cases h
  | some r =>
    simp only [Option.map_some, Option.some.injEq, Prod.mk.injEq] at h
    obtain ⟨rfl, rfl⟩ := h
    rfl
theorem mk5_some {r : Option (Int × Int × Int × Int × Int)} {s : St} (h : mk5 r = some s) : r = some (s.i, s.en, s.deep, s.e, s.a) := by
  unfold mk5 at h
  cases r with
  | none => cases h
  | some r =>
    simp only [Option.map_some, Option.some.injEq] at h
    subst h
    rfl
abbrev Toks := List S112
def eAt (L : Toks) (s : St) : Option (Int × St) := mk6 (podestaref15_Eye_At.f L s.i s.en s.deep s.e s.a)
def eSee (L : Toks) (s : St) : Option (ByteArray × St) := mk6 (podestaref15_Eye_See.f L s.i s.en s.deep s.e s.a)
def eEat (L : Toks) (t : ByteArray) (s : St) : Option (Bool × St) := mk6 (podestaref15_Eye_Eat.f L s.i s.en s.deep s.e s.a t)
def eBad (L : Toks) (x : Int) (s : St) : Option St := mk5 (podestaref15_Eye_Bad.f L s.i s.en s.deep s.e s.a x)
def eName (k : Nat) (L : Toks) (s : St) : Option (ByteArray × St) := mk6 (podestaref15_Eye_Name.f k L s.i s.en s.deep s.e s.a)
def eMust (L : Toks) (t : ByteArray) (s : St) : Option St := mk5 (podestaref15_Eye_Must.f L s.i s.en s.deep s.e s.a t)
def eInt (k : Nat) (L : Toks) (s : St) : Option (Int × St) := mk6 (podestaref15_Eye_Int.f k L s.i s.en s.deep s.e s.a)
def eDown (L : Toks) (s : St) : Option (Bool × St) := mk6 (podestaref15_Eye_down.f L s.i s.en s.deep s.e s.a)
def EyeAt (w0 W : World) (g : Nat) (L : Toks) (s : St) : Prop := IsS79 w0 W g L s.i s.en s.deep s.e s.a ∧ Below w0.heap.size w0 W
abbrev eyeP (g : Nat) : Value := .pointer (some ⟨g, 0, none⟩)
section
variable {w0 w W W1 : World} {g : Nat} {L : Toks} {s s' : St} {k : Nat}
theorem eAt_calls {r : Int} (h : eAt L s = some (r, s')) (hE : EyeAt w0 w g L s) : Calls Try.prog 32 #[eyeP g] w fun e w' => e = .returned (.int .i64 r) ∧ EyeAt w0 w' g L s' ∧ KeepBut w w' g none :=
  (podestaref15_Eye_At.calls g L s.i s.en s.deep s.e s.a r s'.i s'.en s'.deep s'.e s'.a w0 w hE.1 hE.2 (mk6_some h)).mono fun _ _ h => ⟨h.1, ⟨h.2.1, h.2.2.1⟩, h.2.2.2⟩
theorem eSee_calls {r : ByteArray} (h : eSee L s = some (r, s')) (hE : EyeAt w0 w g L s) : Calls Try.prog 57 #[eyeP g] w fun e w' => e = .returned (.string r) ∧ EyeAt w0 w' g L s' ∧ KeepBut w w' g none :=
  (podestaref15_Eye_See.calls g L s.i s.en s.deep s.e s.a r s'.i s'.en s'.deep s'.e s'.a w0 w hE.1 hE.2 (mk6_some h)).mono fun _ _ h => ⟨h.1, ⟨h.2.1, h.2.2.1⟩, h.2.2.2⟩
theorem eEat_calls {t : ByteArray} {r : Bool} (h : eEat L t s = some (r, s')) (hE : EyeAt w0 w g L s) : Calls Try.prog 33 #[eyeP g, .string t] w fun e w' => e = .returned (.bool r) ∧ EyeAt w0 w' g L s' ∧ KeepBut w w' g none :=
  (podestaref15_Eye_Eat.calls g L s.i s.en s.deep s.e s.a t r s'.i s'.en s'.deep s'.e s'.a w0 w hE.1 hE.2 (mk6_some h)).mono fun _ _ h => ⟨h.1, ⟨h.2.1, h.2.2.1⟩, h.2.2.2⟩
theorem eBad_calls {x : Int} (h : eBad L x s = some s') (hE : EyeAt w0 w g L s) : Calls Try.prog 59 #[eyeP g, .int .i64 x] w fun e w' => e = .returned (.tuple #[]) ∧ EyeAt w0 w' g L s' ∧ KeepBut w w' g none :=
  (podestaref15_Eye_Bad.calls g L s.i s.en s.deep s.e s.a x s'.i s'.en s'.deep s'.e s'.a w0 w hE.1 hE.2 (mk5_some h)).mono fun _ _ h => ⟨h.1, ⟨h.2.1, h.2.2.1⟩, h.2.2.2⟩
theorem eName_calls {r : ByteArray} (h : eName k L s = some (r, s')) (hE : EyeAt w0 w g L s) : Calls Try.prog 34 #[eyeP g] w fun e w' => e = .returned (.string r) ∧ EyeAt w0 w' g L s' ∧ KeepBut w w' g none :=
  (podestaref15_Eye_Name.calls k g L s.i s.en s.deep s.e s.a r s'.i s'.en s'.deep s'.e s'.a w0 w hE.1 hE.2 (mk6_some h)).mono fun _ _ h => ⟨h.1, ⟨h.2.1, h.2.2.1⟩, h.2.2.2⟩
theorem eMust_calls {t : ByteArray} (h : eMust L t s = some s') (hE : EyeAt w0 w g L s) : Calls Try.prog 35 #[eyeP g, .string t] w fun e w' => e = .returned (.tuple #[]) ∧ EyeAt w0 w' g L s' ∧ KeepBut w w' g none :=
  (podestaref15_Eye_Must.calls g L s.i s.en s.deep s.e s.a t s'.i s'.en s'.deep s'.e s'.a w0 w hE.1 hE.2 (mk5_some h)).mono fun _ _ h => ⟨h.1, ⟨h.2.1, h.2.2.1⟩, h.2.2.2⟩
theorem eInt_calls {r : Int} (h : eInt k L s = some (r, s')) (hE : EyeAt w0 w g L s) : Calls Try.prog 36 #[eyeP g] w fun e w' => e = .returned (.int .i64 r) ∧ EyeAt w0 w' g L s' ∧ KeepBut w w' g none :=
  (podestaref15_Eye_Int.calls k g L s.i s.en s.deep s.e s.a r s'.i s'.en s'.deep s'.e s'.a w0 w hE.1 hE.2 (mk6_some h)).mono fun _ _ h => ⟨h.1, ⟨h.2.1, h.2.2.1⟩, h.2.2.2⟩
theorem eDown_calls {r : Bool} (h : eDown L s = some (r, s')) (hE : EyeAt w0 w g L s) : Calls Try.prog 76 #[eyeP g] w fun e w' => e = .returned (.bool r) ∧ EyeAt w0 w' g L s' ∧ KeepBut w w' g none :=
  (podestaref15_Eye_down.calls g L s.i s.en s.deep s.e s.a r s'.i s'.en s'.deep s'.e s'.a w0 w hE.1 hE.2 (mk6_some h)).mono fun _ _ h => ⟨h.1, ⟨h.2.1, h.2.2.1⟩, h.2.2.2⟩
theorem EyeAt.below (h : EyeAt w0 W g L s) (hb : Below W.heap.size W W1) : EyeAt w0 W1 g L s := ⟨h.1.below hb, below_step h.2 hb⟩
theorem EyeAt.grown {b : Nat} (h : EyeAt w0 W g L s) (hb : W.grownBy W1 (some b)) (hne : b ≠ g) (hlo : w0.heap.size ≤ b) : EyeAt w0 W1 g L s :=
  ⟨h.1.grown hb (by simpa using (Ne.symm hne)), pw_below_grown h.2 _ h.2.size hb (by intro k hk; injection hk with hk; omega)⟩
theorem EyeAt.lt (h : EyeAt w0 W g L s) : g < W.heap.size := h.1.lt
theorem EyeAt.ge (h : EyeAt w0 W g L s) : w0.heap.size ≤ g := h.1.ge
theorem EyeAt.c1 (h : EyeAt w0 W g L s) : W.cell? ⟨g, 1, none⟩ = some (.int .i64 s.i) := by obtain ⟨A0, c0, hb, _⟩ := h.1; exact cellS79_1 hb
theorem EyeAt.c3 (h : EyeAt w0 W g L s) : W.cell? ⟨g, 3, none⟩ = some (.int .i64 s.deep) := by obtain ⟨A0, c0, hb, _⟩ := h.1; exact cellS79_3 hb
theorem EyeAt.c4 (h : EyeAt w0 W g L s) : W.cell? ⟨g, 4, none⟩ = some (.int .i64 s.e) := by obtain ⟨A0, c0, hb, _⟩ := h.1; exact cellS79_4 hb
theorem EyeAt.c5 (h : EyeAt w0 W g L s) : W.cell? ⟨g, 5, none⟩ = some (.int .i64 s.a) := by obtain ⟨A0, c0, hb, _⟩ := h.1; exact cellS79_5 hb
theorem keep_grown {b g : Nat} {w W W1 : World} (h : KeepBut w W g none) (hg : W.grownBy W1 (some b)) (hb : w.heap.size ≤ b ∨ b = g) : KeepBut w W1 g none := by
  rcases hb with hb | rfl
  · exact h.trans (KeepBut.of_grown hg g) (.inr ⟨b, rfl, hb⟩)
  · exact ⟨Nat.le_trans h.1 hg.size, fun i hi hne hn => (hg.block i (Nat.lt_of_lt_of_le hi h.1) (by simpa using hne)).trans (h.2 i hi hne hn)⟩
theorem keep_below {g : Nat} {w W W1 : World} (h : KeepBut w W g none) (hb : Below W.heap.size W W1) : KeepBut w W1 g none := h.trans (KeepBut.of_below hb g none) (.inl rfl)
theorem keep_keep {g : Nat} {w W W1 : World} (h : KeepBut w W g none) (hb : KeepBut W W1 g none) : KeepBut w W1 g none := h.trans hb (.inl rfl)
theorem keep_blk {g b : Nat} {W W1 : World} {o : Obj} (hk : KeepBut W W1 g none) (hb : W.heap[b]? = some o) (hne : b ≠ g) : W1.heap[b]? = some o := (hk.2 b (blk_lt hb) hne (by simp)).trans hb
theorem grown_blk {w w' : World} {g g' : Nat} {o : Obj} (hg : w.grownBy w' (some g)) (hb : w.heap[g']? = some o) (hne : g' ≠ g) : w'.heap[g']? = some o := (hg.block g' (blk_lt hb) (by simpa using hne)).trans hb
theorem below_blk {w w' : World} {g' : Nat} {o : Obj} (hg : Below w.heap.size w w') (hb : w.heap[g']? = some o) : w'.heap[g']? = some o := (hg.block g' (blk_lt hb)).trans hb
end
def nc (x : S29) (v : Value) : List Value := [.int .i64 x.f0, .string x.f1, .int .i64 x.f2, v, .int .i64 x.f4]
abbrev VK (W : World) (ok : Nat → Prop) (v : Value) (xs : List S29) : Prop := Kd.V k29 29 W 0 ok v xs
theorem nc_FK {W : World} {ok : Nat → Prop} {x : S29} {v : Value} (h : VK W ok v x.f3) : Kd.FK k29 W ok x (nc x v) := by
  obtain ⟨A, c, rfl, hl, hF⟩ := h
  exact k29_mkF W ok x hl hF
theorem nc_of_FK {W : World} {ok : Nat → Prop} {x : S29} {cs : List Value} (h : Kd.FK k29 W ok x cs) : ∃ v, cs = nc x v ∧ VK W ok v x.f3 := by
  obtain ⟨A, c, rfl, hl, hF⟩ := k29_openF h
  exact ⟨_, rfl, A, c, rfl, hl, hF⟩
theorem VK_one {W : World} {ok : Nat → Prop} {v : Value} {xs : List S29} (h : VK W ok v xs) : v.oneCell' = true := by
  obtain ⟨A, c, rfl, _⟩ := h
  rfl
theorem nc_one {x : S29} {v : Value} (h : v.oneCell' = true) : ∀ q ∈ nc x v, q.oneCell' = true := by
  intro q hq
  simp only [nc, List.mem_cons, List.not_mem_nil, or_false] at hq
  rcases hq with rfl | rfl | rfl | rfl | rfl <;> first | rfl | exact h
theorem info29s : (Try.prog.info? 29).map (·.size) = some 5 := by kernel_rfl
theorem info29 : (Try.prog.info? 29).map (fun i => (i.zero, i.size, i.bytes)) = some (some (.agg (nc z29 (.slice none 0 0)).toArray), 5, 64) := by kernel_rfl
section
variable {ops : Array Oper} {rest : List Oper} {o : Oper} {a : Act} {Q : Exit → Act → World → Prop} {W : World}
theorem ev_alloc29 (hgd : o.guard = none) {N : Tmp} (hd : o.dst = some N) (ho : o.op = .alloc 29)
    (h : ∀ b, b = W.heap.size → ∀ w1, w1.heap[b]? = some (.cells (nc z29 (.slice none 0 0)).toArray 29 (0, 0)) → Below W.heap.size W w1 → wpList Try.prog ops Q rest (a.put o.dst (.pointer (some ⟨b, 0, none⟩))) w1) : wpList Try.prog ops Q (o :: rest) a W := by
  refine Mine.ev_alloc hgd hd ho (nc z29 (.slice none 0 0)) ?_ (fun g hg w1 h1 h2 => h g hg w1 h1 h2)
  unfold execOp
  simp only [ho]
  go_simp
  rfl
theorem ev_store29 (hgd : o.guard = none) (hN : o.dst = none) (p x : Operand) (ho : o.op = .store 29 p x) {b : Nat} {y z : S29} {u v : Value} (hp : a.eval p = .pointer (some ⟨b, 0, none⟩)) (hx : a.eval x = .agg (nc z v).toArray)
    (hh : W.heap[b]? = some (.cells (nc y u).toArray 29 (0, 0))) (hv : v.oneCell' = true)
    (h : ∀ w1, w1.heap[b]? = some (.cells (nc z v).toArray 29 (0, 0)) → W.grownBy w1 (some b) → w1.heap.size = W.heap.size → wpList Try.prog ops Q rest a w1) : wpList Try.prog ops Q (o :: rest) a W :=
  Mine.ev_store hgd hN 29 p x ho _ (nc z v) hp hx rfl hh (Nat.le_refl _) info29s (nc_one hv) (fun w1 h1 h2 h3 => h w1 h1 h2 h3)
theorem ev_load29 (hgd : o.guard = none) {N : Tmp} (hd : o.dst = some N) (x : Operand) (ho : o.op = .load 29 x) {b : Nat} {z : S29} {v : Value} (hx : a.eval x = .pointer (some ⟨b, 0, none⟩))
    (hh : W.heap[b]? = some (.cells (nc z v).toArray 29 (0, 0))) (h : wpList Try.prog ops Q rest (a.put o.dst (.agg (nc z v).toArray)) W) : wpList Try.prog ops Q (o :: rest) a W :=
  Mine.ev_load hgd hd 29 x ho ⟨b, 0, none⟩ hx (nc z v) _ (Mine.blk_all hh) Try.underlying29 rfl info29s h
theorem ev_field29 (hgd : o.guard = none) (hN : o.dst = none) (t : TypeId) (p x : Operand) (ho : o.op = .store t p x) {b : Nat} {y : S29} {u : Value} (j : Nat) (q : Value) (hp : a.eval p = .pointer (some ⟨b, j, none⟩)) (hx : a.eval x = q)
    (hh : W.heap[b]? = some (.cells (nc y u).toArray 29 (0, 0))) (hj : j < 5) (hq : q.cells.toList = [q]) (h1 : q.oneCell' = true) (ht : (Try.prog.info? t).map (·.size) = some 1) (z : S29) (v : Value) (hz : (nc y u).set j q = nc z v)
    (h : ∀ w1, w1.heap[b]? = some (.cells (nc z v).toArray 29 (0, 0)) → W.grownBy w1 (some b) → w1.heap.size = W.heap.size → wpList Try.prog ops Q rest a w1) : wpList Try.prog ops Q (o :: rest) a W :=
  Mine.ev_store hgd hN t p x ho q [q] hp hx hq hh (by simp [nc]; omega) ht (by simpa using h1) (fun w1 h2 h3 h4 => h w1 (by rw [Mine.splice_one _ _ _ (by simp [nc]; omega), hz] at h2; exact h2) h3 h4)
theorem ev_eye1 (hgd : o.guard = none) (hN : o.dst = none) (p x : Operand) (ho : o.op = .store 3 p x) {w0 : World} {g : Nat} {L : Toks} {s : St} (n : Int) (hp : a.eval p = .pointer (some ⟨g, 1, none⟩)) (hx : a.eval x = .int .i64 n)
    (hE : EyeAt w0 W g L s) (h : ∀ w1, EyeAt w0 w1 g L { s with i := n } → W.grownBy w1 (some g) → w1.heap.size = W.heap.size → wpList Try.prog ops Q rest a w1) : wpList Try.prog ops Q (o :: rest) a W := by
  obtain ⟨⟨A0, c0, hb, hlo, hC⟩, hB⟩ := hE
  refine Mine.ev_store hgd hN 3 p x ho (.int .i64 n) [.int .i64 n] (cs := [.slice A0 L.length c0, .int .i64 s.i, .int .i64 s.en, .int .i64 s.deep, .int .i64 s.e, .int .i64 s.a]) hp hx rfl hb (by simp) (by kernel_rfl) (by simp [Value.oneCell']) (fun w1 h2 h3 h4 => h w1 ⟨⟨A0, c0, h2, hlo, hC⟩, ?_⟩ h3 h4)
  exact pw_below_grown hB _ hB.size h3 (by intro k hk; injection hk with hk; omega)
theorem ev_eye3 (hgd : o.guard = none) (hN : o.dst = none) (p x : Operand) (ho : o.op = .store 3 p x) {w0 : World} {g : Nat} {L : Toks} {s : St} (n : Int) (hp : a.eval p = .pointer (some ⟨g, 3, none⟩)) (hx : a.eval x = .int .i64 n)
    (hE : EyeAt w0 W g L s) (h : ∀ w1, EyeAt w0 w1 g L { s with deep := n } → W.grownBy w1 (some g) → w1.heap.size = W.heap.size → wpList Try.prog ops Q rest a w1) : wpList Try.prog ops Q (o :: rest) a W := by
  obtain ⟨⟨A0, c0, hb, hlo, hC⟩, hB⟩ := hE
  refine Mine.ev_store hgd hN 3 p x ho (.int .i64 n) [.int .i64 n] (cs := [.slice A0 L.length c0, .int .i64 s.i, .int .i64 s.en, .int .i64 s.deep, .int .i64 s.e, .int .i64 s.a]) hp hx rfl hb (by simp) (by kernel_rfl) (by simp [Value.oneCell']) (fun w1 h2 h3 h4 => h w1 ⟨⟨A0, c0, h2, hlo, hC⟩, ?_⟩ h3 h4)
  exact pw_below_grown hB _ hB.size h3 (by intro k hk; injection hk with hk; omega)
theorem ev_kid1 (hgd : o.guard = none) {N : Tmp} (hd : o.dst = some N) (x : Operand) (ho : o.op = .buildSlice 27 1 #[(0, x)]) {T : S29} {v : Value} {ok : Nat → Prop} (hx : a.eval x = .agg (nc T v).toArray) (hV : VK W ok v T.f3)
    (h : ∀ b w1, VK w1 (fun q => ok q ∨ W.heap.size ≤ q) (.slice (some ⟨b, 0, none⟩) 1 1) [T] → Below W.heap.size W w1 → wpList Try.prog ops Q rest (a.put o.dst (.slice (some ⟨b, 0, none⟩) 1 1)) w1) : wpList Try.prog ops Q (o :: rest) a W := by
  refine Mine.ev_lit1 hgd hd 27 29 x ho (nc T v) hx Try.underlying27 info29 rfl (by omega) (by omega) ?_
  have hb : Below W.heap.size W (W.alloc (.cells (nc T v).toArray 29)) := below_alloc (Below.refl _ _) _
  refine h W.heap.size _ ⟨some ⟨W.heap.size, 0, none⟩, 1, rfl, Nat.le_refl _, fun W' hW => ?_⟩ hb
  have hfk : k29.K W' T (nc T v) := (Kd.FK_below (nc_FK hV) hb) W' (fun k hk hlt => hW k (.inl hk) hlt)
  have hblk : W'.heap[W.heap.size]? = some (.cells (nc T v).toArray 29 (0, 0)) := by
    rw [hW W.heap.size (.inr (Nat.le_refl _)) (by simp)]
    exact heap_alloc_new W _
  refine ⟨rfl, by simp, fun _ => ⟨_, rfl, fun j p hj => ?_⟩⟩
  rcases j with _ | j
  · simp only [List.getElem?_cons_zero, Option.some.injEq] at hj
    subst hj
    refine ⟨nc T v, rfl, hfk, fun j u hu => ?_⟩
    have := Mine.blk_all hblk j u hu
    simpa using this
  · simp at hj
end
end Go.Proofs.Ytdiadmlgeojefaa.A
namespace Go.Proofs.Ytdiadmlgeojefaa.A
open Go.RowKit Go.Proofs.YtdiadmlgeojefaaW.PrintWords Go.Proofs.YtdiadmlgeojefaaW.PrintLast Go.Proofs.YtdiadmlgeojefaaW.PrintMore
set_option linter.unusedVariables false
set_option linter.unusedSimpArgs false
inductive Job where
  | one
  | part (kk : Int) (stroke : Bool)
  | ploop (kk : Int) (stroke : Bool) (n : S29)
  | expr (stroke : Bool)
  | mtch
  | mloop (n : S29)
  | acts
  | aloop (n : S29)
  | block
  | bloop (n : S29)
  | stmt
  | given (t : ByteArray) (at_ : Int)
  | rest (n : S29) (acts : Bool)
  | top (n : S29)
abbrev Rec := Job → St → Option (S29 × St)
abbrev nd (f0 : Int) (f1 : ByteArray) (f2 : Int) (f3 : List S29) (f4 : Int) : S29 := ⟨f0, f1, f2, f3, f4⟩
abbrev addKid (n c : S29) : S29 := ⟨n.f0, n.f1, n.f2, n.f3 ++ [c], n.f4⟩
abbrev St.next (s : St) : St := { s with i := wrap64 (s.i + 1) }
abbrev St.up (s : St) : St := { s with deep := wrap64 (s.deep - 1) }
abbrev tk0 : ByteArray := ⟨#[]⟩
section
variable (k : Nat) (L : Toks) (rec : Rec)
def one1 (at_ : Int) (t : ByteArray) (s : St) : Option (S29 × St) :=
  if t.toList = [45] ∨ t.toList = [33] then (rec .one s.next).bind fun r => some (nd 21 t 0 [r.1] at_, r.2.up)
  else if t.toList = [40] then (rec (.expr true) s.next).bind fun r => (eMust L ⟨#[41]⟩ r.2).bind fun s2 => some (r.1, s2.up)
  else (podestaref15_Digits.f k t).bind fun d => if d = true then (eInt k L s).bind fun r => some (nd 18 tk0 r.1 [] at_, r.2.up)
  else (eName k L s).bind fun r => some (nd 19 r.1 0 [] at_, r.2.up)
def one_ (s : St) : Option (S29 × St) := (eDown L s).bind fun d => if d.1 = true then (eAt L d.2).bind fun p => (eSee L p.2).bind fun q => one1 k L rec p.1 q.1 q.2 else some (z29, d.2)
def part_ (kk : Int) (stroke : Bool) (s : St) : Option (S29 × St) := if kk = 5 then rec .one s else (rec (.part (wrap64 (kk + 1)) stroke) s).bind fun r => rec (.ploop kk stroke r.1) r.2
def ploop_ (kk : Int) (stroke : Bool) (n : S29) (s : St) : Option (S29 × St) := (eSee L s).bind fun q => (podestaref15_level.f kk stroke).bind fun l => (podestaref15_in.f k l q.1).bind fun b =>
  if b = true then (rec (.part (wrap64 (kk + 1)) stroke) q.2.next).bind fun r => if kk = 2 then some (nd 20 q.1 0 [n, r.1] n.f4, r.2) else rec (.ploop kk stroke (nd 20 q.1 0 [n, r.1] n.f4)) r.2
  else some (n, q.2)
def expr_ (stroke : Bool) (s : St) : Option (S29 × St) := (eDown L s).bind fun d => if d.1 = true then (rec (.part 0 stroke) d.2).bind fun r => some (r.1, r.2.up) else some (z29, d.2)
def given_ (t : ByteArray) (at_ : Int) (s : St) : Option (S29 × St) := (eEat L t s).bind fun b => if b.1 = true then rec (.expr true) b.2 else some (nd 18 tk0 0 [] at_, b.2)
def mtch_ (s : St) : Option (S29 × St) := (eAt L s).bind fun p => (eMust L ⟨#[91]⟩ p.2).bind fun s2 => (eEat L ⟨#[93]⟩ s2).bind fun b => if b.1 = true then some (nd 12 tk0 0 [] p.1, b.2)
  else (rec (.mloop (nd 12 tk0 0 [] p.1)) b.2).bind fun r => (eMust L ⟨#[93]⟩ r.2).bind fun s3 => some (r.1, s3)
def mloop_ (n : S29) (s : St) : Option (S29 × St) := (eAt L s).bind fun p => (eName k L p.2).bind fun nm => (eMust L ⟨#[61]⟩ nm.2).bind fun s2 => (rec (.expr false) s2).bind fun r => (eEat L ⟨#[47]⟩ r.2).bind fun b =>
  (if b.1 = true then eInt k L b.2 else some (-1, b.2)).bind fun v => (eEat L ⟨#[44]⟩ v.2).bind fun c =>
  if c.1 = true then rec (.mloop (addKid n (nd 13 nm.1 v.1 [r.1] p.1))) c.2 else some (addKid n (nd 13 nm.1 v.1 [r.1] p.1), c.2)
def act_ (s : St) : Option (S29 × St) := (eAt L s).bind fun p => (eEat L ⟨#[111, 117, 116]⟩ p.2).bind fun b =>
  if b.1 = true then (rec (.expr true) b.2).bind fun r => some (nd 15 tk0 0 [r.1] p.1, r.2)
  else (eEat L ⟨#[115, 101, 116]⟩ b.2).bind fun b2 => if b2.1 = true then (eName k L b2.2).bind fun nm => (rec (.expr true) nm.2).bind fun r => some (nd 16 nm.1 0 [r.1] p.1, r.2)
  else (eEat L ⟨#[116, 101, 108, 108]⟩ b2.2).bind fun b3 => if b3.1 = true then some (nd 17 tk0 0 [] p.1, b3.2)
  else (eBad L 15 b3.2).bind fun s2 => some (nd 0 tk0 0 [] p.1, s2)
def acts_ (s : St) : Option (S29 × St) := (eMust L ⟨#[100, 111]⟩ s).bind fun s1 => (eAt L s1).bind fun p => (eEat L ⟨#[100, 114, 111, 112]⟩ p.2).bind fun b => if b.1 = true then some (nd 14 tk0 0 [] p.1, b.2)
  else rec (.aloop (nd 14 tk0 0 [] p.1)) b.2
def aloop_ (n : S29) (s : St) : Option (S29 × St) := (act_ k L rec s).bind fun r => (eEat L ⟨#[44]⟩ r.2).bind fun c => if c.1 = true then rec (.aloop (addKid n r.1)) c.2 else some (addKid n r.1, c.2)
def block_ (s : St) : Option (S29 × St) := (eAt L s).bind fun p => (eMust L ⟨#[123]⟩ p.2).bind fun s1 => (rec (.bloop (nd 7 tk0 0 [] p.1)) s1).bind fun r => (eMust L ⟨#[125]⟩ r.2).bind fun s2 => some (r.1, s2)
def bloop_ (n : S29) (s : St) : Option (S29 × St) := if s.e = 0 then (eSee L s).bind fun q => if q.1.toList = [125] then some (n, q.2) else (rec .stmt q.2).bind fun r => rec (.bloop (addKid n r.1)) r.2 else some (n, s)
def rest_ (n : S29) (acts : Bool) (s : St) : Option (S29 × St) := (rec (.expr true) s).bind fun r => (rec .mtch r.2).bind fun m => (eEat L ⟨#[112, 114, 105, 111]⟩ m.2).bind fun b =>
  (if b.1 = true then (rec (.expr true) b.2).bind fun p => some (nd n.f0 n.f1 1 (n.f3 ++ [r.1] ++ [m.1] ++ [p.1]) n.f4, p.2) else some (nd n.f0 n.f1 n.f2 (n.f3 ++ [r.1] ++ [m.1]) n.f4, b.2)).bind fun x =>
  (if acts = true then (rec .acts x.2).bind fun c => some (addKid x.1 c.1, c.2) else some x).bind fun y => (eMust L ⟨#[59]⟩ y.2).bind fun s2 => some (y.1, s2)
def add_ (at_ : Int) (s : St) : Option (S29 × St) := (rec (.expr true) s).bind fun r1 => (rec .mtch r1.2).bind fun r2 => (eMust L ⟨#[112, 114, 105, 111]⟩ r2.2).bind fun s3 => (rec (.expr true) s3).bind fun r4 =>
  (rec (.given ⟨#[105, 100, 108, 101]⟩ at_) r4.2).bind fun r5 => (rec (.given ⟨#[104, 97, 114, 100]⟩ at_) r5.2).bind fun r6 => (eEat L ⟨#[99, 104, 101, 99, 107]⟩ r6.2).bind fun b => (rec .acts b.2).bind fun r7 => (eMust L ⟨#[59]⟩ r7.2).bind fun s8 =>
  some (nd 8 tk0 (if b.1 = true then 1 else 0) [r1.1, r2.1, r4.1, r5.1, r6.1, r7.1] at_, s8)
def stmt1 (at_ : Int) (s : St) : Option (S29 × St) := (eSee L s).bind fun q => if q.1.toList = [123] then rec .block q.2
  else (eEat L ⟨#[105, 102]⟩ q.2).bind fun b1 => if b1.1 = true then (rec (.expr true) b1.2).bind fun r1 => (rec .block r1.2).bind fun r2 => (eEat L ⟨#[101, 108, 115, 101]⟩ r2.2).bind fun c =>
    if c.1 = true then (rec .block c.2).bind fun r3 => some (nd 5 tk0 0 [r1.1, r2.1, r3.1] at_, r3.2) else some (nd 5 tk0 0 [r1.1, r2.1] at_, c.2)
  else (eEat L ⟨#[119, 104, 105, 108, 101]⟩ b1.2).bind fun b2 => if b2.1 = true then (rec (.expr true) b2.2).bind fun r1 => (rec .block r1.2).bind fun r2 => some (nd 6 tk0 0 [r1.1, r2.1] at_, r2.2)
  else (eEat L ⟨#[97, 98, 111, 114, 116]⟩ b2.2).bind fun b3 => if b3.1 = true then (eMust L ⟨#[59]⟩ b3.2).bind fun s4 => some (nd 11 tk0 0 [] at_, s4)
  else (eEat L ⟨#[97, 100, 100]⟩ b3.2).bind fun b4 => if b4.1 = true then add_ L rec at_ b4.2
  else (eEat L ⟨#[100, 101, 108]⟩ b4.2).bind fun b5 => if b5.1 = true then rec (.rest (nd 9 tk0 0 [] at_) false) b5.2
  else (eEat L ⟨#[109, 111, 100]⟩ b5.2).bind fun b6 => if b6.1 = true then rec (.rest (nd 10 tk0 0 [] at_) true) b6.2
  else (eName k L b6.2).bind fun nm => (eMust L ⟨#[61]⟩ nm.2).bind fun s7 => (rec (.expr true) s7).bind fun r8 => (eMust L ⟨#[59]⟩ r8.2).bind fun s9 => some (nd 4 nm.1 0 [r8.1] at_, s9)
def stmt_ (s : St) : Option (S29 × St) := (eDown L s).bind fun d => if d.1 = true then (eAt L d.2).bind fun p => (stmt1 k L rec p.1 p.2).bind fun r => some (r.1, r.2.up) else some (z29, d.2)
def var_ (at_ : Int) (s : St) : Option (S29 × St) := (eName k L s).bind fun nm => (eMust L ⟨#[61]⟩ nm.2).bind fun s1 => (eEat L ⟨#[45]⟩ s1).bind fun b => (eInt k L b.2).bind fun v => (eMust L ⟨#[59]⟩ v.2).bind fun s2 => some (nd 2 nm.1 (if b.1 = true then wrap64 (-v.1) else v.1) [] at_, s2)
def on_ (at_ : Int) (s : St) : Option (S29 × St) := (eMust L ⟨#[111, 110]⟩ s).bind fun s1 => (eName k L s1).bind fun nm => (rec .block nm.2).bind fun r => some (nd 3 nm.1 0 r.1.f3 at_, r.2)
def top_ (n : S29) (s : St) : Option (S29 × St) := if s.e = 0 ∧ s.i < (L.length : Int) then (eAt L s).bind fun p => (eEat L ⟨#[118, 97, 114]⟩ p.2).bind fun b => (if b.1 = true then var_ k L p.1 b.2 else on_ k L rec p.1 b.2).bind fun r => rec (.top (addKid n r.1)) r.2 else some (n, s)
def step : Rec
  | .one => one_ k L rec
  | .part kk b => part_ rec kk b
  | .ploop kk b n => ploop_ k L rec kk b n
  | .expr b => expr_ L rec b
  | .mtch => mtch_ L rec
  | .mloop n => mloop_ k L rec n
  | .acts => acts_ L rec
  | .aloop n => aloop_ k L rec n
  | .block => block_ L rec
  | .bloop n => bloop_ L rec n
  | .stmt => stmt_ k L rec
  | .given t a => given_ L rec t a
  | .rest n b => rest_ L rec n b
  | .top n => top_ k L rec n
end
def run (k : Nat) (L : Toks) : Nat → Rec
  | 0 => fun _ _ => none
  | m + 1 => step k L (run k L m)
def NodePost (w0 w : World) (g : Nat) (L : Toks) (T : S29) (s : St) (e : Ending) (w' : World) : Prop :=
  ∃ v, e = .returned (.agg (nc T v).toArray) ∧ VK w' (fun q => w.heap.size ≤ q) v T.f3 ∧ EyeAt w0 w' g L s ∧ KeepBut w w' g none
def Gives (f : Nat) (args : List Value) (L : Toks) (s : St) (T : S29) (s' : St) : Prop :=
  ∀ (w0 w : World) (g : Nat), EyeAt w0 w g L s → Calls Try.prog f (eyeP g :: args).toArray w (NodePost w0 w g L T s')
def Shows (L : Toks) (rec : Rec) : Prop :=
  (∀ s T s', rec .one s = some (T, s') → Gives 115 [] L s T s') ∧
  (∀ kk b s T s', rec (.part kk b) s = some (T, s') → Gives 100 [.int .i64 kk, .bool b] L s T s') ∧
  (∀ b s T s', rec (.expr b) s = some (T, s') → Gives 77 [.bool b] L s T s') ∧
  (∀ s T s', rec .mtch s = some (T, s') → Gives 78 [] L s T s') ∧
  (∀ s T s', rec .acts s = some (T, s') → Gives 80 [] L s T s') ∧
  (∀ s T s', rec .block s = some (T, s') → Gives 37 [] L s T s') ∧
  (∀ s T s', rec .stmt s = some (T, s') → Gives 61 [] L s T s') ∧
  (∀ t a s T s', rec (.given t a) s = some (T, s') → Gives 79 [.string t, .int .i64 a] L s T s')
end Go.Proofs.Ytdiadmlgeojefaa.A
namespace Go.Proofs.Ytdiadmlgeojefaa.A
open Go.RowKit Go.Proofs.YtdiadmlgeojefaaW.PrintWords Go.Proofs.YtdiadmlgeojefaaW.PrintLast Go.Proofs.YtdiadmlgeojefaaW.PrintMore
set_option linter.unusedVariables false
set_option linter.unusedSimpArgs false
section
variable {ops : Array Oper} {rest : List Oper} {o : Oper} {a : Act} {Q : Exit → Act → World → Prop} {W : World}
theorem run_loadVar_cell (w : World) (ad : Addr) (ty : TypeId) (v : Value) (d : TypeDesc) (hc : w.cell? ad = some v) (hu : Try.prog.underlying ty = some d) (hd : (match d with | .struct _ | .array _ _ => true | _ => false) = false) :
    (loadVar ty ad).run Try.prog w = .ok v w := by
  have hagg : (isAgg ty).run Try.prog w = .ok false w := by
    unfold isAgg
    rw [Sem.run_bind, run_underlying hu w]
    cases d <;> simp_all
  simp [loadVar, Sem.run_bind, hagg, load, Sem.run, hc]
theorem ev_cell (hgd : o.guard = none) {N : Tmp} (_hd : o.dst = some N) (ty : TypeId) (x : Operand) (ho : o.op = .load ty x) (ad : Addr) (hx : a.eval x = .pointer (some ad)) (v : Value) (d : TypeDesc)
    (hc : W.cell? ad = some v) (hu : Try.prog.underlying ty = some d) (hd : (match d with | .struct _ | .array _ _ => true | _ => false) = false)
    (h : wpList Try.prog ops Q rest (a.put o.dst v) W) : wpList Try.prog ops Q (o :: rest) a W := by
  refine wpList_plain hgd fun K hK => ?_
  unfold Oper.wp execOp
  simp only [ho, hx, Instr.loadAt, Instr.sureAddr, Sem.run_bind, Sem.run_pure, Result.andThen_ok, run_loadVar_cell W ad ty v d hc hu hd]
  exact hK _ _ h
end
theorem eye_row {w0 W W1 : World} {g : Nat} {L : Toks} {s : St} {row : Option Nat} (h : EyeAt w0 W g L s) (hg : W.grownBy W1 row) (hr : ∀ q, row = some q → q ≠ g ∧ w0.heap.size ≤ q) : EyeAt w0 W1 g L s :=
  ⟨h.1.grown hg (fun e => (hr g e.symm).1 rfl), pw_below_grown h.2 _ h.2.size hg (fun k hk => (hr k hk).2)⟩
theorem keep_row {w W W1 : World} {g : Nat} {row : Option Nat} (h : KeepBut w W g none) (hg : W.grownBy W1 row) (hr : ∀ q, row = some q → w.heap.size ≤ q) : KeepBut w W1 g none := by
  refine h.trans (KeepBut.of_grown hg g) ?_
  cases row with
  | none => exact .inl rfl
  | some q => exact .inr ⟨q, rfl, hr q rfl⟩
theorem row_blk {W W1 : World} {b : Nat} {o : Obj} {row : Option Nat} (hg : W.grownBy W1 row) (hb : W.heap[b]? = some o) (hr : ∀ q, row = some q → q ≠ b) : W1.heap[b]? = some o :=
  (hg.block b (blk_lt hb) (fun e => hr b e.symm rfl)).trans hb
end Go.Proofs.Ytdiadmlgeojefaa.A
namespace Go.Proofs.Ytdiadmlgeojefaa.A
open Go.RowKit Go.Proofs.YtdiadmlgeojefaaW.PrintWords Go.Proofs.YtdiadmlgeojefaaW.PrintLast Go.Proofs.YtdiadmlgeojefaaW.PrintMore
theorem aK {p : Prop} (h : p) : Aside0 p := ⟨h⟩
theorem mpT {α β : Type} {f : α → β} {l : List α} {r : List β} (h : l.map f = r) : l.toArray.map f = r.toArray := by simpa using h
theorem gD (N : Tmp) {P : Program} {ops : Array Oper} {rest : List Oper} {o : Oper} {a : Act} {Q : Exit → Act → World → Prop} {w : World} (hd : o.dst = some N) (h : wpList P ops Q (o :: rest) a w) : wpList P ops Q (o :: rest) a w := gate_dst hd h
section
variable {n b c g : Nat} {w w0 W W1 : World} {o : Obj} {L : Toks} {s : St}
theorem Zb (hk : KeepBut W W1 g none) (h : Aside0 (W.heap[b]? = some o)) (h1 : Aside0 (n ≤ b)) (h2 : Aside0 (g < n)) : Aside0 (W1.heap[b]? = some o) := ⟨keep_blk hk h.out (by have := h1.out; have := h2.out; omega)⟩
theorem Zc (hb : Below W.heap.size W W1) (h : Aside0 (W.heap[b]? = some o)) : Aside0 (W1.heap[b]? = some o) := ⟨below_blk hb h.out⟩
theorem Zg (hg : W.grownBy W1 (some c)) (h : Aside0 (W.heap[b]? = some o)) (h1 : Aside0 (b < c)) : Aside0 (W1.heap[b]? = some o) := ⟨grown_blk hg h.out (by have := h1.out; omega)⟩
theorem Zh (hg : W.grownBy W1 (some c)) (h : Aside0 (W.heap[b]? = some o)) (h1 : Aside0 (c < b)) : Aside0 (W1.heap[b]? = some o) := ⟨grown_blk hg h.out (by have := h1.out; omega)⟩
theorem Ze (h : Aside0 (EyeAt w0 W g L s)) (hg : W.grownBy W1 (some b)) (h1 : Aside0 (n ≤ b)) (h2 : Aside0 (g < n)) : Aside0 (EyeAt w0 W1 g L s) := ⟨h.out.grown hg (by have := h1.out; have := h2.out; omega) (by have := h1.out; have := h2.out; have := h.out.ge; omega)⟩
theorem Zf (h : Aside0 (EyeAt w0 W g L s)) (hb : Below W.heap.size W W1) : Aside0 (EyeAt w0 W1 g L s) := ⟨h.out.below hb⟩
theorem Zk (h : Aside0 (KeepBut w W g none)) (hk : KeepBut W W1 g none) : Aside0 (KeepBut w W1 g none) := ⟨keep_keep h.out hk⟩
theorem Zw (h : Aside0 (KeepBut w W g none)) (hb : Below W.heap.size W W1) : Aside0 (KeepBut w W1 g none) := ⟨keep_below h.out hb⟩
theorem Zx (h : Aside0 (KeepBut w W g none)) (hg : W.grownBy W1 (some b)) (hb : Aside0 (w.heap.size ≤ b)) : Aside0 (KeepBut w W1 g none) := ⟨keep_grown h.out hg (.inl hb.out)⟩
end
end Go.Proofs.Ytdiadmlgeojefaa.A

namespace Go.Proofs.Ytdiadmlgeojefaa.A
open Go.RowKit Go.Proofs.YtdiadmlgeojefaaW.PrintWords Go.Proofs.YtdiadmlgeojefaaW.PrintLast Go.Proofs.YtdiadmlgeojefaaW.PrintMore
set_option linter.unusedVariables false
set_option linter.unusedSimpArgs false
set_option maxHeartbeats 4000000 in
set_option maxRecDepth 100000 in
theorem expr_shows {L : Toks} {rec : Rec} (hR : Shows L rec) (b : Bool) (s : St) (T : S29) (s' : St) (h : expr_ L rec b s = some (T, s')) : Gives 77 [.bool b] L s T s' := by
  intro w0 w g hE
  show Calls Try.prog 77 #[eyeP g, .bool b] w _
  have HE := aK hE
  have GL := aK hE.lt
  have HK := aK (KeepBut.refl w g none)
  clear hE
  obtain ⟨⟨d, s1⟩, hd, h⟩ := Option.bind_eq_some_iff.1 h
  cases d
  · simp only [Bool.false_eq_true, if_false, Option.some.injEq, Prod.mk.injEq] at h
    obtain ⟨rfl, rfl⟩ := h
    go_enter Try.func77, Try.ntmps77
    go_wp2_with (first
      | ((with_reducible refine gD 4 rfl ?_); refine ev_alloc29 rfl (N := 4) rfl rfl ?_; intro b1 hbn w1 hblk hbel; have GBb1 := aK (show w.heap.size ≤ b1 by have := HK.out.1; omega); replace HE := Zf HE hbel; replace HK := Zw HK hbel; have BXb1 := aK hblk; clear hblk hbel hbn)
      | ((with_reducible refine gD 7 rfl ?_); refine goesL_ (some 7) rfl rfl Try.func76 (by kernel_rfl) rfl #[eyeP g] rfl (mpT rfl) ?_; refine (eDown_calls hd HE.out).mono ?_; rintro e w1 ⟨rfl, he, hk⟩; refine ⟨_, rfl, ?_⟩; replace HE := aK (he); replace HK := Zk HK hk; replace BXb1 := Zb hk BXb1 GBb1 GL; clear he hk)
      | ((with_reducible refine gate_ (.store 29 (.tmp 4) (.tmp 9)) rfl ?_); refine ev_store29 rfl rfl (.tmp 4) (.tmp 9) rfl (b := b1) (z := z29) (v := (.slice none 0 0)) rfl rfl BXb1.out rfl ?_; intro w1 hblk hg hz; replace HE := Ze HE hg GBb1 GL; replace HK := Zx HK hg GBb1; replace BXb1 := aK (hblk); clear hblk hg hz))
    refine bodyPost_ret (results_cell_row rfl _ _ b1 29 (nc z29 (.slice none 0 0)).toArray _ _ rfl BXb1.out Try.underlying29 rfl info29s) rfl ?_
    exact ⟨(.slice none 0 0), rfl, Kd.V_nil _ _ _ _ _, HE.out, HK.out⟩
  · simp only [if_true] at h
    obtain ⟨⟨T1, s2⟩, hr, h⟩ := Option.bind_eq_some_iff.1 h
    simp only [Option.some.injEq, Prod.mk.injEq] at h
    obtain ⟨rfl, rfl⟩ := h
    go_enter Try.func77, Try.ntmps77
    go_wp2_with (first
      | ((with_reducible refine gD 4 rfl ?_); refine ev_alloc29 rfl (N := 4) rfl rfl ?_; intro b1 hbn w1 hblk hbel; have GBb1 := aK (show w.heap.size ≤ b1 by have := HK.out.1; omega); replace HE := Zf HE hbel; replace HK := Zw HK hbel; have BXb1 := aK hblk; clear hblk hbel hbn)
      | ((with_reducible refine gD 7 rfl ?_); refine goesL_ (some 7) rfl rfl Try.func76 (by kernel_rfl) rfl #[eyeP g] rfl (mpT rfl) ?_; refine (eDown_calls hd HE.out).mono ?_; rintro e w1 ⟨rfl, he, hk⟩; refine ⟨_, rfl, ?_⟩; replace HE := aK (he); replace HK := Zk HK hk; replace BXb1 := Zb hk BXb1 GBb1 GL; clear he hk)
      | ((with_reducible refine gD 12 rfl ?_); refine goesL_ (some 12) rfl rfl Try.func100 (by kernel_rfl) rfl #[eyeP g, .int .i64 0, .bool b] rfl (mpT rfl) ?_; refine (hR.2.1 _ _ _ _ _ hr _ _ _ HE.out).mono ?_; rintro e w1 ⟨v1, rfl, hv, he, hk⟩; refine ⟨_, rfl, ?_⟩; have hv2 := Kd.V_mono hv (ok' := fun q => w.heap.size ≤ q ∧ q ≠ b1) (fun q hq => by have h8 := hq; have h9 := HK.out.1; have h7b1 := blk_lt BXb1.out; refine ⟨?_, ?_⟩ <;> omega); clear hv; replace HE := aK (he); replace HK := Zk HK hk; replace BXb1 := Zb hk BXb1 GBb1 GL; have Vv1 := aK hv2; clear he hk hv2)
      | ((with_reducible refine gD 5 rfl ?_); refine ev_alloc29 rfl (N := 5) rfl rfl ?_; intro b2 hbn w1 hblk hbel; have GBb2 := aK (show w.heap.size ≤ b2 by have := HK.out.1; omega); have LTb1b2 := aK (show b1 < b2 by have := blk_lt BXb1.out; omega); replace HE := Zf HE hbel; replace HK := Zw HK hbel; replace BXb1 := Zc hbel BXb1; replace Vv1 := aK (Kd.V_below (Kd.V_mono (Kd.V_elderB Vv1.out b2 (Nat.le_of_eq hbn.symm)) (ok' := fun q => w.heap.size ≤ q ∧ q ≠ b2 ∧ q ≠ b1) (fun q hq => ⟨hq.1.1, hq.2, hq.1.2⟩)) hbel); have BXb2 := aK hblk; clear hblk hbel hbn)
      | ((with_reducible refine gate_ (.store 29 (.tmp 5) (.tmp 12)) rfl ?_); refine ev_store29 rfl rfl (.tmp 5) (.tmp 12) rfl (b := b2) (z := T1) (v := v1) rfl rfl BXb2.out (VK_one Vv1.out) ?_; intro w1 hblk hg hz; replace HE := Ze HE hg GBb2 GL; replace HK := Zx HK hg GBb2; replace BXb1 := Zg hg BXb1 LTb1b2; replace BXb2 := aK (hblk); replace Vv1 := aK (Kd.V_grown Vv1.out hg (fun q hq e => by injection e with e; exact hq.2.1 e)); clear hblk hg hz)
      | ((with_reducible refine gD 16 rfl ?_); refine ev_cell rfl (N := 16) rfl 3 (.tmp 15) rfl ⟨g, 3, none⟩ rfl _ _ HE.out.c3 Try.underlying3 rfl ?_)
      | ((with_reducible refine gate_ (.store 3 (.tmp 19) (.tmp 17)) rfl ?_); refine ev_eye3 rfl rfl (.tmp 19) (.tmp 17) rfl (wrap64 (s2.deep - 1)) rfl rfl HE.out ?_; intro w1 he hg hz; replace HE := aK (he); replace HK := aK (keep_grown HK.out hg (.inr rfl)); replace BXb1 := aK (grown_blk hg BXb1.out (by have := GBb1.out; have := GL.out; omega)); replace BXb2 := aK (grown_blk hg BXb2.out (by have := GBb2.out; have := GL.out; omega)); replace Vv1 := aK (Kd.V_grown Vv1.out hg (fun q hq e => by injection e with e; have h9 : w.heap.size ≤ q := hq.1; have := GL.out; omega)); clear he hg hz)
      | ((with_reducible refine gD 20 rfl ?_); refine ev_load29 rfl (N := 20) rfl (.tmp 5) rfl (b := b2) rfl BXb2.out ?_)
      | ((with_reducible refine gate_ (.store 29 (.tmp 4) (.tmp 20)) rfl ?_); refine ev_store29 rfl rfl (.tmp 4) (.tmp 20) rfl (b := b1) (z := T1) (v := v1) rfl rfl BXb1.out (VK_one Vv1.out) ?_; intro w1 hblk hg hz; replace HE := Ze HE hg GBb1 GL; replace HK := Zx HK hg GBb1; replace BXb1 := aK (hblk); replace BXb2 := Zh hg BXb2 LTb1b2; replace Vv1 := aK (Kd.V_grown Vv1.out hg (fun q hq e => by injection e with e; exact hq.2.2 e)); clear hblk hg hz))
    refine bodyPost_ret (results_cell_row rfl _ _ b1 29 (nc T1 v1).toArray _ _ rfl BXb1.out Try.underlying29 rfl info29s) rfl ?_
    exact ⟨v1, rfl, Kd.V_mono Vv1.out (fun q hq => hq.1), HE.out, HK.out⟩
end Go.Proofs.Ytdiadmlgeojefaa.A
namespace Go.Proofs.Ytdiadmlgeojefaa.A
open Go.RowKit Go.Proofs.YtdiadmlgeojefaaW.PrintWords Go.Proofs.YtdiadmlgeojefaaW.PrintLast Go.Proofs.YtdiadmlgeojefaaW.PrintMore
set_option linter.unusedVariables false
set_option linter.unusedSimpArgs false
set_option maxHeartbeats 4000000 in
set_option maxRecDepth 100000 in
theorem given_shows {L : Toks} {rec : Rec} (hR : Shows L rec) (tx : ByteArray) (at_ : Int) (s : St) (T : S29) (s' : St) (h : given_ L rec tx at_ s = some (T, s')) : Gives 79 [.string tx, .int .i64 at_] L s T s' := by
  intro w0 w g hE
  show Calls Try.prog 79 #[eyeP g, .string tx, .int .i64 at_] w _
  have HE := aK hE
  have GL := aK hE.lt
  have HK := aK (KeepBut.refl w g none)
  clear hE
  obtain ⟨⟨d, s1⟩, hd, h⟩ := Option.bind_eq_some_iff.1 h
  cases d
  · simp only [Bool.false_eq_true, if_false, Option.some.injEq, Prod.mk.injEq] at h
    obtain ⟨rfl, rfl⟩ := h
    go_enter Try.func79, Try.ntmps79
    go_wp2_with (first
      | ((with_reducible refine gD 6 rfl ?_); refine ev_alloc29 rfl (N := 6) rfl rfl ?_; intro b1 hbn w1 hblk hbel; have GBb1 := aK (show w.heap.size ≤ b1 by have := HK.out.1; omega); replace HE := Zf HE hbel; replace HK := Zw HK hbel; have BXb1 := aK hblk; clear hblk hbel hbn)
      | ((with_reducible refine gD 9 rfl ?_); refine goesL_ (some 9) rfl rfl Try.func33 (by kernel_rfl) rfl #[eyeP g, .string tx] rfl (mpT rfl) ?_; refine (eEat_calls hd HE.out).mono ?_; rintro e w1 ⟨rfl, he, hk⟩; refine ⟨_, rfl, ?_⟩; replace HE := aK (he); replace HK := Zk HK hk; replace BXb1 := Zb hk BXb1 GBb1 GL; clear he hk)
      | ((with_reducible refine gate_ (.store 29 (.tmp 6) (.tmp 13)) rfl ?_); refine ev_store29 rfl rfl (.tmp 6) (.tmp 13) rfl (b := b1) (z := nd 18 tk0 0 [] at_) (v := (.slice none 0 0)) rfl rfl BXb1.out rfl ?_; intro w1 hblk hg hz; replace HE := Ze HE hg GBb1 GL; replace HK := Zx HK hg GBb1; replace BXb1 := aK (hblk); clear hblk hg hz))
    refine bodyPost_ret (results_cell_row rfl _ _ b1 29 (nc (nd 18 tk0 0 [] at_) (.slice none 0 0)).toArray _ _ rfl BXb1.out Try.underlying29 rfl info29s) rfl ?_
    exact ⟨(.slice none 0 0), rfl, Kd.V_nil _ _ _ _ _, HE.out, HK.out⟩
  · simp only [if_true] at h
    go_enter Try.func79, Try.ntmps79
    go_wp2_with (first
      | ((with_reducible refine gD 6 rfl ?_); refine ev_alloc29 rfl (N := 6) rfl rfl ?_; intro b1 hbn w1 hblk hbel; have GBb1 := aK (show w.heap.size ≤ b1 by have := HK.out.1; omega); replace HE := Zf HE hbel; replace HK := Zw HK hbel; have BXb1 := aK hblk; clear hblk hbel hbn)
      | ((with_reducible refine gD 9 rfl ?_); refine goesL_ (some 9) rfl rfl Try.func33 (by kernel_rfl) rfl #[eyeP g, .string tx] rfl (mpT rfl) ?_; refine (eEat_calls hd HE.out).mono ?_; rintro e w1 ⟨rfl, he, hk⟩; refine ⟨_, rfl, ?_⟩; replace HE := aK (he); replace HK := Zk HK hk; replace BXb1 := Zb hk BXb1 GBb1 GL; clear he hk)
      | ((with_reducible refine gD 11 rfl ?_); refine goesL_ (some 11) rfl rfl Try.func77 (by kernel_rfl) rfl #[eyeP g, .bool true] rfl (mpT rfl) ?_; refine (hR.2.2.1 _ _ _ _ h _ _ _ HE.out).mono ?_; rintro e w1 ⟨v1, rfl, hv, he, hk⟩; refine ⟨_, rfl, ?_⟩; have hv2 := Kd.V_mono hv (ok' := fun q => w.heap.size ≤ q ∧ q ≠ b1) (fun q hq => by have h8 := hq; have h9 := HK.out.1; have h7b1 := blk_lt BXb1.out; refine ⟨?_, ?_⟩ <;> omega); clear hv; replace HE := aK (he); replace HK := Zk HK hk; replace BXb1 := Zb hk BXb1 GBb1 GL; have Vv1 := aK hv2; clear he hk hv2)
      | ((with_reducible refine gate_ (.store 29 (.tmp 6) (.tmp 11)) rfl ?_); refine ev_store29 rfl rfl (.tmp 6) (.tmp 11) rfl (b := b1) (z := T) (v := v1) rfl rfl BXb1.out (VK_one Vv1.out) ?_; intro w1 hblk hg hz; replace HE := Ze HE hg GBb1 GL; replace HK := Zx HK hg GBb1; replace BXb1 := aK (hblk); replace Vv1 := aK (Kd.V_grown Vv1.out hg (fun q hq e => by injection e with e; exact hq.2 e)); clear hblk hg hz))
    refine bodyPost_ret (results_cell_row rfl _ _ b1 29 (nc T v1).toArray _ _ rfl BXb1.out Try.underlying29 rfl info29s) rfl ?_
    exact ⟨v1, rfl, Kd.V_mono Vv1.out (fun q hq => hq.1), HE.out, HK.out⟩
end Go.Proofs.Ytdiadmlgeojefaa.A
namespace Go.Proofs.Ytdiadmlgeojefaa.A
open Go.RowKit Go.Proofs.YtdiadmlgeojefaaW.PrintWords Go.Proofs.YtdiadmlgeojefaaW.PrintLast Go.Proofs.YtdiadmlgeojefaaW.PrintMore
set_option linter.unusedVariables false
set_option linter.unusedSimpArgs false
set_option maxHeartbeats 4000000 in
set_option maxRecDepth 100000 in
theorem one_shows {k : Nat} {L : Toks} {rec : Rec} (hR : Shows L rec) (s : St) (T : S29) (s' : St) (h : one_ k L rec s = some (T, s')) : Gives 115 [] L s T s' := by
  intro w0 w g hE
  show Calls Try.prog 115 #[eyeP g] w _
  have HE := aK hE
  have GL := aK hE.lt
  have HK := aK (KeepBut.refl w g none)
  clear hE
  obtain ⟨⟨d, s1⟩, hd, h⟩ := Option.bind_eq_some_iff.1 h
  cases d
  · simp only [Bool.false_eq_true, if_false, Option.some.injEq, Prod.mk.injEq] at h
    obtain ⟨rfl, rfl⟩ := h
    go_enter Try.func115, Try.ntmps115
    go_wp2_with (first
      | ((with_reducible refine gD 2 rfl ?_); refine ev_alloc29 rfl (N := 2) rfl rfl ?_; intro b1 hbn w1 hblk hbel; have GBb1 := aK (show w.heap.size ≤ b1 by have := HK.out.1; omega); replace HE := Zf HE hbel; replace HK := Zw HK hbel; have BXb1 := aK hblk; clear hblk hbel hbn)
      | ((with_reducible refine gD 7 rfl ?_); refine goesL_ (some 7) rfl rfl Try.func76 (by kernel_rfl) rfl #[eyeP g] rfl (mpT rfl) ?_; refine (eDown_calls hd HE.out).mono ?_; rintro e w1 ⟨rfl, he, hk⟩; refine ⟨_, rfl, ?_⟩; replace HE := aK (he); replace HK := Zk HK hk; replace BXb1 := Zb hk BXb1 GBb1 GL; clear he hk)
      | ((with_reducible refine gate_ (.store 29 (.tmp 2) (.tmp 9)) rfl ?_); refine ev_store29 rfl rfl (.tmp 2) (.tmp 9) rfl (b := b1) (z := z29) (v := (.slice none 0 0)) rfl rfl BXb1.out rfl ?_; intro w1 hblk hg hz; replace HE := Ze HE hg GBb1 GL; replace HK := Zx HK hg GBb1; replace BXb1 := aK (hblk); clear hblk hg hz))
    refine bodyPost_ret (results_cell_row rfl _ _ b1 29 (nc z29 (.slice none 0 0)).toArray _ _ rfl BXb1.out Try.underlying29 rfl info29s) rfl ?_
    exact ⟨(.slice none 0 0), rfl, Kd.V_nil _ _ _ _ _, HE.out, HK.out⟩
  · simp only [if_true] at h
    obtain ⟨⟨at_, s2⟩, hat, h⟩ := Option.bind_eq_some_iff.1 h
    obtain ⟨⟨tx, s3⟩, hsee, h⟩ := Option.bind_eq_some_iff.1 h
    simp only [one1] at h
    by_cases c1 : tx.toList = [45] ∨ tx.toList = [33]
    · rw [if_pos c1] at h
      obtain ⟨⟨T1, s4⟩, hr, h⟩ := Option.bind_eq_some_iff.1 h
      simp only [Option.some.injEq, Prod.mk.injEq] at h
      obtain ⟨rfl, rfl⟩ := h
      have c2 : (tx.toList == [45] || tx.toList == [33]) = true := by rcases c1 with c1 | c1 <;> simp [c1]
      by_cases c3 : tx.toList = [45]
      all_goals
        (first | have c4 : (tx.toList == [45]) = true := beq_iff_eq.2 c3 | have c4 : (tx.toList == [45]) = false := beq_eq_false_iff_ne.2 c3)
        (try have c5 : (tx.toList == [33]) = true := by simpa [c4] using c2)
        clear c1 c2 c3
        go_enter Try.func115, Try.ntmps115
        go_wp2_with (first
          | ((with_reducible refine gD 2 rfl ?_); refine ev_alloc29 rfl (N := 2) rfl rfl ?_; intro b1 hbn w1 hblk hbel; have GBb1 := aK (show w.heap.size ≤ b1 by have := HK.out.1; omega); replace HE := Zf HE hbel; replace HK := Zw HK hbel; have BXb1 := aK hblk; clear hblk hbel hbn)
          | ((with_reducible refine gD 7 rfl ?_); refine goesL_ (some 7) rfl rfl Try.func76 (by kernel_rfl) rfl #[eyeP g] rfl (mpT rfl) ?_; refine (eDown_calls hd HE.out).mono ?_; rintro e w1 ⟨rfl, he, hk⟩; refine ⟨_, rfl, ?_⟩; replace HE := aK (he); replace HK := Zk HK hk; replace BXb1 := Zb hk BXb1 GBb1 GL; clear he hk)
          | ((with_reducible refine gD 11 rfl ?_); refine goesL_ (some 11) rfl rfl Try.func32 (by kernel_rfl) rfl #[eyeP g] rfl (mpT rfl) ?_; refine (eAt_calls hat HE.out).mono ?_; rintro e w1 ⟨rfl, he, hk⟩; refine ⟨_, rfl, ?_⟩; replace HE := aK (he); replace HK := Zk HK hk; replace BXb1 := Zb hk BXb1 GBb1 GL; clear he hk)
          | ((with_reducible refine gD 4 rfl ?_); refine ev_alloc29 rfl (N := 4) rfl rfl ?_; intro b2 hbn w1 hblk hbel; have GBb2 := aK (show w.heap.size ≤ b2 by have := HK.out.1; omega); have LTb1b2 := aK (show b1 < b2 by have := blk_lt BXb1.out; omega); replace HE := Zf HE hbel; replace HK := Zw HK hbel; replace BXb1 := Zc hbel BXb1; have BXb2 := aK hblk; clear hblk hbel hbn)
          | ((with_reducible refine gD 13 rfl ?_); refine goesL_ (some 13) rfl rfl Try.func57 (by kernel_rfl) rfl #[eyeP g] rfl (mpT rfl) ?_; refine (eSee_calls hsee HE.out).mono ?_; rintro e w1 ⟨rfl, he, hk⟩; refine ⟨_, rfl, ?_⟩; replace HE := aK (he); replace HK := Zk HK hk; replace BXb1 := Zb hk BXb1 GBb1 GL; replace BXb2 := Zb hk BXb2 GBb2 GL; clear he hk)
          | ((with_reducible refine gD 28 rfl ?_); refine ev_cell rfl (N := 28) rfl 3 (.tmp 27) rfl ⟨g, 1, none⟩ rfl _ _ HE.out.c1 Try.underlying3 rfl ?_)
          | ((with_reducible refine gate_ (.store 3 (.tmp 31) (.tmp 29)) rfl ?_); refine ev_eye1 rfl rfl (.tmp 31) (.tmp 29) rfl (wrap64 (s3.i + 1)) rfl rfl HE.out ?_; intro w1 he hg hz; replace HE := aK (he); replace HK := aK (keep_grown HK.out hg (.inr rfl)); replace BXb1 := aK (grown_blk hg BXb1.out (by have := GBb1.out; have := GL.out; omega)); replace BXb2 := aK (grown_blk hg BXb2.out (by have := GBb2.out; have := GL.out; omega)); clear he hg hz)
          | ((with_reducible refine gD 34 rfl ?_); refine goesL_ (some 34) rfl rfl Try.func115 (by kernel_rfl) rfl #[eyeP g] rfl (mpT rfl) ?_; refine (hR.1 _ _ _ hr _ _ _ HE.out).mono ?_; rintro e w1 ⟨v1, rfl, hv, he, hk⟩; refine ⟨_, rfl, ?_⟩; have hv2 := Kd.V_mono hv (ok' := fun q => w.heap.size ≤ q ∧ q ≠ b2 ∧ q ≠ b1) (fun q hq => by have h8 := hq; have h9 := HK.out.1; have h7b1 := blk_lt BXb1.out; have h7b2 := blk_lt BXb2.out; refine ⟨?_, ?_, ?_⟩ <;> omega); clear hv; replace HE := aK (he); replace HK := Zk HK hk; replace BXb1 := Zb hk BXb1 GBb1 GL; replace BXb2 := Zb hk BXb2 GBb2 GL; have Vv1 := aK hv2; clear he hk hv2)
          | ((with_reducible refine gD 35 rfl ?_); refine ev_kid1 rfl (N := 35) rfl (.tmp 34) rfl (T := T1) (v := v1) rfl Vv1.out ?_; intro k2 w1 hv hbel; have hv2 := Kd.V_mono hv (ok' := fun q => w.heap.size ≤ q ∧ q ≠ b2 ∧ q ≠ b1) (fun q hq => hq.elim (fun h => h) (fun hq => by have h8 := hq; have h9 := HK.out.1; have h7b1 := blk_lt BXb1.out; have h7b2 := blk_lt BXb2.out; refine ⟨?_, ?_, ?_⟩ <;> omega)); clear hv; replace HE := Zf HE hbel; replace HK := Zw HK hbel; replace BXb1 := Zc hbel BXb1; replace BXb2 := Zc hbel BXb2; have Vv2 := aK hv2; clear hv2 hbel Vv1)
          | ((with_reducible refine gate_ (.store 29 (.tmp 4) (.tmp 37)) rfl ?_); refine ev_store29 rfl rfl (.tmp 4) (.tmp 37) rfl (b := b2) (z := nd 21 tx 0 [T1] at_) (v := (.slice (some ⟨k2, 0, none⟩) 1 1)) rfl rfl BXb2.out rfl ?_; intro w1 hblk hg hz; replace HE := Ze HE hg GBb2 GL; replace HK := Zx HK hg GBb2; replace BXb1 := Zg hg BXb1 LTb1b2; replace BXb2 := aK (hblk); replace Vv2 := aK (Kd.V_grown Vv2.out hg (fun q hq e => by injection e with e; exact hq.2.1 e)); clear hblk hg hz)
          | ((with_reducible refine gD 62 rfl ?_); refine ev_cell rfl (N := 62) rfl 3 (.tmp 61) rfl ⟨g, 3, none⟩ rfl _ _ HE.out.c3 Try.underlying3 rfl ?_)
          | ((with_reducible refine gate_ (.store 3 (.tmp 65) (.tmp 63)) rfl ?_); refine ev_eye3 rfl rfl (.tmp 65) (.tmp 63) rfl (wrap64 (s4.deep - 1)) rfl rfl HE.out ?_; intro w1 he hg hz; replace HE := aK (he); replace HK := aK (keep_grown HK.out hg (.inr rfl)); replace BXb1 := aK (grown_blk hg BXb1.out (by have := GBb1.out; have := GL.out; omega)); replace BXb2 := aK (grown_blk hg BXb2.out (by have := GBb2.out; have := GL.out; omega)); replace Vv2 := aK (Kd.V_grown Vv2.out hg (fun q hq e => by injection e with e; have h9 : w.heap.size ≤ q := hq.1; have := GL.out; omega)); clear he hg hz)
          | ((with_reducible refine gD 66 rfl ?_); refine ev_load29 rfl (N := 66) rfl (.tmp 4) rfl (b := b2) rfl BXb2.out ?_)
          | ((with_reducible refine gate_ (.store 29 (.tmp 2) (.tmp 66)) rfl ?_); refine ev_store29 rfl rfl (.tmp 2) (.tmp 66) rfl (b := b1) (z := nd 21 tx 0 [T1] at_) (v := (.slice (some ⟨k2, 0, none⟩) 1 1)) rfl rfl BXb1.out rfl ?_; intro w1 hblk hg hz; replace HE := Ze HE hg GBb1 GL; replace HK := Zx HK hg GBb1; replace BXb1 := aK (hblk); replace BXb2 := Zh hg BXb2 LTb1b2; replace Vv2 := aK (Kd.V_grown Vv2.out hg (fun q hq e => by injection e with e; exact hq.2.2 e)); clear hblk hg hz))
        refine bodyPost_ret (results_cell_row rfl _ _ b1 29 (nc (nd 21 tx 0 [T1] at_) (.slice (some ⟨k2, 0, none⟩) 1 1)).toArray _ _ rfl BXb1.out Try.underlying29 rfl info29s) rfl ?_
        exact ⟨(.slice (some ⟨k2, 0, none⟩) 1 1), rfl, Kd.V_mono Vv2.out (fun q hq => hq.1), HE.out, HK.out⟩
    · rw [if_neg c1] at h
      have c2 : (tx.toList == [45]) = false := beq_eq_false_iff_ne.2 (fun e => c1 (.inl e))
      have c3 : (tx.toList == [33]) = false := beq_eq_false_iff_ne.2 (fun e => c1 (.inr e))
      clear c1
      by_cases c4 : tx.toList = [40]
      · rw [if_pos c4] at h
        obtain ⟨⟨T1, s4⟩, hr, h⟩ := Option.bind_eq_some_iff.1 h
        obtain ⟨s5, hm, h⟩ := Option.bind_eq_some_iff.1 h
        simp only [Option.some.injEq, Prod.mk.injEq] at h
        obtain ⟨rfl, rfl⟩ := h
        have c5 : (tx.toList == [40]) = true := beq_iff_eq.2 c4
        clear c4
        go_enter Try.func115, Try.ntmps115
        go_wp2_with (first
          | ((with_reducible refine gD 2 rfl ?_); refine ev_alloc29 rfl (N := 2) rfl rfl ?_; intro b1 hbn w1 hblk hbel; have GBb1 := aK (show w.heap.size ≤ b1 by have := HK.out.1; omega); replace HE := Zf HE hbel; replace HK := Zw HK hbel; have BXb1 := aK hblk; clear hblk hbel hbn)
          | ((with_reducible refine gD 7 rfl ?_); refine goesL_ (some 7) rfl rfl Try.func76 (by kernel_rfl) rfl #[eyeP g] rfl (mpT rfl) ?_; refine (eDown_calls hd HE.out).mono ?_; rintro e w1 ⟨rfl, he, hk⟩; refine ⟨_, rfl, ?_⟩; replace HE := aK (he); replace HK := Zk HK hk; replace BXb1 := Zb hk BXb1 GBb1 GL; clear he hk)
          | ((with_reducible refine gD 11 rfl ?_); refine goesL_ (some 11) rfl rfl Try.func32 (by kernel_rfl) rfl #[eyeP g] rfl (mpT rfl) ?_; refine (eAt_calls hat HE.out).mono ?_; rintro e w1 ⟨rfl, he, hk⟩; refine ⟨_, rfl, ?_⟩; replace HE := aK (he); replace HK := Zk HK hk; replace BXb1 := Zb hk BXb1 GBb1 GL; clear he hk)
          | ((with_reducible refine gD 4 rfl ?_); refine ev_alloc29 rfl (N := 4) rfl rfl ?_; intro b2 hbn w1 hblk hbel; have GBb2 := aK (show w.heap.size ≤ b2 by have := HK.out.1; omega); have LTb1b2 := aK (show b1 < b2 by have := blk_lt BXb1.out; omega); replace HE := Zf HE hbel; replace HK := Zw HK hbel; replace BXb1 := Zc hbel BXb1; have BXb2 := aK hblk; clear hblk hbel hbn)
          | ((with_reducible refine gD 13 rfl ?_); refine goesL_ (some 13) rfl rfl Try.func57 (by kernel_rfl) rfl #[eyeP g] rfl (mpT rfl) ?_; refine (eSee_calls hsee HE.out).mono ?_; rintro e w1 ⟨rfl, he, hk⟩; refine ⟨_, rfl, ?_⟩; replace HE := aK (he); replace HK := Zk HK hk; replace BXb1 := Zb hk BXb1 GBb1 GL; replace BXb2 := Zb hk BXb2 GBb2 GL; clear he hk)
          | ((with_reducible refine gD 44 rfl ?_); refine ev_cell rfl (N := 44) rfl 3 (.tmp 43) rfl ⟨g, 1, none⟩ rfl _ _ HE.out.c1 Try.underlying3 rfl ?_)
          | ((with_reducible refine gate_ (.store 3 (.tmp 47) (.tmp 45)) rfl ?_); refine ev_eye1 rfl rfl (.tmp 47) (.tmp 45) rfl (wrap64 (s3.i + 1)) rfl rfl HE.out ?_; intro w1 he hg hz; replace HE := aK (he); replace HK := aK (keep_grown HK.out hg (.inr rfl)); replace BXb1 := aK (grown_blk hg BXb1.out (by have := GBb1.out; have := GL.out; omega)); replace BXb2 := aK (grown_blk hg BXb2.out (by have := GBb2.out; have := GL.out; omega)); clear he hg hz)
          | ((with_reducible refine gD 49 rfl ?_); refine goesL_ (some 49) rfl rfl Try.func77 (by kernel_rfl) rfl #[eyeP g, .bool true] rfl (mpT rfl) ?_; refine (hR.2.2.1 _ _ _ _ hr _ _ _ HE.out).mono ?_; rintro e w1 ⟨v1, rfl, hv, he, hk⟩; refine ⟨_, rfl, ?_⟩; have hv2 := Kd.V_mono hv (ok' := fun q => w.heap.size ≤ q ∧ q ≠ b2 ∧ q ≠ b1) (fun q hq => by have h8 := hq; have h9 := HK.out.1; have h7b1 := blk_lt BXb1.out; have h7b2 := blk_lt BXb2.out; refine ⟨?_, ?_, ?_⟩ <;> omega); clear hv; replace HE := aK (he); replace HK := Zk HK hk; replace BXb1 := Zb hk BXb1 GBb1 GL; replace BXb2 := Zb hk BXb2 GBb2 GL; have Vv1 := aK hv2; clear he hk hv2)
          | ((with_reducible refine gate_ (.store 29 (.tmp 4) (.tmp 49)) rfl ?_); refine ev_store29 rfl rfl (.tmp 4) (.tmp 49) rfl (b := b2) (z := T1) (v := v1) rfl rfl BXb2.out (VK_one Vv1.out) ?_; intro w1 hblk hg hz; replace HE := Ze HE hg GBb2 GL; replace HK := Zx HK hg GBb2; replace BXb1 := Zg hg BXb1 LTb1b2; replace BXb2 := aK (hblk); replace Vv1 := aK (Kd.V_grown Vv1.out hg (fun q hq e => by injection e with e; exact hq.2.1 e)); clear hblk hg hz)
          | ((with_reducible refine gD 51 rfl ?_); refine goesL_ (some 51) rfl rfl Try.func35 (by kernel_rfl) rfl #[eyeP g, .string ⟨#[41]⟩] rfl (mpT rfl) ?_; refine (eMust_calls hm HE.out).mono ?_; rintro e w1 ⟨rfl, he, hk⟩; refine ⟨_, rfl, ?_⟩; replace HE := aK (he); replace HK := Zk HK hk; replace BXb1 := Zb hk BXb1 GBb1 GL; replace BXb2 := Zb hk BXb2 GBb2 GL; replace Vv1 := aK (Kd.V_keep Vv1.out hk (fun q hq e => by have h9 : w.heap.size ≤ q := hq.1; have := GL.out; omega)); clear he hk)
          | ((with_reducible refine gD 62 rfl ?_); refine ev_cell rfl (N := 62) rfl 3 (.tmp 61) rfl ⟨g, 3, none⟩ rfl _ _ HE.out.c3 Try.underlying3 rfl ?_)
          | ((with_reducible refine gate_ (.store 3 (.tmp 65) (.tmp 63)) rfl ?_); refine ev_eye3 rfl rfl (.tmp 65) (.tmp 63) rfl (wrap64 (s5.deep - 1)) rfl rfl HE.out ?_; intro w1 he hg hz; replace HE := aK (he); replace HK := aK (keep_grown HK.out hg (.inr rfl)); replace BXb1 := aK (grown_blk hg BXb1.out (by have := GBb1.out; have := GL.out; omega)); replace BXb2 := aK (grown_blk hg BXb2.out (by have := GBb2.out; have := GL.out; omega)); replace Vv1 := aK (Kd.V_grown Vv1.out hg (fun q hq e => by injection e with e; have h9 : w.heap.size ≤ q := hq.1; have := GL.out; omega)); clear he hg hz)
          | ((with_reducible refine gD 66 rfl ?_); refine ev_load29 rfl (N := 66) rfl (.tmp 4) rfl (b := b2) rfl BXb2.out ?_)
          | ((with_reducible refine gate_ (.store 29 (.tmp 2) (.tmp 66)) rfl ?_); refine ev_store29 rfl rfl (.tmp 2) (.tmp 66) rfl (b := b1) (z := T1) (v := v1) rfl rfl BXb1.out (VK_one Vv1.out) ?_; intro w1 hblk hg hz; replace HE := Ze HE hg GBb1 GL; replace HK := Zx HK hg GBb1; replace BXb1 := aK (hblk); replace BXb2 := Zh hg BXb2 LTb1b2; replace Vv1 := aK (Kd.V_grown Vv1.out hg (fun q hq e => by injection e with e; exact hq.2.2 e)); clear hblk hg hz))
        refine bodyPost_ret (results_cell_row rfl _ _ b1 29 (nc T1 v1).toArray _ _ rfl BXb1.out Try.underlying29 rfl info29s) rfl ?_
        exact ⟨v1, rfl, Kd.V_mono Vv1.out (fun q hq => hq.1), HE.out, HK.out⟩
      · rw [if_neg c4] at h
        have c5 : (tx.toList == [40]) = false := beq_eq_false_iff_ne.2 c4
        clear c4
        obtain ⟨d, hg, h⟩ := Option.bind_eq_some_iff.1 h
        cases d
        · simp only [Bool.false_eq_true, if_false] at h
          obtain ⟨⟨nm, s4⟩, hn, h⟩ := Option.bind_eq_some_iff.1 h
          simp only [Option.some.injEq, Prod.mk.injEq] at h
          obtain ⟨rfl, rfl⟩ := h
          go_enter Try.func115, Try.ntmps115
          go_wp2_with (first
            | ((with_reducible refine gD 2 rfl ?_); refine ev_alloc29 rfl (N := 2) rfl rfl ?_; intro b1 hbn w1 hblk hbel; have GBb1 := aK (show w.heap.size ≤ b1 by have := HK.out.1; omega); replace HE := Zf HE hbel; replace HK := Zw HK hbel; have BXb1 := aK hblk; clear hblk hbel hbn)
            | ((with_reducible refine gD 7 rfl ?_); refine goesL_ (some 7) rfl rfl Try.func76 (by kernel_rfl) rfl #[eyeP g] rfl (mpT rfl) ?_; refine (eDown_calls hd HE.out).mono ?_; rintro e w1 ⟨rfl, he, hk⟩; refine ⟨_, rfl, ?_⟩; replace HE := aK (he); replace HK := Zk HK hk; replace BXb1 := Zb hk BXb1 GBb1 GL; clear he hk)
            | ((with_reducible refine gD 11 rfl ?_); refine goesL_ (some 11) rfl rfl Try.func32 (by kernel_rfl) rfl #[eyeP g] rfl (mpT rfl) ?_; refine (eAt_calls hat HE.out).mono ?_; rintro e w1 ⟨rfl, he, hk⟩; refine ⟨_, rfl, ?_⟩; replace HE := aK (he); replace HK := Zk HK hk; replace BXb1 := Zb hk BXb1 GBb1 GL; clear he hk)
            | ((with_reducible refine gD 4 rfl ?_); refine ev_alloc29 rfl (N := 4) rfl rfl ?_; intro b2 hbn w1 hblk hbel; have GBb2 := aK (show w.heap.size ≤ b2 by have := HK.out.1; omega); have LTb1b2 := aK (show b1 < b2 by have := blk_lt BXb1.out; omega); replace HE := Zf HE hbel; replace HK := Zw HK hbel; replace BXb1 := Zc hbel BXb1; have BXb2 := aK hblk; clear hblk hbel hbn)
            | ((with_reducible refine gD 13 rfl ?_); refine goesL_ (some 13) rfl rfl Try.func57 (by kernel_rfl) rfl #[eyeP g] rfl (mpT rfl) ?_; refine (eSee_calls hsee HE.out).mono ?_; rintro e w1 ⟨rfl, he, hk⟩; refine ⟨_, rfl, ?_⟩; replace HE := aK (he); replace HK := Zk HK hk; replace BXb1 := Zb hk BXb1 GBb1 GL; replace BXb2 := Zb hk BXb2 GBb2 GL; clear he hk)
            | ((with_reducible refine gD 54 rfl ?_); refine goesL_ (some 54) rfl rfl Try.func55 (by kernel_rfl) rfl #[.string tx] rfl (mpT rfl) ?_; refine (podestaref15_Digits.calls k tx false _ hg).mono ?_; rintro e w1 ⟨rfl, hd9⟩; refine ⟨_, rfl, ?_⟩; have hbel := hd9.below; clear hd9; replace HE := Zf HE hbel; replace HK := Zw HK hbel; replace BXb1 := Zc hbel BXb1; replace BXb2 := Zc hbel BXb2; clear hbel)
            | ((with_reducible refine gD 15 rfl ?_); refine goesL_ (some 15) rfl rfl Try.func34 (by kernel_rfl) rfl #[eyeP g] rfl (mpT rfl) ?_; refine (eName_calls hn HE.out).mono ?_; rintro e w1 ⟨rfl, he, hk⟩; refine ⟨_, rfl, ?_⟩; replace HE := aK (he); replace HK := Zk HK hk; replace BXb1 := Zb hk BXb1 GBb1 GL; replace BXb2 := Zb hk BXb2 GBb2 GL; clear he hk)
            | ((with_reducible refine gate_ (.store 29 (.tmp 4) (.tmp 17)) rfl ?_); refine ev_store29 rfl rfl (.tmp 4) (.tmp 17) rfl (b := b2) (z := nd 19 nm 0 [] at_) (v := (.slice none 0 0)) rfl rfl BXb2.out rfl ?_; intro w1 hblk hg hz; replace HE := Ze HE hg GBb2 GL; replace HK := Zx HK hg GBb2; replace BXb1 := Zg hg BXb1 LTb1b2; replace BXb2 := aK (hblk); clear hblk hg hz)
            | ((with_reducible refine gD 62 rfl ?_); refine ev_cell rfl (N := 62) rfl 3 (.tmp 61) rfl ⟨g, 3, none⟩ rfl _ _ HE.out.c3 Try.underlying3 rfl ?_)
            | ((with_reducible refine gate_ (.store 3 (.tmp 65) (.tmp 63)) rfl ?_); refine ev_eye3 rfl rfl (.tmp 65) (.tmp 63) rfl (wrap64 (s4.deep - 1)) rfl rfl HE.out ?_; intro w1 he hg hz; replace HE := aK (he); replace HK := aK (keep_grown HK.out hg (.inr rfl)); replace BXb1 := aK (grown_blk hg BXb1.out (by have := GBb1.out; have := GL.out; omega)); replace BXb2 := aK (grown_blk hg BXb2.out (by have := GBb2.out; have := GL.out; omega)); clear he hg hz)
            | ((with_reducible refine gD 66 rfl ?_); refine ev_load29 rfl (N := 66) rfl (.tmp 4) rfl (b := b2) rfl BXb2.out ?_)
            | ((with_reducible refine gate_ (.store 29 (.tmp 2) (.tmp 66)) rfl ?_); refine ev_store29 rfl rfl (.tmp 2) (.tmp 66) rfl (b := b1) (z := nd 19 nm 0 [] at_) (v := (.slice none 0 0)) rfl rfl BXb1.out rfl ?_; intro w1 hblk hg hz; replace HE := Ze HE hg GBb1 GL; replace HK := Zx HK hg GBb1; replace BXb1 := aK (hblk); replace BXb2 := Zh hg BXb2 LTb1b2; clear hblk hg hz))
          refine bodyPost_ret (results_cell_row rfl _ _ b1 29 (nc (nd 19 nm 0 [] at_) (.slice none 0 0)).toArray _ _ rfl BXb1.out Try.underlying29 rfl info29s) rfl ?_
          exact ⟨(.slice none 0 0), rfl, Kd.V_nil _ _ _ _ _, HE.out, HK.out⟩
        · simp only [if_true] at h
          obtain ⟨⟨nm, s4⟩, hn, h⟩ := Option.bind_eq_some_iff.1 h
          simp only [Option.some.injEq, Prod.mk.injEq] at h
          obtain ⟨rfl, rfl⟩ := h
          go_enter Try.func115, Try.ntmps115
          go_wp2_with (first
            | ((with_reducible refine gD 2 rfl ?_); refine ev_alloc29 rfl (N := 2) rfl rfl ?_; intro b1 hbn w1 hblk hbel; have GBb1 := aK (show w.heap.size ≤ b1 by have := HK.out.1; omega); replace HE := Zf HE hbel; replace HK := Zw HK hbel; have BXb1 := aK hblk; clear hblk hbel hbn)
            | ((with_reducible refine gD 7 rfl ?_); refine goesL_ (some 7) rfl rfl Try.func76 (by kernel_rfl) rfl #[eyeP g] rfl (mpT rfl) ?_; refine (eDown_calls hd HE.out).mono ?_; rintro e w1 ⟨rfl, he, hk⟩; refine ⟨_, rfl, ?_⟩; replace HE := aK (he); replace HK := Zk HK hk; replace BXb1 := Zb hk BXb1 GBb1 GL; clear he hk)
            | ((with_reducible refine gD 11 rfl ?_); refine goesL_ (some 11) rfl rfl Try.func32 (by kernel_rfl) rfl #[eyeP g] rfl (mpT rfl) ?_; refine (eAt_calls hat HE.out).mono ?_; rintro e w1 ⟨rfl, he, hk⟩; refine ⟨_, rfl, ?_⟩; replace HE := aK (he); replace HK := Zk HK hk; replace BXb1 := Zb hk BXb1 GBb1 GL; clear he hk)
            | ((with_reducible refine gD 4 rfl ?_); refine ev_alloc29 rfl (N := 4) rfl rfl ?_; intro b2 hbn w1 hblk hbel; have GBb2 := aK (show w.heap.size ≤ b2 by have := HK.out.1; omega); have LTb1b2 := aK (show b1 < b2 by have := blk_lt BXb1.out; omega); replace HE := Zf HE hbel; replace HK := Zw HK hbel; replace BXb1 := Zc hbel BXb1; have BXb2 := aK hblk; clear hblk hbel hbn)
            | ((with_reducible refine gD 13 rfl ?_); refine goesL_ (some 13) rfl rfl Try.func57 (by kernel_rfl) rfl #[eyeP g] rfl (mpT rfl) ?_; refine (eSee_calls hsee HE.out).mono ?_; rintro e w1 ⟨rfl, he, hk⟩; refine ⟨_, rfl, ?_⟩; replace HE := aK (he); replace HK := Zk HK hk; replace BXb1 := Zb hk BXb1 GBb1 GL; replace BXb2 := Zb hk BXb2 GBb2 GL; clear he hk)
            | ((with_reducible refine gD 54 rfl ?_); refine goesL_ (some 54) rfl rfl Try.func55 (by kernel_rfl) rfl #[.string tx] rfl (mpT rfl) ?_; refine (podestaref15_Digits.calls k tx true _ hg).mono ?_; rintro e w1 ⟨rfl, hd9⟩; refine ⟨_, rfl, ?_⟩; have hbel := hd9.below; clear hd9; replace HE := Zf HE hbel; replace HK := Zw HK hbel; replace BXb1 := Zc hbel BXb1; replace BXb2 := Zc hbel BXb2; clear hbel)
            | ((with_reducible refine gD 56 rfl ?_); refine goesL_ (some 56) rfl rfl Try.func36 (by kernel_rfl) rfl #[eyeP g] rfl (mpT rfl) ?_; refine (eInt_calls hn HE.out).mono ?_; rintro e w1 ⟨rfl, he, hk⟩; refine ⟨_, rfl, ?_⟩; replace HE := aK (he); replace HK := Zk HK hk; replace BXb1 := Zb hk BXb1 GBb1 GL; replace BXb2 := Zb hk BXb2 GBb2 GL; clear he hk)
            | ((with_reducible refine gate_ (.store 29 (.tmp 4) (.tmp 58)) rfl ?_); refine ev_store29 rfl rfl (.tmp 4) (.tmp 58) rfl (b := b2) (z := nd 18 tk0 nm [] at_) (v := (.slice none 0 0)) rfl rfl BXb2.out rfl ?_; intro w1 hblk hg hz; replace HE := Ze HE hg GBb2 GL; replace HK := Zx HK hg GBb2; replace BXb1 := Zg hg BXb1 LTb1b2; replace BXb2 := aK (hblk); clear hblk hg hz)
            | ((with_reducible refine gD 62 rfl ?_); refine ev_cell rfl (N := 62) rfl 3 (.tmp 61) rfl ⟨g, 3, none⟩ rfl _ _ HE.out.c3 Try.underlying3 rfl ?_)
            | ((with_reducible refine gate_ (.store 3 (.tmp 65) (.tmp 63)) rfl ?_); refine ev_eye3 rfl rfl (.tmp 65) (.tmp 63) rfl (wrap64 (s4.deep - 1)) rfl rfl HE.out ?_; intro w1 he hg hz; replace HE := aK (he); replace HK := aK (keep_grown HK.out hg (.inr rfl)); replace BXb1 := aK (grown_blk hg BXb1.out (by have := GBb1.out; have := GL.out; omega)); replace BXb2 := aK (grown_blk hg BXb2.out (by have := GBb2.out; have := GL.out; omega)); clear he hg hz)
            | ((with_reducible refine gD 66 rfl ?_); refine ev_load29 rfl (N := 66) rfl (.tmp 4) rfl (b := b2) rfl BXb2.out ?_)
            | ((with_reducible refine gate_ (.store 29 (.tmp 2) (.tmp 66)) rfl ?_); refine ev_store29 rfl rfl (.tmp 2) (.tmp 66) rfl (b := b1) (z := nd 18 tk0 nm [] at_) (v := (.slice none 0 0)) rfl rfl BXb1.out rfl ?_; intro w1 hblk hg hz; replace HE := Ze HE hg GBb1 GL; replace HK := Zx HK hg GBb1; replace BXb1 := aK (hblk); replace BXb2 := Zh hg BXb2 LTb1b2; clear hblk hg hz))
          refine bodyPost_ret (results_cell_row rfl _ _ b1 29 (nc (nd 18 tk0 nm [] at_) (.slice none 0 0)).toArray _ _ rfl BXb1.out Try.underlying29 rfl info29s) rfl ?_
          exact ⟨(.slice none 0 0), rfl, Kd.V_nil _ _ _ _ _, HE.out, HK.out⟩
end Go.Proofs.Ytdiadmlgeojefaa.A
namespace Go.Proofs.Ytdiadmlgeojefaa.A
open Go.RowKit Go.Proofs.YtdiadmlgeojefaaW.PrintWords Go.Proofs.YtdiadmlgeojefaaW.PrintLast Go.Proofs.YtdiadmlgeojefaaW.PrintMore
set_option linter.unusedVariables false
set_option linter.unusedSimpArgs false
set_option maxHeartbeats 4000000 in
set_option maxRecDepth 100000 in
theorem mtch_shows {k : Nat} {L : Toks} {m : Nat} (hm : m ≤ 1099511627776) (hR : ∀ m', m' ≤ m → Shows L (run k L m')) (s : St) (T : S29) (s' : St) (h : mtch_ L (run k L m) s = some (T, s')) : Gives 78 [] L s T s' := by
  intro w0 w g hE
  show Calls Try.prog 78 #[eyeP g] w _
  have HE := aK hE
  have GL := aK hE.lt
  have HK := aK (KeepBut.refl w g none)
  clear hE
  have HM := aK hm
  clear hm
  obtain ⟨⟨at_, s1⟩, hat, h⟩ := Option.bind_eq_some_iff.1 h
  obtain ⟨s2, hm1, h⟩ := Option.bind_eq_some_iff.1 h
  obtain ⟨⟨d, s3⟩, hd, h⟩ := Option.bind_eq_some_iff.1 h
  cases d
  · simp only [Bool.false_eq_true, if_false] at h
    obtain ⟨⟨T1, s4⟩, hr, h⟩ := Option.bind_eq_some_iff.1 h
    obtain ⟨s5, hm2, h⟩ := Option.bind_eq_some_iff.1 h
    simp only [Option.some.injEq, Prod.mk.injEq] at h
    obtain ⟨rfl, rfl⟩ := h
    go_enter Try.func78, Try.ntmps78
    go_wp2_with (first
      | ((with_reducible refine gD 2 rfl ?_); go_must ((refine ev_alloc29 rfl (N := 2) rfl rfl ?_; intro b1 hbn w1 hblk hbel; have GBb1 := aK (show w.heap.size ≤ b1 by have := HK.out.1; omega); replace HE := Zf HE hbel; replace HK := Zw HK hbel; have BXb1 := aK hblk; clear hblk hbel hbn)))
      | ((with_reducible refine gD 7 rfl ?_); go_must ((refine goesL_ (some 7) rfl rfl Try.func32 (by kernel_rfl) rfl #[eyeP g] rfl (mpT rfl) ?_; refine (eAt_calls hat HE.out).mono ?_; rintro e w1 ⟨rfl, he, hk⟩; refine ⟨_, rfl, ?_⟩; replace HE := aK (he); replace HK := Zk HK hk; replace BXb1 := Zb hk BXb1 GBb1 GL; clear he hk)))
      | ((with_reducible refine gD 3 rfl ?_); go_must ((refine ev_alloc29 rfl (N := 3) rfl rfl ?_; intro b2 hbn w1 hblk hbel; have GBb2 := aK (show w.heap.size ≤ b2 by have := HK.out.1; omega); have LTb1b2 := aK (show b1 < b2 by have := blk_lt BXb1.out; omega); replace HE := Zf HE hbel; replace HK := Zw HK hbel; replace BXb1 := Zc hbel BXb1; have BXb2 := aK hblk; clear hblk hbel hbn)))
      | ((with_reducible refine gate_ (.store 29 (.tmp 3) (.tmp 8)) rfl ?_); go_must ((refine ev_store29 rfl rfl (.tmp 3) (.tmp 8) rfl (b := b2) (z := nd 12 tk0 0 [] at_) (v := (.slice none 0 0)) rfl rfl BXb2.out rfl ?_; intro w1 hblk hg hz; replace HE := Ze HE hg GBb2 GL; replace HK := Zx HK hg GBb2; replace BXb1 := Zg hg BXb1 LTb1b2; replace BXb2 := aK (hblk); clear hblk hg hz)))
      | ((with_reducible refine gD 10 rfl ?_); go_must ((refine goesL_ (some 10) rfl rfl Try.func35 (by kernel_rfl) rfl #[eyeP g, .string ⟨#[91]⟩] rfl (mpT rfl) ?_; refine (eMust_calls hm1 HE.out).mono ?_; rintro e w1 ⟨rfl, he, hk⟩; refine ⟨_, rfl, ?_⟩; replace HE := aK (he); replace HK := Zk HK hk; replace BXb1 := Zb hk BXb1 GBb1 GL; replace BXb2 := Zb hk BXb2 GBb2 GL; clear he hk)))
      | ((with_reducible refine gD 12 rfl ?_); go_must ((refine goesL_ (some 12) rfl rfl Try.func33 (by kernel_rfl) rfl #[eyeP g, .string ⟨#[93]⟩] rfl (mpT rfl) ?_; refine (eEat_calls hd HE.out).mono ?_; rintro e w1 ⟨rfl, he, hk⟩; refine ⟨_, rfl, ?_⟩; replace HE := aK (he); replace HK := Zk HK hk; replace BXb1 := Zb hk BXb1 GBb1 GL; replace BXb2 := Zb hk BXb2 GBb2 GL; clear he hk))))
    go_loopg [4] m (fun kq v4 w' => ∃ (c : Bool) (n : S29) (s : St) (v : Value), v4 = .bool c ∧ Aside0 ((c = true → run k L kq (.mloop n) s = some (T1, s4)) ∧ (c = false → n = T1 ∧ s = s4)) ∧ Aside0 (n.f3.length + kq ≤ m) ∧ Aside0 (EyeAt w0 w' g L s) ∧ Aside0 (KeepBut w w' g none) ∧ Aside0 (w'.heap[b1]? = some (.cells (nc z29 (.slice none 0 0)).toArray 29 (0, 0))) ∧ Aside0 (w'.heap[b2]? = some (.cells (nc n v).toArray 29 (0, 0))) ∧ Aside0 (Kd.N k29 29 w' w.heap.size (fun q => w.heap.size ≤ q ∧ q ≠ b2 ∧ q ≠ b1) v n.f3))
    case atStart => exact ⟨true, _, _, _, rfl, ⟨fun _ => hr, fun h => by cases h⟩, ⟨by simp⟩, HE, HK, BXb1, BXb2, ⟨Kd.N_nil _ _ _ _ _⟩⟩
    case round =>
      clear HE HK BXb1 BXb2
      obtain ⟨c, n, s9, v, rfl, HC, LEN, HE, HK, BXb1, BXb2, NR0⟩ := hrel
      cases c
      · obtain ⟨rfl, rfl⟩ := HC.out.2 rfl
        have VV := aK (Kd.N_V (base' := 0) NR0.out)
        clear NR0
        go_wp2_with (first
          | ((with_reducible refine gD 41 rfl ?_); go_must ((refine goesL_ (some 41) rfl rfl Try.func35 (by kernel_rfl) rfl #[eyeP g, .string ⟨#[93]⟩] rfl (mpT rfl) ?_; refine (eMust_calls hm2 HE.out).mono ?_; rintro e w1 ⟨rfl, he, hk⟩; refine ⟨_, rfl, ?_⟩; replace HE := aK (he); replace HK := Zk HK hk; replace BXb1 := Zb hk BXb1 GBb1 GL; replace BXb2 := Zb hk BXb2 GBb2 GL; replace VV := aK (Kd.V_keep VV.out hk (fun q hq e => by have h9 : w.heap.size ≤ q := hq.1; have := GL.out; omega)); clear he hk)))
          | ((with_reducible refine gD 42 rfl ?_); go_must ((refine ev_load29 rfl (N := 42) rfl (.tmp 3) rfl (b := b2) rfl BXb2.out ?_)))
          | ((with_reducible refine gate_ (.store 29 (.tmp 2) (.tmp 42)) rfl ?_); go_must ((refine ev_store29 rfl rfl (.tmp 2) (.tmp 42) rfl (b := b1) (z := n) (v := v) rfl rfl BXb1.out (VK_one VV.out) ?_; intro w1 hblk hg hz; replace HE := Ze HE hg GBb1 GL; replace HK := Zx HK hg GBb1; replace BXb1 := aK (hblk); replace BXb2 := Zh hg BXb2 LTb1b2; replace VV := aK (Kd.V_grown VV.out hg (fun q hq e => by injection e with e; exact hq.2.2 e)); clear hblk hg hz))))
        refine bodyPost_ret (results_cell_row rfl _ _ b1 29 (nc n v).toArray _ _ rfl BXb1.out Try.underlying29 rfl info29s) rfl ?_
        exact ⟨v, rfl, Kd.V_mono VV.out (fun q hq => hq.1), HE.out, HK.out⟩
      · obtain ⟨kq, rfl⟩ : ∃ q, gk = q + 1 := by
          cases gk with
          | zero => exact absurd (HC.out.1 rfl) (by simp [run])
          | succ q => exact ⟨q, rfl⟩
        have hrun : mloop_ k L (run k L kq) n s9 = some (T1, s4) := HC.out.1 rfl
        clear HC
        have HS := aK (hR kq (by have := LEN.out; omega))
        obtain ⟨lo, elo⟩ : ∃ n_, n_ = wr.heap.size := ⟨_, rfl⟩
        have LO := aK (show w.heap.size ≤ lo by rw [elo]; exact HK.out.1)
        have OBb1 := aK (show b1 < lo by rw [elo]; exact blk_lt BXb1.out)
        have OBb2 := aK (show b2 < lo by rw [elo]; exact blk_lt BXb2.out)
        have SZ := aK (show lo ≤ wr.heap.size by rw [elo]; exact Nat.le_refl _)
        have LON := aK (show ∀ q, Value.ownBlock v = some q → q < lo by rw [elo]; exact Kd.N_lt NR0.out)
        have NR := aK (show Kd.N k29 29 wr w.heap.size (fun q => (w.heap.size ≤ q ∧ q ≠ b2 ∧ q ≠ b1) ∧ q < lo) v n.f3 by rw [elo]; exact Kd.N_bound NR0.out)
        clear NR0 elo
        obtain ⟨⟨at2, s10⟩, hat2, hrun⟩ := Option.bind_eq_some_iff.1 hrun
        obtain ⟨⟨nm, s11⟩, hnm, hrun⟩ := Option.bind_eq_some_iff.1 hrun
        obtain ⟨s12, hm3, hrun⟩ := Option.bind_eq_some_iff.1 hrun
        obtain ⟨⟨e1, s13⟩, hex, hrun⟩ := Option.bind_eq_some_iff.1 hrun
        obtain ⟨⟨d2, s14⟩, hd2, hrun⟩ := Option.bind_eq_some_iff.1 hrun
        obtain ⟨⟨iv, s15⟩, hiv, hrun⟩ := Option.bind_eq_some_iff.1 hrun
        obtain ⟨⟨c2, s16⟩, hc2, hrun⟩ := Option.bind_eq_some_iff.1 hrun
        cases d2
        · simp only [Bool.false_eq_true, if_false, Option.some.injEq, Prod.mk.injEq] at hiv
          obtain ⟨rfl, rfl⟩ := hiv
          go_wp2_with (first
            | ((with_reducible refine gD 18 rfl ?_); go_must ((refine goesL_ (some 18) rfl rfl Try.func32 (by kernel_rfl) rfl #[eyeP g] rfl (mpT rfl) ?_; refine (eAt_calls hat2 HE.out).mono ?_; rintro e w1 ⟨rfl, he, hk⟩; refine ⟨_, rfl, ?_⟩; replace HE := aK (he); replace HK := Zk HK hk; replace BXb1 := Zb hk BXb1 GBb1 GL; replace BXb2 := Zb hk BXb2 GBb2 GL; replace NR := aK (Kd.N_keep NR.out hk (fun q hq e => by have h9 : w.heap.size ≤ q := hq.1.1; have := GL.out; omega)); replace SZ := aK (Nat.le_trans SZ.out hk.1); clear he hk)))
            | ((with_reducible refine gD 5 rfl ?_); go_must ((refine ev_alloc29 rfl (N := 5) rfl rfl ?_; intro b5 hbn w1 hblk hbel; have GBb5 := aK (show w.heap.size ≤ b5 by have := HK.out.1; omega); have LTb1b5 := aK (show b1 < b5 by have := blk_lt BXb1.out; omega); have LTb2b5 := aK (show b2 < b5 by have := blk_lt BXb2.out; omega); have NBb5 := aK (show lo ≤ b5 by have := SZ.out; omega); replace HE := Zf HE hbel; replace HK := Zw HK hbel; replace BXb1 := Zc hbel BXb1; replace BXb2 := Zc hbel BXb2; replace NR := aK (Kd.N_below NR.out hbel); replace SZ := aK (Nat.le_trans SZ.out hbel.size); have BXb5 := aK hblk; clear hblk hbel hbn)))
            | ((with_reducible refine gate_ (.store 29 (.tmp 5) (.tmp 19)) rfl ?_); go_must ((refine ev_store29 rfl rfl (.tmp 5) (.tmp 19) rfl (b := b5) (z := nd 13 tk0 (-1) [] at2) (v := (.slice none 0 0)) rfl rfl BXb5.out rfl ?_; intro w1 hblk hg hz; replace HE := Ze HE hg GBb5 GL; replace HK := Zx HK hg GBb5; replace BXb1 := Zg hg BXb1 LTb1b5; replace BXb2 := Zg hg BXb2 LTb2b5; replace BXb5 := aK (hblk); replace NR := aK (Kd.N_grown NR.out hg (fun q hq e => by injection e with e; have h9 : q < lo := hq.2; have := NBb5.out; omega)); replace SZ := aK (Nat.le_trans SZ.out hg.size); clear hblk hg hz)))
            | ((with_reducible refine gD 21 rfl ?_); go_must ((refine goesL_ (some 21) rfl rfl Try.func34 (by kernel_rfl) rfl #[eyeP g] rfl (mpT rfl) ?_; refine (eName_calls hnm HE.out).mono ?_; rintro e w1 ⟨rfl, he, hk⟩; refine ⟨_, rfl, ?_⟩; replace HE := aK (he); replace HK := Zk HK hk; replace BXb1 := Zb hk BXb1 GBb1 GL; replace BXb2 := Zb hk BXb2 GBb2 GL; replace BXb5 := Zb hk BXb5 GBb5 GL; replace NR := aK (Kd.N_keep NR.out hk (fun q hq e => by have h9 : w.heap.size ≤ q := hq.1.1; have := GL.out; omega)); replace SZ := aK (Nat.le_trans SZ.out hk.1); clear he hk)))
            | ((with_reducible refine gate_ (.store 9 (.tmp 22) (.tmp 21)) rfl ?_); go_must ((refine ev_field29 rfl rfl 9 (.tmp 22) (.tmp 21) rfl (b := b5) 1 (.string nm) rfl rfl BXb5.out (by omega) rfl rfl (by kernel_rfl) (nd 13 nm (-1) [] at2) ((.slice none 0 0)) rfl ?_; intro w1 hblk hg hz; replace HE := Ze HE hg GBb5 GL; replace HK := Zx HK hg GBb5; replace BXb1 := Zg hg BXb1 LTb1b5; replace BXb2 := Zg hg BXb2 LTb2b5; replace BXb5 := aK (hblk); replace NR := aK (Kd.N_grown NR.out hg (fun q hq e => by injection e with e; have h9 : q < lo := hq.2; have := NBb5.out; omega)); replace SZ := aK (Nat.le_trans SZ.out hg.size); clear hblk hg hz)))
            | ((with_reducible refine gD 24 rfl ?_); go_must ((refine goesL_ (some 24) rfl rfl Try.func35 (by kernel_rfl) rfl #[eyeP g, .string ⟨#[61]⟩] rfl (mpT rfl) ?_; refine (eMust_calls hm3 HE.out).mono ?_; rintro e w1 ⟨rfl, he, hk⟩; refine ⟨_, rfl, ?_⟩; replace HE := aK (he); replace HK := Zk HK hk; replace BXb1 := Zb hk BXb1 GBb1 GL; replace BXb2 := Zb hk BXb2 GBb2 GL; replace BXb5 := Zb hk BXb5 GBb5 GL; replace NR := aK (Kd.N_keep NR.out hk (fun q hq e => by have h9 : w.heap.size ≤ q := hq.1.1; have := GL.out; omega)); replace SZ := aK (Nat.le_trans SZ.out hk.1); clear he hk)))
            | ((with_reducible refine gD 26 rfl ?_); go_must ((refine goesL_ (some 26) rfl rfl Try.func77 (by kernel_rfl) rfl #[eyeP g, .bool false] rfl (mpT rfl) ?_; refine (HS.out.2.2.1 _ _ _ _ hex _ _ _ HE.out).mono ?_; rintro e w1 ⟨v1, rfl, hv, he, hk⟩; refine ⟨_, rfl, ?_⟩; have hv2 := Kd.V_mono hv (ok' := fun q => lo ≤ q ∧ q ≠ b5) (fun q hq => by have h8 := hq; have h9 := SZ.out; have h7b5 := blk_lt BXb5.out; refine ⟨?_, ?_⟩ <;> omega); clear hv; replace HE := aK (he); replace HK := Zk HK hk; replace BXb1 := Zb hk BXb1 GBb1 GL; replace BXb2 := Zb hk BXb2 GBb2 GL; replace BXb5 := Zb hk BXb5 GBb5 GL; replace NR := aK (Kd.N_keep NR.out hk (fun q hq e => by have h9 : w.heap.size ≤ q := hq.1.1; have := GL.out; omega)); replace SZ := aK (Nat.le_trans SZ.out hk.1); have Vv1 := aK hv2; clear he hk hv2)))
            | ((with_reducible refine gD 27 rfl ?_); go_must ((refine ev_kid1 rfl (N := 27) rfl (.tmp 26) rfl (T := e1) (v := v1) rfl Vv1.out ?_; intro k2 w1 hv hbel; have hv2 := Kd.V_mono hv (ok' := fun q => lo ≤ q ∧ q ≠ b5) (fun q hq => hq.elim (fun h => h) (fun hq => by have h8 := hq; have h9 := SZ.out; have h7b5 := blk_lt BXb5.out; refine ⟨?_, ?_⟩ <;> omega)); clear hv; replace HE := Zf HE hbel; replace HK := Zw HK hbel; replace BXb1 := Zc hbel BXb1; replace BXb2 := Zc hbel BXb2; replace BXb5 := Zc hbel BXb5; replace NR := aK (Kd.N_below NR.out hbel); replace SZ := aK (Nat.le_trans SZ.out hbel.size); have Vk2 := aK hv2; clear hv2 hbel Vv1)))
            | ((with_reducible refine gate_ (.store 27 (.tmp 28) (.tmp 27)) rfl ?_); go_must ((refine ev_field29 rfl rfl 27 (.tmp 28) (.tmp 27) rfl (b := b5) 3 ((.slice (some ⟨k2, 0, none⟩) 1 1)) rfl rfl BXb5.out (by omega) rfl rfl (by kernel_rfl) (nd 13 nm (-1) [e1] at2) ((.slice (some ⟨k2, 0, none⟩) 1 1)) rfl ?_; intro w1 hblk hg hz; replace HE := Ze HE hg GBb5 GL; replace HK := Zx HK hg GBb5; replace BXb1 := Zg hg BXb1 LTb1b5; replace BXb2 := Zg hg BXb2 LTb2b5; replace BXb5 := aK (hblk); replace Vk2 := aK (Kd.V_grown Vk2.out hg (fun q hq e => by injection e with e; exact hq.2 e)); replace NR := aK (Kd.N_grown NR.out hg (fun q hq e => by injection e with e; have h9 : q < lo := hq.2; have := NBb5.out; omega)); replace SZ := aK (Nat.le_trans SZ.out hg.size); clear hblk hg hz)))
            | ((with_reducible refine gD 30 rfl ?_); go_must ((refine goesL_ (some 30) rfl rfl Try.func33 (by kernel_rfl) rfl #[eyeP g, .string ⟨#[47]⟩] rfl (mpT rfl) ?_; refine (eEat_calls hd2 HE.out).mono ?_; rintro e w1 ⟨rfl, he, hk⟩; refine ⟨_, rfl, ?_⟩; replace HE := aK (he); replace HK := Zk HK hk; replace BXb1 := Zb hk BXb1 GBb1 GL; replace BXb2 := Zb hk BXb2 GBb2 GL; replace BXb5 := Zb hk BXb5 GBb5 GL; replace Vk2 := aK (Kd.V_keep Vk2.out hk (fun q hq e => by have h9 : lo ≤ q := hq.1; have := LO.out; have := GL.out; omega)); replace NR := aK (Kd.N_keep NR.out hk (fun q hq e => by have h9 : w.heap.size ≤ q := hq.1.1; have := GL.out; omega)); replace SZ := aK (Nat.le_trans SZ.out hk.1); clear he hk)))
            | ((with_reducible refine gD 35 rfl ?_); go_must ((refine ev_cell rfl (N := 35) rfl 27 (.tmp 34) rfl ⟨b2, 3, none⟩ rfl (v) _ ((Mine.blk_cells BXb2.out 3).trans rfl) Try.underlying27 rfl ?_)))
            | ((with_reducible refine gD 36 rfl ?_); go_must ((refine ev_load29 rfl (N := 36) rfl (.tmp 5) rfl (b := b5) rfl BXb5.out ?_)))
            | ((with_reducible refine gD 37 rfl ?_); go_must ((refine Mine.ev_lit1 rfl (N := 37) rfl 27 29 (.tmp 36) rfl (nc (nd 13 nm (-1) [e1] at2) ((.slice (some ⟨k2, 0, none⟩) 1 1))) rfl Try.underlying27 info29 rfl (by omega) (by omega) ?_)))
            | ((with_reducible refine gate_builtin (b := .append) (xs := #[.tmp 35, .tmp 37]) rfl ?_); go_must ((at_builtin; go_must ((refine Kd.N_append k29 (w0 := _) w.heap.size rfl (.tmp 35) (.tmp 37) 27 29 _ 64 rfl Try.underlying27 info29 rfl (by decide) (by omega) v n.f3 (nd 13 nm (-1) [e1] at2) (nc (nd 13 nm (-1) [e1] at2) ((.slice (some ⟨k2, 0, none⟩) 1 1))) (fun q => w.heap.size ≤ q ∧ q ≠ b2 ∧ q ≠ b1) (fun q => lo ≤ q ∧ q ≠ b5) rfl rfl ?aP ?aK ?aF ?aO (Below.refl _ _) ?aS ?aL ?_; (case aP => exact nc_FK Vk2.out); (case aK => exact fun q hq => ⟨by have h9 : lo ≤ q := hq.1; have := LO.out; have h6b1 := OBb1.out; have h6b2 := OBb2.out; exact ⟨by omega, by omega, by omega⟩, fun e => by have h9 : lo ≤ q := hq.1; have := LO.out; have := LON.out q e.symm; omega⟩); (case aF => exact fun q hq => by have h9 := hq; have h8 := HK.out.1; have h7b1 := blk_lt BXb1.out; have h7b2 := blk_lt BXb2.out; refine ⟨by omega, by omega, by omega⟩); (case aO => exact Kd.N_mono NR.out (fun q hq => hq.1)); (case aS => exact HK.out.1); (case aL => have := LEN.out; have := HM.out; omega); intro v3 w1 hn hb9 hg hat; clear hb9 hat; have HO := fun q (h : Value.ownBlock v = some q) => (NR.out.1 q h).1; replace HE := aK (eye_row HE.out hg (fun q h => by have h9 : w.heap.size ≤ q := (HO q h).1; have := GL.out; have := HE.out.ge; exact ⟨by omega, by omega⟩)); replace HK := aK (keep_row HK.out hg (fun q h => (HO q h).1)); replace BXb1 := aK (row_blk hg BXb1.out (fun q h => (HO q h).2.2)); replace BXb2 := aK (row_blk hg BXb2.out (fun q h => (HO q h).2.1)); replace SZ := aK (Nat.le_trans SZ.out hg.size); have NRA := aK hn; clear hn hg HO NR BXb5 Vk2)))))
            | ((with_reducible refine gate_ (.store 27 (.tmp 39) (.tmp 38)) rfl ?_); go_must ((refine ev_field29 rfl rfl 27 (.tmp 39) (.tmp 38) rfl (b := b2) 3 (v3) rfl rfl BXb2.out (by omega) (Kd.N_val NRA.out).1 (Kd.N_val NRA.out).2 (by kernel_rfl) (addKid n (nd 13 nm (-1) [e1] at2)) (v3) rfl ?_; intro w1 hblk hg hz; replace HE := Ze HE hg GBb2 GL; replace HK := Zx HK hg GBb2; replace BXb1 := Zg hg BXb1 LTb1b2; replace BXb2 := aK (hblk); replace NRA := aK (Kd.N_grown NRA.out hg (fun q hq e => by injection e with e; exact hq.2.1 e)); replace SZ := aK (Nat.le_trans SZ.out hg.size); clear hblk hg hz)))
            | ((with_reducible refine gD 16 rfl ?_); go_must ((refine goesL_ (some 16) rfl rfl Try.func33 (by kernel_rfl) rfl #[eyeP g, .string ⟨#[44]⟩] rfl (mpT rfl) ?_; refine (eEat_calls hc2 HE.out).mono ?_; rintro e w1 ⟨rfl, he, hk⟩; refine ⟨_, rfl, ?_⟩; replace HE := aK (he); replace HK := Zk HK hk; replace BXb1 := Zb hk BXb1 GBb1 GL; replace BXb2 := Zb hk BXb2 GBb2 GL; replace NRA := aK (Kd.N_keep NRA.out hk (fun q hq e => by have h9 : w.heap.size ≤ q := hq.1; have := GL.out; omega)); replace SZ := aK (Nat.le_trans SZ.out hk.1); clear he hk))))
          go_roundg kq
          case rel => exact ⟨c2, addKid n (nd 13 nm (-1) [e1] at2), s16, v3, rfl, ⟨fun hc => by subst hc; simpa using hrun, fun hc => by subst hc; simpa using hrun⟩, ⟨by have := LEN.out; simp; omega⟩, HE, HK, BXb1, BXb2, NRA⟩
          case measure => omega
        · simp only [if_true] at hiv
          go_wp2_with (first
            | ((with_reducible refine gD 18 rfl ?_); go_must ((refine goesL_ (some 18) rfl rfl Try.func32 (by kernel_rfl) rfl #[eyeP g] rfl (mpT rfl) ?_; refine (eAt_calls hat2 HE.out).mono ?_; rintro e w1 ⟨rfl, he, hk⟩; refine ⟨_, rfl, ?_⟩; replace HE := aK (he); replace HK := Zk HK hk; replace BXb1 := Zb hk BXb1 GBb1 GL; replace BXb2 := Zb hk BXb2 GBb2 GL; replace NR := aK (Kd.N_keep NR.out hk (fun q hq e => by have h9 : w.heap.size ≤ q := hq.1.1; have := GL.out; omega)); replace SZ := aK (Nat.le_trans SZ.out hk.1); clear he hk)))
            | ((with_reducible refine gD 5 rfl ?_); go_must ((refine ev_alloc29 rfl (N := 5) rfl rfl ?_; intro b5 hbn w1 hblk hbel; have GBb5 := aK (show w.heap.size ≤ b5 by have := HK.out.1; omega); have LTb1b5 := aK (show b1 < b5 by have := blk_lt BXb1.out; omega); have LTb2b5 := aK (show b2 < b5 by have := blk_lt BXb2.out; omega); have NBb5 := aK (show lo ≤ b5 by have := SZ.out; omega); replace HE := Zf HE hbel; replace HK := Zw HK hbel; replace BXb1 := Zc hbel BXb1; replace BXb2 := Zc hbel BXb2; replace NR := aK (Kd.N_below NR.out hbel); replace SZ := aK (Nat.le_trans SZ.out hbel.size); have BXb5 := aK hblk; clear hblk hbel hbn)))
            | ((with_reducible refine gate_ (.store 29 (.tmp 5) (.tmp 19)) rfl ?_); go_must ((refine ev_store29 rfl rfl (.tmp 5) (.tmp 19) rfl (b := b5) (z := nd 13 tk0 (-1) [] at2) (v := (.slice none 0 0)) rfl rfl BXb5.out rfl ?_; intro w1 hblk hg hz; replace HE := Ze HE hg GBb5 GL; replace HK := Zx HK hg GBb5; replace BXb1 := Zg hg BXb1 LTb1b5; replace BXb2 := Zg hg BXb2 LTb2b5; replace BXb5 := aK (hblk); replace NR := aK (Kd.N_grown NR.out hg (fun q hq e => by injection e with e; have h9 : q < lo := hq.2; have := NBb5.out; omega)); replace SZ := aK (Nat.le_trans SZ.out hg.size); clear hblk hg hz)))
            | ((with_reducible refine gD 21 rfl ?_); go_must ((refine goesL_ (some 21) rfl rfl Try.func34 (by kernel_rfl) rfl #[eyeP g] rfl (mpT rfl) ?_; refine (eName_calls hnm HE.out).mono ?_; rintro e w1 ⟨rfl, he, hk⟩; refine ⟨_, rfl, ?_⟩; replace HE := aK (he); replace HK := Zk HK hk; replace BXb1 := Zb hk BXb1 GBb1 GL; replace BXb2 := Zb hk BXb2 GBb2 GL; replace BXb5 := Zb hk BXb5 GBb5 GL; replace NR := aK (Kd.N_keep NR.out hk (fun q hq e => by have h9 : w.heap.size ≤ q := hq.1.1; have := GL.out; omega)); replace SZ := aK (Nat.le_trans SZ.out hk.1); clear he hk)))
            | ((with_reducible refine gate_ (.store 9 (.tmp 22) (.tmp 21)) rfl ?_); go_must ((refine ev_field29 rfl rfl 9 (.tmp 22) (.tmp 21) rfl (b := b5) 1 (.string nm) rfl rfl BXb5.out (by omega) rfl rfl (by kernel_rfl) (nd 13 nm (-1) [] at2) ((.slice none 0 0)) rfl ?_; intro w1 hblk hg hz; replace HE := Ze HE hg GBb5 GL; replace HK := Zx HK hg GBb5; replace BXb1 := Zg hg BXb1 LTb1b5; replace BXb2 := Zg hg BXb2 LTb2b5; replace BXb5 := aK (hblk); replace NR := aK (Kd.N_grown NR.out hg (fun q hq e => by injection e with e; have h9 : q < lo := hq.2; have := NBb5.out; omega)); replace SZ := aK (Nat.le_trans SZ.out hg.size); clear hblk hg hz)))
            | ((with_reducible refine gD 24 rfl ?_); go_must ((refine goesL_ (some 24) rfl rfl Try.func35 (by kernel_rfl) rfl #[eyeP g, .string ⟨#[61]⟩] rfl (mpT rfl) ?_; refine (eMust_calls hm3 HE.out).mono ?_; rintro e w1 ⟨rfl, he, hk⟩; refine ⟨_, rfl, ?_⟩; replace HE := aK (he); replace HK := Zk HK hk; replace BXb1 := Zb hk BXb1 GBb1 GL; replace BXb2 := Zb hk BXb2 GBb2 GL; replace BXb5 := Zb hk BXb5 GBb5 GL; replace NR := aK (Kd.N_keep NR.out hk (fun q hq e => by have h9 : w.heap.size ≤ q := hq.1.1; have := GL.out; omega)); replace SZ := aK (Nat.le_trans SZ.out hk.1); clear he hk)))
            | ((with_reducible refine gD 26 rfl ?_); go_must ((refine goesL_ (some 26) rfl rfl Try.func77 (by kernel_rfl) rfl #[eyeP g, .bool false] rfl (mpT rfl) ?_; refine (HS.out.2.2.1 _ _ _ _ hex _ _ _ HE.out).mono ?_; rintro e w1 ⟨v1, rfl, hv, he, hk⟩; refine ⟨_, rfl, ?_⟩; have hv2 := Kd.V_mono hv (ok' := fun q => lo ≤ q ∧ q ≠ b5) (fun q hq => by have h8 := hq; have h9 := SZ.out; have h7b5 := blk_lt BXb5.out; refine ⟨?_, ?_⟩ <;> omega); clear hv; replace HE := aK (he); replace HK := Zk HK hk; replace BXb1 := Zb hk BXb1 GBb1 GL; replace BXb2 := Zb hk BXb2 GBb2 GL; replace BXb5 := Zb hk BXb5 GBb5 GL; replace NR := aK (Kd.N_keep NR.out hk (fun q hq e => by have h9 : w.heap.size ≤ q := hq.1.1; have := GL.out; omega)); replace SZ := aK (Nat.le_trans SZ.out hk.1); have Vv1 := aK hv2; clear he hk hv2)))
            | ((with_reducible refine gD 27 rfl ?_); go_must ((refine ev_kid1 rfl (N := 27) rfl (.tmp 26) rfl (T := e1) (v := v1) rfl Vv1.out ?_; intro k2 w1 hv hbel; have hv2 := Kd.V_mono hv (ok' := fun q => lo ≤ q ∧ q ≠ b5) (fun q hq => hq.elim (fun h => h) (fun hq => by have h8 := hq; have h9 := SZ.out; have h7b5 := blk_lt BXb5.out; refine ⟨?_, ?_⟩ <;> omega)); clear hv; replace HE := Zf HE hbel; replace HK := Zw HK hbel; replace BXb1 := Zc hbel BXb1; replace BXb2 := Zc hbel BXb2; replace BXb5 := Zc hbel BXb5; replace NR := aK (Kd.N_below NR.out hbel); replace SZ := aK (Nat.le_trans SZ.out hbel.size); have Vk2 := aK hv2; clear hv2 hbel Vv1)))
            | ((with_reducible refine gate_ (.store 27 (.tmp 28) (.tmp 27)) rfl ?_); go_must ((refine ev_field29 rfl rfl 27 (.tmp 28) (.tmp 27) rfl (b := b5) 3 ((.slice (some ⟨k2, 0, none⟩) 1 1)) rfl rfl BXb5.out (by omega) rfl rfl (by kernel_rfl) (nd 13 nm (-1) [e1] at2) ((.slice (some ⟨k2, 0, none⟩) 1 1)) rfl ?_; intro w1 hblk hg hz; replace HE := Ze HE hg GBb5 GL; replace HK := Zx HK hg GBb5; replace BXb1 := Zg hg BXb1 LTb1b5; replace BXb2 := Zg hg BXb2 LTb2b5; replace BXb5 := aK (hblk); replace Vk2 := aK (Kd.V_grown Vk2.out hg (fun q hq e => by injection e with e; exact hq.2 e)); replace NR := aK (Kd.N_grown NR.out hg (fun q hq e => by injection e with e; have h9 : q < lo := hq.2; have := NBb5.out; omega)); replace SZ := aK (Nat.le_trans SZ.out hg.size); clear hblk hg hz)))
            | ((with_reducible refine gD 30 rfl ?_); go_must ((refine goesL_ (some 30) rfl rfl Try.func33 (by kernel_rfl) rfl #[eyeP g, .string ⟨#[47]⟩] rfl (mpT rfl) ?_; refine (eEat_calls hd2 HE.out).mono ?_; rintro e w1 ⟨rfl, he, hk⟩; refine ⟨_, rfl, ?_⟩; replace HE := aK (he); replace HK := Zk HK hk; replace BXb1 := Zb hk BXb1 GBb1 GL; replace BXb2 := Zb hk BXb2 GBb2 GL; replace BXb5 := Zb hk BXb5 GBb5 GL; replace Vk2 := aK (Kd.V_keep Vk2.out hk (fun q hq e => by have h9 : lo ≤ q := hq.1; have := LO.out; have := GL.out; omega)); replace NR := aK (Kd.N_keep NR.out hk (fun q hq e => by have h9 : w.heap.size ≤ q := hq.1.1; have := GL.out; omega)); replace SZ := aK (Nat.le_trans SZ.out hk.1); clear he hk)))
            | ((with_reducible refine gD 32 rfl ?_); go_must ((refine goesL_ (some 32) rfl rfl Try.func36 (by kernel_rfl) rfl #[eyeP g] rfl (mpT rfl) ?_; refine (eInt_calls hiv HE.out).mono ?_; rintro e w1 ⟨rfl, he, hk⟩; refine ⟨_, rfl, ?_⟩; replace HE := aK (he); replace HK := Zk HK hk; replace BXb1 := Zb hk BXb1 GBb1 GL; replace BXb2 := Zb hk BXb2 GBb2 GL; replace BXb5 := Zb hk BXb5 GBb5 GL; replace Vk2 := aK (Kd.V_keep Vk2.out hk (fun q hq e => by have h9 : lo ≤ q := hq.1; have := LO.out; have := GL.out; omega)); replace NR := aK (Kd.N_keep NR.out hk (fun q hq e => by have h9 : w.heap.size ≤ q := hq.1.1; have := GL.out; omega)); replace SZ := aK (Nat.le_trans SZ.out hk.1); clear he hk)))
            | ((with_reducible refine gate_ (.store 3 (.tmp 33) (.tmp 32)) rfl ?_); go_must ((refine ev_field29 rfl rfl 3 (.tmp 33) (.tmp 32) rfl (b := b5) 2 (.int .i64 iv) rfl rfl BXb5.out (by omega) rfl rfl (by kernel_rfl) (nd 13 nm iv [e1] at2) ((.slice (some ⟨k2, 0, none⟩) 1 1)) rfl ?_; intro w1 hblk hg hz; replace HE := Ze HE hg GBb5 GL; replace HK := Zx HK hg GBb5; replace BXb1 := Zg hg BXb1 LTb1b5; replace BXb2 := Zg hg BXb2 LTb2b5; replace BXb5 := aK (hblk); replace Vk2 := aK (Kd.V_grown Vk2.out hg (fun q hq e => by injection e with e; exact hq.2 e)); replace NR := aK (Kd.N_grown NR.out hg (fun q hq e => by injection e with e; have h9 : q < lo := hq.2; have := NBb5.out; omega)); replace SZ := aK (Nat.le_trans SZ.out hg.size); clear hblk hg hz)))
            | ((with_reducible refine gD 35 rfl ?_); go_must ((refine ev_cell rfl (N := 35) rfl 27 (.tmp 34) rfl ⟨b2, 3, none⟩ rfl (v) _ ((Mine.blk_cells BXb2.out 3).trans rfl) Try.underlying27 rfl ?_)))
            | ((with_reducible refine gD 36 rfl ?_); go_must ((refine ev_load29 rfl (N := 36) rfl (.tmp 5) rfl (b := b5) rfl BXb5.out ?_)))
            | ((with_reducible refine gD 37 rfl ?_); go_must ((refine Mine.ev_lit1 rfl (N := 37) rfl 27 29 (.tmp 36) rfl (nc (nd 13 nm iv [e1] at2) ((.slice (some ⟨k2, 0, none⟩) 1 1))) rfl Try.underlying27 info29 rfl (by omega) (by omega) ?_)))
            | ((with_reducible refine gate_builtin (b := .append) (xs := #[.tmp 35, .tmp 37]) rfl ?_); go_must ((at_builtin; go_must ((refine Kd.N_append k29 (w0 := _) w.heap.size rfl (.tmp 35) (.tmp 37) 27 29 _ 64 rfl Try.underlying27 info29 rfl (by decide) (by omega) v n.f3 (nd 13 nm iv [e1] at2) (nc (nd 13 nm iv [e1] at2) ((.slice (some ⟨k2, 0, none⟩) 1 1))) (fun q => w.heap.size ≤ q ∧ q ≠ b2 ∧ q ≠ b1) (fun q => lo ≤ q ∧ q ≠ b5) rfl rfl ?aP ?aK ?aF ?aO (Below.refl _ _) ?aS ?aL ?_; (case aP => exact nc_FK Vk2.out); (case aK => exact fun q hq => ⟨by have h9 : lo ≤ q := hq.1; have := LO.out; have h6b1 := OBb1.out; have h6b2 := OBb2.out; exact ⟨by omega, by omega, by omega⟩, fun e => by have h9 : lo ≤ q := hq.1; have := LO.out; have := LON.out q e.symm; omega⟩); (case aF => exact fun q hq => by have h9 := hq; have h8 := HK.out.1; have h7b1 := blk_lt BXb1.out; have h7b2 := blk_lt BXb2.out; refine ⟨by omega, by omega, by omega⟩); (case aO => exact Kd.N_mono NR.out (fun q hq => hq.1)); (case aS => exact HK.out.1); (case aL => have := LEN.out; have := HM.out; omega); intro v3 w1 hn hb9 hg hat; clear hb9 hat; have HO := fun q (h : Value.ownBlock v = some q) => (NR.out.1 q h).1; replace HE := aK (eye_row HE.out hg (fun q h => by have h9 : w.heap.size ≤ q := (HO q h).1; have := GL.out; have := HE.out.ge; exact ⟨by omega, by omega⟩)); replace HK := aK (keep_row HK.out hg (fun q h => (HO q h).1)); replace BXb1 := aK (row_blk hg BXb1.out (fun q h => (HO q h).2.2)); replace BXb2 := aK (row_blk hg BXb2.out (fun q h => (HO q h).2.1)); replace SZ := aK (Nat.le_trans SZ.out hg.size); have NRA := aK hn; clear hn hg HO NR BXb5 Vk2)))))
            | ((with_reducible refine gate_ (.store 27 (.tmp 39) (.tmp 38)) rfl ?_); go_must ((refine ev_field29 rfl rfl 27 (.tmp 39) (.tmp 38) rfl (b := b2) 3 (v3) rfl rfl BXb2.out (by omega) (Kd.N_val NRA.out).1 (Kd.N_val NRA.out).2 (by kernel_rfl) (addKid n (nd 13 nm iv [e1] at2)) (v3) rfl ?_; intro w1 hblk hg hz; replace HE := Ze HE hg GBb2 GL; replace HK := Zx HK hg GBb2; replace BXb1 := Zg hg BXb1 LTb1b2; replace BXb2 := aK (hblk); replace NRA := aK (Kd.N_grown NRA.out hg (fun q hq e => by injection e with e; exact hq.2.1 e)); replace SZ := aK (Nat.le_trans SZ.out hg.size); clear hblk hg hz)))
            | ((with_reducible refine gD 16 rfl ?_); go_must ((refine goesL_ (some 16) rfl rfl Try.func33 (by kernel_rfl) rfl #[eyeP g, .string ⟨#[44]⟩] rfl (mpT rfl) ?_; refine (eEat_calls hc2 HE.out).mono ?_; rintro e w1 ⟨rfl, he, hk⟩; refine ⟨_, rfl, ?_⟩; replace HE := aK (he); replace HK := Zk HK hk; replace BXb1 := Zb hk BXb1 GBb1 GL; replace BXb2 := Zb hk BXb2 GBb2 GL; replace NRA := aK (Kd.N_keep NRA.out hk (fun q hq e => by have h9 : w.heap.size ≤ q := hq.1; have := GL.out; omega)); replace SZ := aK (Nat.le_trans SZ.out hk.1); clear he hk))))
          go_roundg kq
          case rel => exact ⟨c2, addKid n (nd 13 nm iv [e1] at2), s16, v3, rfl, ⟨fun hc => by subst hc; simpa using hrun, fun hc => by subst hc; simpa using hrun⟩, ⟨by have := LEN.out; simp; omega⟩, HE, HK, BXb1, BXb2, NRA⟩
          case measure => omega
  · simp only [if_true, Option.some.injEq, Prod.mk.injEq] at h
    obtain ⟨rfl, rfl⟩ := h
    go_enter Try.func78, Try.ntmps78
    go_wp2_with (first
      | ((with_reducible refine gD 2 rfl ?_); go_must ((refine ev_alloc29 rfl (N := 2) rfl rfl ?_; intro b1 hbn w1 hblk hbel; have GBb1 := aK (show w.heap.size ≤ b1 by have := HK.out.1; omega); replace HE := Zf HE hbel; replace HK := Zw HK hbel; have BXb1 := aK hblk; clear hblk hbel hbn)))
      | ((with_reducible refine gD 7 rfl ?_); go_must ((refine goesL_ (some 7) rfl rfl Try.func32 (by kernel_rfl) rfl #[eyeP g] rfl (mpT rfl) ?_; refine (eAt_calls hat HE.out).mono ?_; rintro e w1 ⟨rfl, he, hk⟩; refine ⟨_, rfl, ?_⟩; replace HE := aK (he); replace HK := Zk HK hk; replace BXb1 := Zb hk BXb1 GBb1 GL; clear he hk)))
      | ((with_reducible refine gD 3 rfl ?_); go_must ((refine ev_alloc29 rfl (N := 3) rfl rfl ?_; intro b2 hbn w1 hblk hbel; have GBb2 := aK (show w.heap.size ≤ b2 by have := HK.out.1; omega); have LTb1b2 := aK (show b1 < b2 by have := blk_lt BXb1.out; omega); replace HE := Zf HE hbel; replace HK := Zw HK hbel; replace BXb1 := Zc hbel BXb1; have BXb2 := aK hblk; clear hblk hbel hbn)))
      | ((with_reducible refine gate_ (.store 29 (.tmp 3) (.tmp 8)) rfl ?_); go_must ((refine ev_store29 rfl rfl (.tmp 3) (.tmp 8) rfl (b := b2) (z := nd 12 tk0 0 [] at_) (v := (.slice none 0 0)) rfl rfl BXb2.out rfl ?_; intro w1 hblk hg hz; replace HE := Ze HE hg GBb2 GL; replace HK := Zx HK hg GBb2; replace BXb1 := Zg hg BXb1 LTb1b2; replace BXb2 := aK (hblk); clear hblk hg hz)))
      | ((with_reducible refine gD 10 rfl ?_); go_must ((refine goesL_ (some 10) rfl rfl Try.func35 (by kernel_rfl) rfl #[eyeP g, .string ⟨#[91]⟩] rfl (mpT rfl) ?_; refine (eMust_calls hm1 HE.out).mono ?_; rintro e w1 ⟨rfl, he, hk⟩; refine ⟨_, rfl, ?_⟩; replace HE := aK (he); replace HK := Zk HK hk; replace BXb1 := Zb hk BXb1 GBb1 GL; replace BXb2 := Zb hk BXb2 GBb2 GL; clear he hk)))
      | ((with_reducible refine gD 12 rfl ?_); go_must ((refine goesL_ (some 12) rfl rfl Try.func33 (by kernel_rfl) rfl #[eyeP g, .string ⟨#[93]⟩] rfl (mpT rfl) ?_; refine (eEat_calls hd HE.out).mono ?_; rintro e w1 ⟨rfl, he, hk⟩; refine ⟨_, rfl, ?_⟩; replace HE := aK (he); replace HK := Zk HK hk; replace BXb1 := Zb hk BXb1 GBb1 GL; replace BXb2 := Zb hk BXb2 GBb2 GL; clear he hk)))
      | ((with_reducible refine gD 13 rfl ?_); go_must ((refine ev_load29 rfl (N := 13) rfl (.tmp 3) rfl (b := b2) rfl BXb2.out ?_)))
      | ((with_reducible refine gate_ (.store 29 (.tmp 2) (.tmp 13)) rfl ?_); go_must ((refine ev_store29 rfl rfl (.tmp 2) (.tmp 13) rfl (b := b1) (z := nd 12 tk0 0 [] at_) (v := (.slice none 0 0)) rfl rfl BXb1.out rfl ?_; intro w1 hblk hg hz; replace HE := Ze HE hg GBb1 GL; replace HK := Zx HK hg GBb1; replace BXb1 := aK (hblk); replace BXb2 := Zh hg BXb2 LTb1b2; clear hblk hg hz))))
    refine bodyPost_ret (results_cell_row rfl _ _ b1 29 (nc (nd 12 tk0 0 [] at_) (.slice none 0 0)).toArray _ _ rfl BXb1.out Try.underlying29 rfl info29s) rfl ?_
    exact ⟨(.slice none 0 0), rfl, Kd.V_nil _ _ _ _ _, HE.out, HK.out⟩
end Go.Proofs.Ytdiadmlgeojefaa.A
namespace Go.Proofs.Ytdiadmlgeojefaa.A
open Go.RowKit Go.Proofs.YtdiadmlgeojefaaW.PrintWords Go.Proofs.YtdiadmlgeojefaaW.PrintLast Go.Proofs.YtdiadmlgeojefaaW.PrintMore
set_option linter.unusedVariables false
set_option linter.unusedSimpArgs false
set_option maxHeartbeats 4000000 in
set_option maxRecDepth 100000 in
theorem acts_shows {k : Nat} {L : Toks} {m : Nat} (hm : m ≤ 1099511627776) (hR : ∀ m', m' ≤ m → Shows L (run k L m')) (s : St) (T : S29) (s' : St) (h : acts_ L (run k L m) s = some (T, s')) : Gives 80 [] L s T s' := by
  intro w0 w g hE
  show Calls Try.prog 80 #[eyeP g] w _
  have HE := aK hE
  have GL := aK hE.lt
  have HK := aK (KeepBut.refl w g none)
  clear hE
  have HM := aK hm
  clear hm
  obtain ⟨s1, hm1, h⟩ := Option.bind_eq_some_iff.1 h
  obtain ⟨⟨at_, s2⟩, hat, h⟩ := Option.bind_eq_some_iff.1 h
  obtain ⟨⟨d, s3⟩, hd, h⟩ := Option.bind_eq_some_iff.1 h
  cases d
  · have hr : run k L m (.aloop (nd 14 tk0 0 [] at_)) s3 = some (T, s') := by simpa using h
    clear h
    go_enter Try.func80, Try.ntmps80
    go_wp2_with (first
      | ((with_reducible refine gD 2 rfl ?_); go_must ((refine ev_alloc29 rfl (N := 2) rfl rfl ?_; intro b1 hbn w1 hblk hbel; have GBb1 := aK (show w.heap.size ≤ b1 by have := HK.out.1; omega); replace HE := Zf HE hbel; replace HK := Zw HK hbel; have BXb1 := aK hblk; clear hblk hbel hbn)))
      | ((with_reducible refine gD 7 rfl ?_); go_must ((refine goesL_ (some 7) rfl rfl Try.func35 (by kernel_rfl) rfl #[eyeP g, .string ⟨#[100, 111]⟩] rfl (mpT rfl) ?_; refine (eMust_calls hm1 HE.out).mono ?_; rintro e w1 ⟨rfl, he, hk⟩; refine ⟨_, rfl, ?_⟩; replace HE := aK (he); replace HK := Zk HK hk; replace BXb1 := Zb hk BXb1 GBb1 GL; clear he hk)))
      | ((with_reducible refine gD 9 rfl ?_); go_must ((refine goesL_ (some 9) rfl rfl Try.func32 (by kernel_rfl) rfl #[eyeP g] rfl (mpT rfl) ?_; refine (eAt_calls hat HE.out).mono ?_; rintro e w1 ⟨rfl, he, hk⟩; refine ⟨_, rfl, ?_⟩; replace HE := aK (he); replace HK := Zk HK hk; replace BXb1 := Zb hk BXb1 GBb1 GL; clear he hk)))
      | ((with_reducible refine gD 3 rfl ?_); go_must ((refine ev_alloc29 rfl (N := 3) rfl rfl ?_; intro b2 hbn w1 hblk hbel; have GBb2 := aK (show w.heap.size ≤ b2 by have := HK.out.1; omega); have LTb1b2 := aK (show b1 < b2 by have := blk_lt BXb1.out; omega); replace HE := Zf HE hbel; replace HK := Zw HK hbel; replace BXb1 := Zc hbel BXb1; have BXb2 := aK hblk; clear hblk hbel hbn)))
      | ((with_reducible refine gate_ (.store 29 (.tmp 3) (.tmp 10)) rfl ?_); go_must ((refine ev_store29 rfl rfl (.tmp 3) (.tmp 10) rfl (b := b2) (z := nd 14 tk0 0 [] at_) (v := (.slice none 0 0)) rfl rfl BXb2.out rfl ?_; intro w1 hblk hg hz; replace HE := Ze HE hg GBb2 GL; replace HK := Zx HK hg GBb2; replace BXb1 := Zg hg BXb1 LTb1b2; replace BXb2 := aK (hblk); clear hblk hg hz)))
      | ((with_reducible refine gD 12 rfl ?_); go_must ((refine goesL_ (some 12) rfl rfl Try.func33 (by kernel_rfl) rfl #[eyeP g, .string ⟨#[100, 114, 111, 112]⟩] rfl (mpT rfl) ?_; refine (eEat_calls hd HE.out).mono ?_; rintro e w1 ⟨rfl, he, hk⟩; refine ⟨_, rfl, ?_⟩; replace HE := aK (he); replace HK := Zk HK hk; replace BXb1 := Zb hk BXb1 GBb1 GL; replace BXb2 := Zb hk BXb2 GBb2 GL; clear he hk))))
    go_loopg [4] m (fun kq v4 w' => ∃ (c : Bool) (n : S29) (s : St) (v : Value), v4 = .bool c ∧ Aside0 ((c = true → run k L kq (.aloop n) s = some (T, s')) ∧ (c = false → n = T ∧ s = s')) ∧ Aside0 (n.f3.length + kq ≤ m) ∧ Aside0 (EyeAt w0 w' g L s) ∧ Aside0 (KeepBut w w' g none) ∧ Aside0 (w'.heap[b1]? = some (.cells (nc z29 (.slice none 0 0)).toArray 29 (0, 0))) ∧ Aside0 (w'.heap[b2]? = some (.cells (nc n v).toArray 29 (0, 0))) ∧ Aside0 (Kd.N k29 29 w' w.heap.size (fun q => w.heap.size ≤ q ∧ q ≠ b2 ∧ q ≠ b1) v n.f3))
    case atStart => exact ⟨true, _, _, _, rfl, ⟨fun _ => hr, fun h => by cases h⟩, ⟨by simp⟩, HE, HK, BXb1, BXb2, ⟨Kd.N_nil _ _ _ _ _⟩⟩
    case round =>
      clear HE HK BXb1 BXb2
      obtain ⟨c, n, s9, v, rfl, HC, LEN, HE, HK, BXb1, BXb2, NR0⟩ := hrel
      cases c
      · obtain ⟨rfl, rfl⟩ := HC.out.2 rfl
        have VV := aK (Kd.N_V (base' := 0) NR0.out)
        clear NR0
        go_wp2_with (first
          | ((with_reducible refine gD 51 rfl ?_); go_must ((refine ev_load29 rfl (N := 51) rfl (.tmp 3) rfl (b := b2) rfl BXb2.out ?_)))
          | ((with_reducible refine gate_ (.store 29 (.tmp 2) (.tmp 51)) rfl ?_); go_must ((refine ev_store29 rfl rfl (.tmp 2) (.tmp 51) rfl (b := b1) (z := n) (v := v) rfl rfl BXb1.out (VK_one VV.out) ?_; intro w1 hblk hg hz; replace HE := Ze HE hg GBb1 GL; replace HK := Zx HK hg GBb1; replace BXb1 := aK (hblk); replace BXb2 := Zh hg BXb2 LTb1b2; replace VV := aK (Kd.V_grown VV.out hg (fun q hq e => by injection e with e; exact hq.2.2 e)); clear hblk hg hz))))
        refine bodyPost_ret (results_cell_row rfl _ _ b1 29 (nc n v).toArray _ _ rfl BXb1.out Try.underlying29 rfl info29s) rfl ?_
        exact ⟨v, rfl, Kd.V_mono VV.out (fun q hq => hq.1), HE.out, HK.out⟩
      · obtain ⟨kq, rfl⟩ : ∃ q, gk = q + 1 := by
          cases gk with
          | zero => exact absurd (HC.out.1 rfl) (by simp [run])
          | succ q => exact ⟨q, rfl⟩
        have hrun : aloop_ k L (run k L kq) n s9 = some (T, s') := HC.out.1 rfl
        clear HC
        have HS := aK (hR kq (by have := LEN.out; omega))
        obtain ⟨lo, elo⟩ : ∃ n_, n_ = wr.heap.size := ⟨_, rfl⟩
        have LO := aK (show w.heap.size ≤ lo by rw [elo]; exact HK.out.1)
        have OBb1 := aK (show b1 < lo by rw [elo]; exact blk_lt BXb1.out)
        have OBb2 := aK (show b2 < lo by rw [elo]; exact blk_lt BXb2.out)
        have SZ := aK (show lo ≤ wr.heap.size by rw [elo]; exact Nat.le_refl _)
        have LON := aK (show ∀ q, Value.ownBlock v = some q → q < lo by rw [elo]; exact Kd.N_lt NR0.out)
        have NR := aK (show Kd.N k29 29 wr w.heap.size (fun q => (w.heap.size ≤ q ∧ q ≠ b2 ∧ q ≠ b1) ∧ q < lo) v n.f3 by rw [elo]; exact Kd.N_bound NR0.out)
        clear NR0 elo
        obtain ⟨⟨ac, s15⟩, hac, hrun⟩ := Option.bind_eq_some_iff.1 hrun
        obtain ⟨⟨c2, s16⟩, hc2, hrun⟩ := Option.bind_eq_some_iff.1 hrun
        obtain ⟨⟨at2, s10⟩, hat2, hac⟩ := Option.bind_eq_some_iff.1 hac
        obtain ⟨⟨o1, s11⟩, ho1, hac⟩ := Option.bind_eq_some_iff.1 hac
        cases o1
        · simp only [Bool.false_eq_true, if_false] at hac
          obtain ⟨⟨o2, s12⟩, ho2, hac⟩ := Option.bind_eq_some_iff.1 hac
          cases o2
          · simp only [Bool.false_eq_true, if_false] at hac
            obtain ⟨⟨o3, s13⟩, ho3, hac⟩ := Option.bind_eq_some_iff.1 hac
            cases o3
            · simp only [Bool.false_eq_true, if_false] at hac
              obtain ⟨s14, hbad, hac⟩ := Option.bind_eq_some_iff.1 hac
              simp only [Option.some.injEq, Prod.mk.injEq] at hac
              obtain ⟨rfl, rfl⟩ := hac
              go_wp2_with (first
                | ((with_reducible refine gD 18 rfl ?_); go_must ((refine goesL_ (some 18) rfl rfl Try.func32 (by kernel_rfl) rfl #[eyeP g] rfl (mpT rfl) ?_; refine (eAt_calls hat2 HE.out).mono ?_; rintro e w1 ⟨rfl, he, hk⟩; refine ⟨_, rfl, ?_⟩; replace HE := aK (he); replace HK := Zk HK hk; replace BXb1 := Zb hk BXb1 GBb1 GL; replace BXb2 := Zb hk BXb2 GBb2 GL; replace NR := aK (Kd.N_keep NR.out hk (fun q hq e => by have h9 : w.heap.size ≤ q := hq.1.1; have := GL.out; omega)); replace SZ := aK (Nat.le_trans SZ.out hk.1); clear he hk)))
                | ((with_reducible refine gD 5 rfl ?_); go_must ((refine ev_alloc29 rfl (N := 5) rfl rfl ?_; intro b5 hbn w1 hblk hbel; have GBb5 := aK (show w.heap.size ≤ b5 by have := HK.out.1; omega); have LTb1b5 := aK (show b1 < b5 by have := blk_lt BXb1.out; omega); have LTb2b5 := aK (show b2 < b5 by have := blk_lt BXb2.out; omega); have NBb5 := aK (show lo ≤ b5 by have := SZ.out; omega); replace HE := Zf HE hbel; replace HK := Zw HK hbel; replace BXb1 := Zc hbel BXb1; replace BXb2 := Zc hbel BXb2; replace NR := aK (Kd.N_below NR.out hbel); replace SZ := aK (Nat.le_trans SZ.out hbel.size); have BXb5 := aK hblk; clear hblk hbel hbn)))
                | ((with_reducible refine gate_ (.store 29 (.tmp 5) (.tmp 19)) rfl ?_); go_must ((refine ev_store29 rfl rfl (.tmp 5) (.tmp 19) rfl (b := b5) (z := nd 0 tk0 0 [] at2) (v := (.slice none 0 0)) rfl rfl BXb5.out rfl ?_; intro w1 hblk hg hz; replace HE := Ze HE hg GBb5 GL; replace HK := Zx HK hg GBb5; replace BXb1 := Zg hg BXb1 LTb1b5; replace BXb2 := Zg hg BXb2 LTb2b5; replace BXb5 := aK (hblk); replace NR := aK (Kd.N_grown NR.out hg (fun q hq e => by injection e with e; have h9 : q < lo := hq.2; have := NBb5.out; omega)); replace SZ := aK (Nat.le_trans SZ.out hg.size); clear hblk hg hz)))
                | ((with_reducible refine gD 24 rfl ?_); go_must ((refine goesL_ (some 24) rfl rfl Try.func33 (by kernel_rfl) rfl #[eyeP g, .string ⟨#[111, 117, 116]⟩] rfl (mpT rfl) ?_; refine (eEat_calls ho1 HE.out).mono ?_; rintro e w1 ⟨rfl, he, hk⟩; refine ⟨_, rfl, ?_⟩; replace HE := aK (he); replace HK := Zk HK hk; replace BXb1 := Zb hk BXb1 GBb1 GL; replace BXb2 := Zb hk BXb2 GBb2 GL; replace BXb5 := Zb hk BXb5 GBb5 GL; replace NR := aK (Kd.N_keep NR.out hk (fun q hq e => by have h9 : w.heap.size ≤ q := hq.1.1; have := GL.out; omega)); replace SZ := aK (Nat.le_trans SZ.out hk.1); clear he hk)))
                | ((with_reducible refine gD 32 rfl ?_); go_must ((refine goesL_ (some 32) rfl rfl Try.func33 (by kernel_rfl) rfl #[eyeP g, .string ⟨#[115, 101, 116]⟩] rfl (mpT rfl) ?_; refine (eEat_calls ho2 HE.out).mono ?_; rintro e w1 ⟨rfl, he, hk⟩; refine ⟨_, rfl, ?_⟩; replace HE := aK (he); replace HK := Zk HK hk; replace BXb1 := Zb hk BXb1 GBb1 GL; replace BXb2 := Zb hk BXb2 GBb2 GL; replace BXb5 := Zb hk BXb5 GBb5 GL; replace NR := aK (Kd.N_keep NR.out hk (fun q hq e => by have h9 : w.heap.size ≤ q := hq.1.1; have := GL.out; omega)); replace SZ := aK (Nat.le_trans SZ.out hk.1); clear he hk)))
                | ((with_reducible refine gD 43 rfl ?_); go_must ((refine goesL_ (some 43) rfl rfl Try.func33 (by kernel_rfl) rfl #[eyeP g, .string ⟨#[116, 101, 108, 108]⟩] rfl (mpT rfl) ?_; refine (eEat_calls ho3 HE.out).mono ?_; rintro e w1 ⟨rfl, he, hk⟩; refine ⟨_, rfl, ?_⟩; replace HE := aK (he); replace HK := Zk HK hk; replace BXb1 := Zb hk BXb1 GBb1 GL; replace BXb2 := Zb hk BXb2 GBb2 GL; replace BXb5 := Zb hk BXb5 GBb5 GL; replace NR := aK (Kd.N_keep NR.out hk (fun q hq e => by have h9 : w.heap.size ≤ q := hq.1.1; have := GL.out; omega)); replace SZ := aK (Nat.le_trans SZ.out hk.1); clear he hk)))
                | ((with_reducible refine gD 21 rfl ?_); go_must ((refine goesL_ (some 21) rfl rfl Try.func59 (by kernel_rfl) rfl #[eyeP g, .int .i64 15] rfl (mpT rfl) ?_; refine (eBad_calls hbad HE.out).mono ?_; rintro e w1 ⟨rfl, he, hk⟩; refine ⟨_, rfl, ?_⟩; replace HE := aK (he); replace HK := Zk HK hk; replace BXb1 := Zb hk BXb1 GBb1 GL; replace BXb2 := Zb hk BXb2 GBb2 GL; replace BXb5 := Zb hk BXb5 GBb5 GL; replace NR := aK (Kd.N_keep NR.out hk (fun q hq e => by have h9 : w.heap.size ≤ q := hq.1.1; have := GL.out; omega)); replace SZ := aK (Nat.le_trans SZ.out hk.1); clear he hk)))
                | ((with_reducible refine gD 46 rfl ?_); go_must ((refine ev_cell rfl (N := 46) rfl 27 (.tmp 45) rfl ⟨b2, 3, none⟩ rfl (v) _ ((Mine.blk_cells BXb2.out 3).trans rfl) Try.underlying27 rfl ?_)))
                | ((with_reducible refine gD 47 rfl ?_); go_must ((refine ev_load29 rfl (N := 47) rfl (.tmp 5) rfl (b := b5) rfl BXb5.out ?_)))
                | ((with_reducible refine gD 48 rfl ?_); go_must ((refine Mine.ev_lit1 rfl (N := 48) rfl 27 29 (.tmp 47) rfl (nc (nd 0 tk0 0 [] at2) ((.slice none 0 0))) rfl Try.underlying27 info29 rfl (by omega) (by omega) ?_)))
                | ((with_reducible refine gate_builtin (b := .append) (xs := #[.tmp 46, .tmp 48]) rfl ?_); go_must ((at_builtin; go_must ((refine Kd.N_append k29 (w0 := _) w.heap.size rfl (.tmp 46) (.tmp 48) 27 29 _ 64 rfl Try.underlying27 info29 rfl (by decide) (by omega) v n.f3 (nd 0 tk0 0 [] at2) (nc (nd 0 tk0 0 [] at2) ((.slice none 0 0))) (fun q => w.heap.size ≤ q ∧ q ≠ b2 ∧ q ≠ b1) (fun q => lo ≤ q ∧ q ≠ b5) rfl rfl ?aP ?aK ?aF ?aO (Below.refl _ _) ?aS ?aL ?_; (case aP => exact nc_FK (Kd.V_nil _ _ _ _ _)); (case aK => exact fun q hq => ⟨by have h9 : lo ≤ q := hq.1; have := LO.out; have h6b1 := OBb1.out; have h6b2 := OBb2.out; exact ⟨by omega, by omega, by omega⟩, fun e => by have h9 : lo ≤ q := hq.1; have := LO.out; have := LON.out q e.symm; omega⟩); (case aF => exact fun q hq => by have h9 := hq; have h8 := HK.out.1; have h7b1 := blk_lt BXb1.out; have h7b2 := blk_lt BXb2.out; refine ⟨by omega, by omega, by omega⟩); (case aO => exact Kd.N_mono NR.out (fun q hq => hq.1)); (case aS => exact HK.out.1); (case aL => have := LEN.out; have := HM.out; omega); intro v3 w1 hn hb9 hg hat; clear hb9 hat; have HO := fun q (h : Value.ownBlock v = some q) => (NR.out.1 q h).1; replace HE := aK (eye_row HE.out hg (fun q h => by have h9 : w.heap.size ≤ q := (HO q h).1; have := GL.out; have := HE.out.ge; exact ⟨by omega, by omega⟩)); replace HK := aK (keep_row HK.out hg (fun q h => (HO q h).1)); replace BXb1 := aK (row_blk hg BXb1.out (fun q h => (HO q h).2.2)); replace BXb2 := aK (row_blk hg BXb2.out (fun q h => (HO q h).2.1)); replace SZ := aK (Nat.le_trans SZ.out hg.size); have NRA := aK hn; clear hn hg HO NR BXb5)))))
                | ((with_reducible refine gate_ (.store 27 (.tmp 50) (.tmp 49)) rfl ?_); go_must ((refine ev_field29 rfl rfl 27 (.tmp 50) (.tmp 49) rfl (b := b2) 3 (v3) rfl rfl BXb2.out (by omega) (Kd.N_val NRA.out).1 (Kd.N_val NRA.out).2 (by kernel_rfl) (addKid n (nd 0 tk0 0 [] at2)) (v3) rfl ?_; intro w1 hblk hg hz; replace HE := Ze HE hg GBb2 GL; replace HK := Zx HK hg GBb2; replace BXb1 := Zg hg BXb1 LTb1b2; replace BXb2 := aK (hblk); replace NRA := aK (Kd.N_grown NRA.out hg (fun q hq e => by injection e with e; exact hq.2.1 e)); replace SZ := aK (Nat.le_trans SZ.out hg.size); clear hblk hg hz)))
                | ((with_reducible refine gD 16 rfl ?_); go_must ((refine goesL_ (some 16) rfl rfl Try.func33 (by kernel_rfl) rfl #[eyeP g, .string ⟨#[44]⟩] rfl (mpT rfl) ?_; refine (eEat_calls hc2 HE.out).mono ?_; rintro e w1 ⟨rfl, he, hk⟩; refine ⟨_, rfl, ?_⟩; replace HE := aK (he); replace HK := Zk HK hk; replace BXb1 := Zb hk BXb1 GBb1 GL; replace BXb2 := Zb hk BXb2 GBb2 GL; replace NRA := aK (Kd.N_keep NRA.out hk (fun q hq e => by have h9 : w.heap.size ≤ q := hq.1; have := GL.out; omega)); replace SZ := aK (Nat.le_trans SZ.out hk.1); clear he hk))))
              go_roundg kq
              case rel => exact ⟨c2, addKid n (nd 0 tk0 0 [] at2), s16, v3, rfl, ⟨fun hc => by subst hc; simpa using hrun, fun hc => by subst hc; simpa using hrun⟩, ⟨by have := LEN.out; simp; omega⟩, HE, HK, BXb1, BXb2, NRA⟩
              case measure => omega
            · simp only [if_true, Option.some.injEq, Prod.mk.injEq] at hac
              obtain ⟨rfl, rfl⟩ := hac
              go_wp2_with (first
                | ((with_reducible refine gD 18 rfl ?_); go_must ((refine goesL_ (some 18) rfl rfl Try.func32 (by kernel_rfl) rfl #[eyeP g] rfl (mpT rfl) ?_; refine (eAt_calls hat2 HE.out).mono ?_; rintro e w1 ⟨rfl, he, hk⟩; refine ⟨_, rfl, ?_⟩; replace HE := aK (he); replace HK := Zk HK hk; replace BXb1 := Zb hk BXb1 GBb1 GL; replace BXb2 := Zb hk BXb2 GBb2 GL; replace NR := aK (Kd.N_keep NR.out hk (fun q hq e => by have h9 : w.heap.size ≤ q := hq.1.1; have := GL.out; omega)); replace SZ := aK (Nat.le_trans SZ.out hk.1); clear he hk)))
                | ((with_reducible refine gD 5 rfl ?_); go_must ((refine ev_alloc29 rfl (N := 5) rfl rfl ?_; intro b5 hbn w1 hblk hbel; have GBb5 := aK (show w.heap.size ≤ b5 by have := HK.out.1; omega); have LTb1b5 := aK (show b1 < b5 by have := blk_lt BXb1.out; omega); have LTb2b5 := aK (show b2 < b5 by have := blk_lt BXb2.out; omega); have NBb5 := aK (show lo ≤ b5 by have := SZ.out; omega); replace HE := Zf HE hbel; replace HK := Zw HK hbel; replace BXb1 := Zc hbel BXb1; replace BXb2 := Zc hbel BXb2; replace NR := aK (Kd.N_below NR.out hbel); replace SZ := aK (Nat.le_trans SZ.out hbel.size); have BXb5 := aK hblk; clear hblk hbel hbn)))
                | ((with_reducible refine gate_ (.store 29 (.tmp 5) (.tmp 19)) rfl ?_); go_must ((refine ev_store29 rfl rfl (.tmp 5) (.tmp 19) rfl (b := b5) (z := nd 0 tk0 0 [] at2) (v := (.slice none 0 0)) rfl rfl BXb5.out rfl ?_; intro w1 hblk hg hz; replace HE := Ze HE hg GBb5 GL; replace HK := Zx HK hg GBb5; replace BXb1 := Zg hg BXb1 LTb1b5; replace BXb2 := Zg hg BXb2 LTb2b5; replace BXb5 := aK (hblk); replace NR := aK (Kd.N_grown NR.out hg (fun q hq e => by injection e with e; have h9 : q < lo := hq.2; have := NBb5.out; omega)); replace SZ := aK (Nat.le_trans SZ.out hg.size); clear hblk hg hz)))
                | ((with_reducible refine gD 24 rfl ?_); go_must ((refine goesL_ (some 24) rfl rfl Try.func33 (by kernel_rfl) rfl #[eyeP g, .string ⟨#[111, 117, 116]⟩] rfl (mpT rfl) ?_; refine (eEat_calls ho1 HE.out).mono ?_; rintro e w1 ⟨rfl, he, hk⟩; refine ⟨_, rfl, ?_⟩; replace HE := aK (he); replace HK := Zk HK hk; replace BXb1 := Zb hk BXb1 GBb1 GL; replace BXb2 := Zb hk BXb2 GBb2 GL; replace BXb5 := Zb hk BXb5 GBb5 GL; replace NR := aK (Kd.N_keep NR.out hk (fun q hq e => by have h9 : w.heap.size ≤ q := hq.1.1; have := GL.out; omega)); replace SZ := aK (Nat.le_trans SZ.out hk.1); clear he hk)))
                | ((with_reducible refine gD 32 rfl ?_); go_must ((refine goesL_ (some 32) rfl rfl Try.func33 (by kernel_rfl) rfl #[eyeP g, .string ⟨#[115, 101, 116]⟩] rfl (mpT rfl) ?_; refine (eEat_calls ho2 HE.out).mono ?_; rintro e w1 ⟨rfl, he, hk⟩; refine ⟨_, rfl, ?_⟩; replace HE := aK (he); replace HK := Zk HK hk; replace BXb1 := Zb hk BXb1 GBb1 GL; replace BXb2 := Zb hk BXb2 GBb2 GL; replace BXb5 := Zb hk BXb5 GBb5 GL; replace NR := aK (Kd.N_keep NR.out hk (fun q hq e => by have h9 : w.heap.size ≤ q := hq.1.1; have := GL.out; omega)); replace SZ := aK (Nat.le_trans SZ.out hk.1); clear he hk)))
                | ((with_reducible refine gD 43 rfl ?_); go_must ((refine goesL_ (some 43) rfl rfl Try.func33 (by kernel_rfl) rfl #[eyeP g, .string ⟨#[116, 101, 108, 108]⟩] rfl (mpT rfl) ?_; refine (eEat_calls ho3 HE.out).mono ?_; rintro e w1 ⟨rfl, he, hk⟩; refine ⟨_, rfl, ?_⟩; replace HE := aK (he); replace HK := Zk HK hk; replace BXb1 := Zb hk BXb1 GBb1 GL; replace BXb2 := Zb hk BXb2 GBb2 GL; replace BXb5 := Zb hk BXb5 GBb5 GL; replace NR := aK (Kd.N_keep NR.out hk (fun q hq e => by have h9 : w.heap.size ≤ q := hq.1.1; have := GL.out; omega)); replace SZ := aK (Nat.le_trans SZ.out hk.1); clear he hk)))
                | ((with_reducible refine gate_ (.store 3 (.tmp 44) (.const (.int .i64 17))) rfl ?_); go_must ((refine ev_field29 rfl rfl 3 (.tmp 44) (.const (.int .i64 17)) rfl (b := b5) 0 (.int .i64 17) rfl rfl BXb5.out (by omega) rfl rfl (by kernel_rfl) (nd 17 tk0 0 [] at2) ((.slice none 0 0)) rfl ?_; intro w1 hblk hg hz; replace HE := Ze HE hg GBb5 GL; replace HK := Zx HK hg GBb5; replace BXb1 := Zg hg BXb1 LTb1b5; replace BXb2 := Zg hg BXb2 LTb2b5; replace BXb5 := aK (hblk); replace NR := aK (Kd.N_grown NR.out hg (fun q hq e => by injection e with e; have h9 : q < lo := hq.2; have := NBb5.out; omega)); replace SZ := aK (Nat.le_trans SZ.out hg.size); clear hblk hg hz)))
                | ((with_reducible refine gD 46 rfl ?_); go_must ((refine ev_cell rfl (N := 46) rfl 27 (.tmp 45) rfl ⟨b2, 3, none⟩ rfl (v) _ ((Mine.blk_cells BXb2.out 3).trans rfl) Try.underlying27 rfl ?_)))
                | ((with_reducible refine gD 47 rfl ?_); go_must ((refine ev_load29 rfl (N := 47) rfl (.tmp 5) rfl (b := b5) rfl BXb5.out ?_)))
                | ((with_reducible refine gD 48 rfl ?_); go_must ((refine Mine.ev_lit1 rfl (N := 48) rfl 27 29 (.tmp 47) rfl (nc (nd 17 tk0 0 [] at2) ((.slice none 0 0))) rfl Try.underlying27 info29 rfl (by omega) (by omega) ?_)))
                | ((with_reducible refine gate_builtin (b := .append) (xs := #[.tmp 46, .tmp 48]) rfl ?_); go_must ((at_builtin; go_must ((refine Kd.N_append k29 (w0 := _) w.heap.size rfl (.tmp 46) (.tmp 48) 27 29 _ 64 rfl Try.underlying27 info29 rfl (by decide) (by omega) v n.f3 (nd 17 tk0 0 [] at2) (nc (nd 17 tk0 0 [] at2) ((.slice none 0 0))) (fun q => w.heap.size ≤ q ∧ q ≠ b2 ∧ q ≠ b1) (fun q => lo ≤ q ∧ q ≠ b5) rfl rfl ?aP ?aK ?aF ?aO (Below.refl _ _) ?aS ?aL ?_; (case aP => exact nc_FK (Kd.V_nil _ _ _ _ _)); (case aK => exact fun q hq => ⟨by have h9 : lo ≤ q := hq.1; have := LO.out; have h6b1 := OBb1.out; have h6b2 := OBb2.out; exact ⟨by omega, by omega, by omega⟩, fun e => by have h9 : lo ≤ q := hq.1; have := LO.out; have := LON.out q e.symm; omega⟩); (case aF => exact fun q hq => by have h9 := hq; have h8 := HK.out.1; have h7b1 := blk_lt BXb1.out; have h7b2 := blk_lt BXb2.out; refine ⟨by omega, by omega, by omega⟩); (case aO => exact Kd.N_mono NR.out (fun q hq => hq.1)); (case aS => exact HK.out.1); (case aL => have := LEN.out; have := HM.out; omega); intro v3 w1 hn hb9 hg hat; clear hb9 hat; have HO := fun q (h : Value.ownBlock v = some q) => (NR.out.1 q h).1; replace HE := aK (eye_row HE.out hg (fun q h => by have h9 : w.heap.size ≤ q := (HO q h).1; have := GL.out; have := HE.out.ge; exact ⟨by omega, by omega⟩)); replace HK := aK (keep_row HK.out hg (fun q h => (HO q h).1)); replace BXb1 := aK (row_blk hg BXb1.out (fun q h => (HO q h).2.2)); replace BXb2 := aK (row_blk hg BXb2.out (fun q h => (HO q h).2.1)); replace SZ := aK (Nat.le_trans SZ.out hg.size); have NRA := aK hn; clear hn hg HO NR BXb5)))))
                | ((with_reducible refine gate_ (.store 27 (.tmp 50) (.tmp 49)) rfl ?_); go_must ((refine ev_field29 rfl rfl 27 (.tmp 50) (.tmp 49) rfl (b := b2) 3 (v3) rfl rfl BXb2.out (by omega) (Kd.N_val NRA.out).1 (Kd.N_val NRA.out).2 (by kernel_rfl) (addKid n (nd 17 tk0 0 [] at2)) (v3) rfl ?_; intro w1 hblk hg hz; replace HE := Ze HE hg GBb2 GL; replace HK := Zx HK hg GBb2; replace BXb1 := Zg hg BXb1 LTb1b2; replace BXb2 := aK (hblk); replace NRA := aK (Kd.N_grown NRA.out hg (fun q hq e => by injection e with e; exact hq.2.1 e)); replace SZ := aK (Nat.le_trans SZ.out hg.size); clear hblk hg hz)))
                | ((with_reducible refine gD 16 rfl ?_); go_must ((refine goesL_ (some 16) rfl rfl Try.func33 (by kernel_rfl) rfl #[eyeP g, .string ⟨#[44]⟩] rfl (mpT rfl) ?_; refine (eEat_calls hc2 HE.out).mono ?_; rintro e w1 ⟨rfl, he, hk⟩; refine ⟨_, rfl, ?_⟩; replace HE := aK (he); replace HK := Zk HK hk; replace BXb1 := Zb hk BXb1 GBb1 GL; replace BXb2 := Zb hk BXb2 GBb2 GL; replace NRA := aK (Kd.N_keep NRA.out hk (fun q hq e => by have h9 : w.heap.size ≤ q := hq.1; have := GL.out; omega)); replace SZ := aK (Nat.le_trans SZ.out hk.1); clear he hk))))
              go_roundg kq
              case rel => exact ⟨c2, addKid n (nd 17 tk0 0 [] at2), s16, v3, rfl, ⟨fun hc => by subst hc; simpa using hrun, fun hc => by subst hc; simpa using hrun⟩, ⟨by have := LEN.out; simp; omega⟩, HE, HK, BXb1, BXb2, NRA⟩
              case measure => omega
          · simp only [if_true] at hac
            obtain ⟨⟨nm, s13⟩, hnm, hac⟩ := Option.bind_eq_some_iff.1 hac
            obtain ⟨⟨e1, s14⟩, hex, hac⟩ := Option.bind_eq_some_iff.1 hac
            simp only [Option.some.injEq, Prod.mk.injEq] at hac
            obtain ⟨rfl, rfl⟩ := hac
            go_wp2_with (first
              | ((with_reducible refine gD 18 rfl ?_); go_must ((refine goesL_ (some 18) rfl rfl Try.func32 (by kernel_rfl) rfl #[eyeP g] rfl (mpT rfl) ?_; refine (eAt_calls hat2 HE.out).mono ?_; rintro e w1 ⟨rfl, he, hk⟩; refine ⟨_, rfl, ?_⟩; replace HE := aK (he); replace HK := Zk HK hk; replace BXb1 := Zb hk BXb1 GBb1 GL; replace BXb2 := Zb hk BXb2 GBb2 GL; replace NR := aK (Kd.N_keep NR.out hk (fun q hq e => by have h9 : w.heap.size ≤ q := hq.1.1; have := GL.out; omega)); replace SZ := aK (Nat.le_trans SZ.out hk.1); clear he hk)))
              | ((with_reducible refine gD 5 rfl ?_); go_must ((refine ev_alloc29 rfl (N := 5) rfl rfl ?_; intro b5 hbn w1 hblk hbel; have GBb5 := aK (show w.heap.size ≤ b5 by have := HK.out.1; omega); have LTb1b5 := aK (show b1 < b5 by have := blk_lt BXb1.out; omega); have LTb2b5 := aK (show b2 < b5 by have := blk_lt BXb2.out; omega); have NBb5 := aK (show lo ≤ b5 by have := SZ.out; omega); replace HE := Zf HE hbel; replace HK := Zw HK hbel; replace BXb1 := Zc hbel BXb1; replace BXb2 := Zc hbel BXb2; replace NR := aK (Kd.N_below NR.out hbel); replace SZ := aK (Nat.le_trans SZ.out hbel.size); have BXb5 := aK hblk; clear hblk hbel hbn)))
              | ((with_reducible refine gate_ (.store 29 (.tmp 5) (.tmp 19)) rfl ?_); go_must ((refine ev_store29 rfl rfl (.tmp 5) (.tmp 19) rfl (b := b5) (z := nd 0 tk0 0 [] at2) (v := (.slice none 0 0)) rfl rfl BXb5.out rfl ?_; intro w1 hblk hg hz; replace HE := Ze HE hg GBb5 GL; replace HK := Zx HK hg GBb5; replace BXb1 := Zg hg BXb1 LTb1b5; replace BXb2 := Zg hg BXb2 LTb2b5; replace BXb5 := aK (hblk); replace NR := aK (Kd.N_grown NR.out hg (fun q hq e => by injection e with e; have h9 : q < lo := hq.2; have := NBb5.out; omega)); replace SZ := aK (Nat.le_trans SZ.out hg.size); clear hblk hg hz)))
              | ((with_reducible refine gD 24 rfl ?_); go_must ((refine goesL_ (some 24) rfl rfl Try.func33 (by kernel_rfl) rfl #[eyeP g, .string ⟨#[111, 117, 116]⟩] rfl (mpT rfl) ?_; refine (eEat_calls ho1 HE.out).mono ?_; rintro e w1 ⟨rfl, he, hk⟩; refine ⟨_, rfl, ?_⟩; replace HE := aK (he); replace HK := Zk HK hk; replace BXb1 := Zb hk BXb1 GBb1 GL; replace BXb2 := Zb hk BXb2 GBb2 GL; replace BXb5 := Zb hk BXb5 GBb5 GL; replace NR := aK (Kd.N_keep NR.out hk (fun q hq e => by have h9 : w.heap.size ≤ q := hq.1.1; have := GL.out; omega)); replace SZ := aK (Nat.le_trans SZ.out hk.1); clear he hk)))
              | ((with_reducible refine gD 32 rfl ?_); go_must ((refine goesL_ (some 32) rfl rfl Try.func33 (by kernel_rfl) rfl #[eyeP g, .string ⟨#[115, 101, 116]⟩] rfl (mpT rfl) ?_; refine (eEat_calls ho2 HE.out).mono ?_; rintro e w1 ⟨rfl, he, hk⟩; refine ⟨_, rfl, ?_⟩; replace HE := aK (he); replace HK := Zk HK hk; replace BXb1 := Zb hk BXb1 GBb1 GL; replace BXb2 := Zb hk BXb2 GBb2 GL; replace BXb5 := Zb hk BXb5 GBb5 GL; replace NR := aK (Kd.N_keep NR.out hk (fun q hq e => by have h9 : w.heap.size ≤ q := hq.1.1; have := GL.out; omega)); replace SZ := aK (Nat.le_trans SZ.out hk.1); clear he hk)))
              | ((with_reducible refine gate_ (.store 3 (.tmp 33) (.const (.int .i64 16))) rfl ?_); go_must ((refine ev_field29 rfl rfl 3 (.tmp 33) (.const (.int .i64 16)) rfl (b := b5) 0 (.int .i64 16) rfl rfl BXb5.out (by omega) rfl rfl (by kernel_rfl) (nd 16 tk0 0 [] at2) ((.slice none 0 0)) rfl ?_; intro w1 hblk hg hz; replace HE := Ze HE hg GBb5 GL; replace HK := Zx HK hg GBb5; replace BXb1 := Zg hg BXb1 LTb1b5; replace BXb2 := Zg hg BXb2 LTb2b5; replace BXb5 := aK (hblk); replace NR := aK (Kd.N_grown NR.out hg (fun q hq e => by injection e with e; have h9 : q < lo := hq.2; have := NBb5.out; omega)); replace SZ := aK (Nat.le_trans SZ.out hg.size); clear hblk hg hz)))
              | ((with_reducible refine gD 35 rfl ?_); go_must ((refine goesL_ (some 35) rfl rfl Try.func34 (by kernel_rfl) rfl #[eyeP g] rfl (mpT rfl) ?_; refine (eName_calls hnm HE.out).mono ?_; rintro e w1 ⟨rfl, he, hk⟩; refine ⟨_, rfl, ?_⟩; replace HE := aK (he); replace HK := Zk HK hk; replace BXb1 := Zb hk BXb1 GBb1 GL; replace BXb2 := Zb hk BXb2 GBb2 GL; replace BXb5 := Zb hk BXb5 GBb5 GL; replace NR := aK (Kd.N_keep NR.out hk (fun q hq e => by have h9 : w.heap.size ≤ q := hq.1.1; have := GL.out; omega)); replace SZ := aK (Nat.le_trans SZ.out hk.1); clear he hk)))
              | ((with_reducible refine gate_ (.store 9 (.tmp 36) (.tmp 35)) rfl ?_); go_must ((refine ev_field29 rfl rfl 9 (.tmp 36) (.tmp 35) rfl (b := b5) 1 (.string nm) rfl rfl BXb5.out (by omega) rfl rfl (by kernel_rfl) (nd 16 nm 0 [] at2) ((.slice none 0 0)) rfl ?_; intro w1 hblk hg hz; replace HE := Ze HE hg GBb5 GL; replace HK := Zx HK hg GBb5; replace BXb1 := Zg hg BXb1 LTb1b5; replace BXb2 := Zg hg BXb2 LTb2b5; replace BXb5 := aK (hblk); replace NR := aK (Kd.N_grown NR.out hg (fun q hq e => by injection e with e; have h9 : q < lo := hq.2; have := NBb5.out; omega)); replace SZ := aK (Nat.le_trans SZ.out hg.size); clear hblk hg hz)))
              | ((with_reducible refine gD 38 rfl ?_); go_must ((refine goesL_ (some 38) rfl rfl Try.func77 (by kernel_rfl) rfl #[eyeP g, .bool true] rfl (mpT rfl) ?_; refine (HS.out.2.2.1 _ _ _ _ hex _ _ _ HE.out).mono ?_; rintro e w1 ⟨v1, rfl, hv, he, hk⟩; refine ⟨_, rfl, ?_⟩; have hv2 := Kd.V_mono hv (ok' := fun q => lo ≤ q ∧ q ≠ b5) (fun q hq => by have h8 := hq; have h9 := SZ.out; have h7b5 := blk_lt BXb5.out; refine ⟨?_, ?_⟩ <;> omega); clear hv; replace HE := aK (he); replace HK := Zk HK hk; replace BXb1 := Zb hk BXb1 GBb1 GL; replace BXb2 := Zb hk BXb2 GBb2 GL; replace BXb5 := Zb hk BXb5 GBb5 GL; replace NR := aK (Kd.N_keep NR.out hk (fun q hq e => by have h9 : w.heap.size ≤ q := hq.1.1; have := GL.out; omega)); replace SZ := aK (Nat.le_trans SZ.out hk.1); have Vv1 := aK hv2; clear he hk hv2)))
              | ((with_reducible refine gD 39 rfl ?_); go_must ((refine ev_kid1 rfl (N := 39) rfl (.tmp 38) rfl (T := e1) (v := v1) rfl Vv1.out ?_; intro k2 w1 hv hbel; have hv2 := Kd.V_mono hv (ok' := fun q => lo ≤ q ∧ q ≠ b5) (fun q hq => hq.elim (fun h => h) (fun hq => by have h8 := hq; have h9 := SZ.out; have h7b5 := blk_lt BXb5.out; refine ⟨?_, ?_⟩ <;> omega)); clear hv; replace HE := Zf HE hbel; replace HK := Zw HK hbel; replace BXb1 := Zc hbel BXb1; replace BXb2 := Zc hbel BXb2; replace BXb5 := Zc hbel BXb5; replace NR := aK (Kd.N_below NR.out hbel); replace SZ := aK (Nat.le_trans SZ.out hbel.size); have Vk2 := aK hv2; clear hv2 hbel Vv1)))
              | ((with_reducible refine gate_ (.store 27 (.tmp 40) (.tmp 39)) rfl ?_); go_must ((refine ev_field29 rfl rfl 27 (.tmp 40) (.tmp 39) rfl (b := b5) 3 ((.slice (some ⟨k2, 0, none⟩) 1 1)) rfl rfl BXb5.out (by omega) rfl rfl (by kernel_rfl) (nd 16 nm 0 [e1] at2) ((.slice (some ⟨k2, 0, none⟩) 1 1)) rfl ?_; intro w1 hblk hg hz; replace HE := Ze HE hg GBb5 GL; replace HK := Zx HK hg GBb5; replace BXb1 := Zg hg BXb1 LTb1b5; replace BXb2 := Zg hg BXb2 LTb2b5; replace BXb5 := aK (hblk); replace Vk2 := aK (Kd.V_grown Vk2.out hg (fun q hq e => by injection e with e; exact hq.2 e)); replace NR := aK (Kd.N_grown NR.out hg (fun q hq e => by injection e with e; have h9 : q < lo := hq.2; have := NBb5.out; omega)); replace SZ := aK (Nat.le_trans SZ.out hg.size); clear hblk hg hz)))
              | ((with_reducible refine gD 46 rfl ?_); go_must ((refine ev_cell rfl (N := 46) rfl 27 (.tmp 45) rfl ⟨b2, 3, none⟩ rfl (v) _ ((Mine.blk_cells BXb2.out 3).trans rfl) Try.underlying27 rfl ?_)))
              | ((with_reducible refine gD 47 rfl ?_); go_must ((refine ev_load29 rfl (N := 47) rfl (.tmp 5) rfl (b := b5) rfl BXb5.out ?_)))
              | ((with_reducible refine gD 48 rfl ?_); go_must ((refine Mine.ev_lit1 rfl (N := 48) rfl 27 29 (.tmp 47) rfl (nc (nd 16 nm 0 [e1] at2) ((.slice (some ⟨k2, 0, none⟩) 1 1))) rfl Try.underlying27 info29 rfl (by omega) (by omega) ?_)))
              | ((with_reducible refine gate_builtin (b := .append) (xs := #[.tmp 46, .tmp 48]) rfl ?_); go_must ((at_builtin; go_must ((refine Kd.N_append k29 (w0 := _) w.heap.size rfl (.tmp 46) (.tmp 48) 27 29 _ 64 rfl Try.underlying27 info29 rfl (by decide) (by omega) v n.f3 (nd 16 nm 0 [e1] at2) (nc (nd 16 nm 0 [e1] at2) ((.slice (some ⟨k2, 0, none⟩) 1 1))) (fun q => w.heap.size ≤ q ∧ q ≠ b2 ∧ q ≠ b1) (fun q => lo ≤ q ∧ q ≠ b5) rfl rfl ?aP ?aK ?aF ?aO (Below.refl _ _) ?aS ?aL ?_; (case aP => exact nc_FK Vk2.out); (case aK => exact fun q hq => ⟨by have h9 : lo ≤ q := hq.1; have := LO.out; have h6b1 := OBb1.out; have h6b2 := OBb2.out; exact ⟨by omega, by omega, by omega⟩, fun e => by have h9 : lo ≤ q := hq.1; have := LO.out; have := LON.out q e.symm; omega⟩); (case aF => exact fun q hq => by have h9 := hq; have h8 := HK.out.1; have h7b1 := blk_lt BXb1.out; have h7b2 := blk_lt BXb2.out; refine ⟨by omega, by omega, by omega⟩); (case aO => exact Kd.N_mono NR.out (fun q hq => hq.1)); (case aS => exact HK.out.1); (case aL => have := LEN.out; have := HM.out; omega); intro v3 w1 hn hb9 hg hat; clear hb9 hat; have HO := fun q (h : Value.ownBlock v = some q) => (NR.out.1 q h).1; replace HE := aK (eye_row HE.out hg (fun q h => by have h9 : w.heap.size ≤ q := (HO q h).1; have := GL.out; have := HE.out.ge; exact ⟨by omega, by omega⟩)); replace HK := aK (keep_row HK.out hg (fun q h => (HO q h).1)); replace BXb1 := aK (row_blk hg BXb1.out (fun q h => (HO q h).2.2)); replace BXb2 := aK (row_blk hg BXb2.out (fun q h => (HO q h).2.1)); replace SZ := aK (Nat.le_trans SZ.out hg.size); have NRA := aK hn; clear hn hg HO NR BXb5 Vk2)))))
              | ((with_reducible refine gate_ (.store 27 (.tmp 50) (.tmp 49)) rfl ?_); go_must ((refine ev_field29 rfl rfl 27 (.tmp 50) (.tmp 49) rfl (b := b2) 3 (v3) rfl rfl BXb2.out (by omega) (Kd.N_val NRA.out).1 (Kd.N_val NRA.out).2 (by kernel_rfl) (addKid n (nd 16 nm 0 [e1] at2)) (v3) rfl ?_; intro w1 hblk hg hz; replace HE := Ze HE hg GBb2 GL; replace HK := Zx HK hg GBb2; replace BXb1 := Zg hg BXb1 LTb1b2; replace BXb2 := aK (hblk); replace NRA := aK (Kd.N_grown NRA.out hg (fun q hq e => by injection e with e; exact hq.2.1 e)); replace SZ := aK (Nat.le_trans SZ.out hg.size); clear hblk hg hz)))
              | ((with_reducible refine gD 16 rfl ?_); go_must ((refine goesL_ (some 16) rfl rfl Try.func33 (by kernel_rfl) rfl #[eyeP g, .string ⟨#[44]⟩] rfl (mpT rfl) ?_; refine (eEat_calls hc2 HE.out).mono ?_; rintro e w1 ⟨rfl, he, hk⟩; refine ⟨_, rfl, ?_⟩; replace HE := aK (he); replace HK := Zk HK hk; replace BXb1 := Zb hk BXb1 GBb1 GL; replace BXb2 := Zb hk BXb2 GBb2 GL; replace NRA := aK (Kd.N_keep NRA.out hk (fun q hq e => by have h9 : w.heap.size ≤ q := hq.1; have := GL.out; omega)); replace SZ := aK (Nat.le_trans SZ.out hk.1); clear he hk))))
            go_roundg kq
            case rel => exact ⟨c2, addKid n (nd 16 nm 0 [e1] at2), s16, v3, rfl, ⟨fun hc => by subst hc; simpa using hrun, fun hc => by subst hc; simpa using hrun⟩, ⟨by have := LEN.out; simp; omega⟩, HE, HK, BXb1, BXb2, NRA⟩
            case measure => omega
        · simp only [if_true] at hac
          obtain ⟨⟨e1, s14⟩, hex, hac⟩ := Option.bind_eq_some_iff.1 hac
          simp only [Option.some.injEq, Prod.mk.injEq] at hac
          obtain ⟨rfl, rfl⟩ := hac
          go_wp2_with (first
            | ((with_reducible refine gD 18 rfl ?_); go_must ((refine goesL_ (some 18) rfl rfl Try.func32 (by kernel_rfl) rfl #[eyeP g] rfl (mpT rfl) ?_; refine (eAt_calls hat2 HE.out).mono ?_; rintro e w1 ⟨rfl, he, hk⟩; refine ⟨_, rfl, ?_⟩; replace HE := aK (he); replace HK := Zk HK hk; replace BXb1 := Zb hk BXb1 GBb1 GL; replace BXb2 := Zb hk BXb2 GBb2 GL; replace NR := aK (Kd.N_keep NR.out hk (fun q hq e => by have h9 : w.heap.size ≤ q := hq.1.1; have := GL.out; omega)); replace SZ := aK (Nat.le_trans SZ.out hk.1); clear he hk)))
            | ((with_reducible refine gD 5 rfl ?_); go_must ((refine ev_alloc29 rfl (N := 5) rfl rfl ?_; intro b5 hbn w1 hblk hbel; have GBb5 := aK (show w.heap.size ≤ b5 by have := HK.out.1; omega); have LTb1b5 := aK (show b1 < b5 by have := blk_lt BXb1.out; omega); have LTb2b5 := aK (show b2 < b5 by have := blk_lt BXb2.out; omega); have NBb5 := aK (show lo ≤ b5 by have := SZ.out; omega); replace HE := Zf HE hbel; replace HK := Zw HK hbel; replace BXb1 := Zc hbel BXb1; replace BXb2 := Zc hbel BXb2; replace NR := aK (Kd.N_below NR.out hbel); replace SZ := aK (Nat.le_trans SZ.out hbel.size); have BXb5 := aK hblk; clear hblk hbel hbn)))
            | ((with_reducible refine gate_ (.store 29 (.tmp 5) (.tmp 19)) rfl ?_); go_must ((refine ev_store29 rfl rfl (.tmp 5) (.tmp 19) rfl (b := b5) (z := nd 0 tk0 0 [] at2) (v := (.slice none 0 0)) rfl rfl BXb5.out rfl ?_; intro w1 hblk hg hz; replace HE := Ze HE hg GBb5 GL; replace HK := Zx HK hg GBb5; replace BXb1 := Zg hg BXb1 LTb1b5; replace BXb2 := Zg hg BXb2 LTb2b5; replace BXb5 := aK (hblk); replace NR := aK (Kd.N_grown NR.out hg (fun q hq e => by injection e with e; have h9 : q < lo := hq.2; have := NBb5.out; omega)); replace SZ := aK (Nat.le_trans SZ.out hg.size); clear hblk hg hz)))
            | ((with_reducible refine gD 24 rfl ?_); go_must ((refine goesL_ (some 24) rfl rfl Try.func33 (by kernel_rfl) rfl #[eyeP g, .string ⟨#[111, 117, 116]⟩] rfl (mpT rfl) ?_; refine (eEat_calls ho1 HE.out).mono ?_; rintro e w1 ⟨rfl, he, hk⟩; refine ⟨_, rfl, ?_⟩; replace HE := aK (he); replace HK := Zk HK hk; replace BXb1 := Zb hk BXb1 GBb1 GL; replace BXb2 := Zb hk BXb2 GBb2 GL; replace BXb5 := Zb hk BXb5 GBb5 GL; replace NR := aK (Kd.N_keep NR.out hk (fun q hq e => by have h9 : w.heap.size ≤ q := hq.1.1; have := GL.out; omega)); replace SZ := aK (Nat.le_trans SZ.out hk.1); clear he hk)))
            | ((with_reducible refine gate_ (.store 3 (.tmp 25) (.const (.int .i64 15))) rfl ?_); go_must ((refine ev_field29 rfl rfl 3 (.tmp 25) (.const (.int .i64 15)) rfl (b := b5) 0 (.int .i64 15) rfl rfl BXb5.out (by omega) rfl rfl (by kernel_rfl) (nd 15 tk0 0 [] at2) ((.slice none 0 0)) rfl ?_; intro w1 hblk hg hz; replace HE := Ze HE hg GBb5 GL; replace HK := Zx HK hg GBb5; replace BXb1 := Zg hg BXb1 LTb1b5; replace BXb2 := Zg hg BXb2 LTb2b5; replace BXb5 := aK (hblk); replace NR := aK (Kd.N_grown NR.out hg (fun q hq e => by injection e with e; have h9 : q < lo := hq.2; have := NBb5.out; omega)); replace SZ := aK (Nat.le_trans SZ.out hg.size); clear hblk hg hz)))
            | ((with_reducible refine gD 27 rfl ?_); go_must ((refine goesL_ (some 27) rfl rfl Try.func77 (by kernel_rfl) rfl #[eyeP g, .bool true] rfl (mpT rfl) ?_; refine (HS.out.2.2.1 _ _ _ _ hex _ _ _ HE.out).mono ?_; rintro e w1 ⟨v1, rfl, hv, he, hk⟩; refine ⟨_, rfl, ?_⟩; have hv2 := Kd.V_mono hv (ok' := fun q => lo ≤ q ∧ q ≠ b5) (fun q hq => by have h8 := hq; have h9 := SZ.out; have h7b5 := blk_lt BXb5.out; refine ⟨?_, ?_⟩ <;> omega); clear hv; replace HE := aK (he); replace HK := Zk HK hk; replace BXb1 := Zb hk BXb1 GBb1 GL; replace BXb2 := Zb hk BXb2 GBb2 GL; replace BXb5 := Zb hk BXb5 GBb5 GL; replace NR := aK (Kd.N_keep NR.out hk (fun q hq e => by have h9 : w.heap.size ≤ q := hq.1.1; have := GL.out; omega)); replace SZ := aK (Nat.le_trans SZ.out hk.1); have Vv1 := aK hv2; clear he hk hv2)))
            | ((with_reducible refine gD 28 rfl ?_); go_must ((refine ev_kid1 rfl (N := 28) rfl (.tmp 27) rfl (T := e1) (v := v1) rfl Vv1.out ?_; intro k2 w1 hv hbel; have hv2 := Kd.V_mono hv (ok' := fun q => lo ≤ q ∧ q ≠ b5) (fun q hq => hq.elim (fun h => h) (fun hq => by have h8 := hq; have h9 := SZ.out; have h7b5 := blk_lt BXb5.out; refine ⟨?_, ?_⟩ <;> omega)); clear hv; replace HE := Zf HE hbel; replace HK := Zw HK hbel; replace BXb1 := Zc hbel BXb1; replace BXb2 := Zc hbel BXb2; replace BXb5 := Zc hbel BXb5; replace NR := aK (Kd.N_below NR.out hbel); replace SZ := aK (Nat.le_trans SZ.out hbel.size); have Vk2 := aK hv2; clear hv2 hbel Vv1)))
            | ((with_reducible refine gate_ (.store 27 (.tmp 29) (.tmp 28)) rfl ?_); go_must ((refine ev_field29 rfl rfl 27 (.tmp 29) (.tmp 28) rfl (b := b5) 3 ((.slice (some ⟨k2, 0, none⟩) 1 1)) rfl rfl BXb5.out (by omega) rfl rfl (by kernel_rfl) (nd 15 tk0 0 [e1] at2) ((.slice (some ⟨k2, 0, none⟩) 1 1)) rfl ?_; intro w1 hblk hg hz; replace HE := Ze HE hg GBb5 GL; replace HK := Zx HK hg GBb5; replace BXb1 := Zg hg BXb1 LTb1b5; replace BXb2 := Zg hg BXb2 LTb2b5; replace BXb5 := aK (hblk); replace Vk2 := aK (Kd.V_grown Vk2.out hg (fun q hq e => by injection e with e; exact hq.2 e)); replace NR := aK (Kd.N_grown NR.out hg (fun q hq e => by injection e with e; have h9 : q < lo := hq.2; have := NBb5.out; omega)); replace SZ := aK (Nat.le_trans SZ.out hg.size); clear hblk hg hz)))
            | ((with_reducible refine gD 46 rfl ?_); go_must ((refine ev_cell rfl (N := 46) rfl 27 (.tmp 45) rfl ⟨b2, 3, none⟩ rfl (v) _ ((Mine.blk_cells BXb2.out 3).trans rfl) Try.underlying27 rfl ?_)))
            | ((with_reducible refine gD 47 rfl ?_); go_must ((refine ev_load29 rfl (N := 47) rfl (.tmp 5) rfl (b := b5) rfl BXb5.out ?_)))
            | ((with_reducible refine gD 48 rfl ?_); go_must ((refine Mine.ev_lit1 rfl (N := 48) rfl 27 29 (.tmp 47) rfl (nc (nd 15 tk0 0 [e1] at2) ((.slice (some ⟨k2, 0, none⟩) 1 1))) rfl Try.underlying27 info29 rfl (by omega) (by omega) ?_)))
            | ((with_reducible refine gate_builtin (b := .append) (xs := #[.tmp 46, .tmp 48]) rfl ?_); go_must ((at_builtin; go_must ((refine Kd.N_append k29 (w0 := _) w.heap.size rfl (.tmp 46) (.tmp 48) 27 29 _ 64 rfl Try.underlying27 info29 rfl (by decide) (by omega) v n.f3 (nd 15 tk0 0 [e1] at2) (nc (nd 15 tk0 0 [e1] at2) ((.slice (some ⟨k2, 0, none⟩) 1 1))) (fun q => w.heap.size ≤ q ∧ q ≠ b2 ∧ q ≠ b1) (fun q => lo ≤ q ∧ q ≠ b5) rfl rfl ?aP ?aK ?aF ?aO (Below.refl _ _) ?aS ?aL ?_; (case aP => exact nc_FK Vk2.out); (case aK => exact fun q hq => ⟨by have h9 : lo ≤ q := hq.1; have := LO.out; have h6b1 := OBb1.out; have h6b2 := OBb2.out; exact ⟨by omega, by omega, by omega⟩, fun e => by have h9 : lo ≤ q := hq.1; have := LO.out; have := LON.out q e.symm; omega⟩); (case aF => exact fun q hq => by have h9 := hq; have h8 := HK.out.1; have h7b1 := blk_lt BXb1.out; have h7b2 := blk_lt BXb2.out; refine ⟨by omega, by omega, by omega⟩); (case aO => exact Kd.N_mono NR.out (fun q hq => hq.1)); (case aS => exact HK.out.1); (case aL => have := LEN.out; have := HM.out; omega); intro v3 w1 hn hb9 hg hat; clear hb9 hat; have HO := fun q (h : Value.ownBlock v = some q) => (NR.out.1 q h).1; replace HE := aK (eye_row HE.out hg (fun q h => by have h9 : w.heap.size ≤ q := (HO q h).1; have := GL.out; have := HE.out.ge; exact ⟨by omega, by omega⟩)); replace HK := aK (keep_row HK.out hg (fun q h => (HO q h).1)); replace BXb1 := aK (row_blk hg BXb1.out (fun q h => (HO q h).2.2)); replace BXb2 := aK (row_blk hg BXb2.out (fun q h => (HO q h).2.1)); replace SZ := aK (Nat.le_trans SZ.out hg.size); have NRA := aK hn; clear hn hg HO NR BXb5 Vk2)))))
            | ((with_reducible refine gate_ (.store 27 (.tmp 50) (.tmp 49)) rfl ?_); go_must ((refine ev_field29 rfl rfl 27 (.tmp 50) (.tmp 49) rfl (b := b2) 3 (v3) rfl rfl BXb2.out (by omega) (Kd.N_val NRA.out).1 (Kd.N_val NRA.out).2 (by kernel_rfl) (addKid n (nd 15 tk0 0 [e1] at2)) (v3) rfl ?_; intro w1 hblk hg hz; replace HE := Ze HE hg GBb2 GL; replace HK := Zx HK hg GBb2; replace BXb1 := Zg hg BXb1 LTb1b2; replace BXb2 := aK (hblk); replace NRA := aK (Kd.N_grown NRA.out hg (fun q hq e => by injection e with e; exact hq.2.1 e)); replace SZ := aK (Nat.le_trans SZ.out hg.size); clear hblk hg hz)))
            | ((with_reducible refine gD 16 rfl ?_); go_must ((refine goesL_ (some 16) rfl rfl Try.func33 (by kernel_rfl) rfl #[eyeP g, .string ⟨#[44]⟩] rfl (mpT rfl) ?_; refine (eEat_calls hc2 HE.out).mono ?_; rintro e w1 ⟨rfl, he, hk⟩; refine ⟨_, rfl, ?_⟩; replace HE := aK (he); replace HK := Zk HK hk; replace BXb1 := Zb hk BXb1 GBb1 GL; replace BXb2 := Zb hk BXb2 GBb2 GL; replace NRA := aK (Kd.N_keep NRA.out hk (fun q hq e => by have h9 : w.heap.size ≤ q := hq.1; have := GL.out; omega)); replace SZ := aK (Nat.le_trans SZ.out hk.1); clear he hk))))
          go_roundg kq
          case rel => exact ⟨c2, addKid n (nd 15 tk0 0 [e1] at2), s16, v3, rfl, ⟨fun hc => by subst hc; simpa using hrun, fun hc => by subst hc; simpa using hrun⟩, ⟨by have := LEN.out; simp; omega⟩, HE, HK, BXb1, BXb2, NRA⟩
          case measure => omega
  · simp only [if_true, Option.some.injEq, Prod.mk.injEq] at h
    obtain ⟨rfl, rfl⟩ := h
    go_enter Try.func80, Try.ntmps80
    go_wp2_with (first
      | ((with_reducible refine gD 2 rfl ?_); go_must ((refine ev_alloc29 rfl (N := 2) rfl rfl ?_; intro b1 hbn w1 hblk hbel; have GBb1 := aK (show w.heap.size ≤ b1 by have := HK.out.1; omega); replace HE := Zf HE hbel; replace HK := Zw HK hbel; have BXb1 := aK hblk; clear hblk hbel hbn)))
      | ((with_reducible refine gD 7 rfl ?_); go_must ((refine goesL_ (some 7) rfl rfl Try.func35 (by kernel_rfl) rfl #[eyeP g, .string ⟨#[100, 111]⟩] rfl (mpT rfl) ?_; refine (eMust_calls hm1 HE.out).mono ?_; rintro e w1 ⟨rfl, he, hk⟩; refine ⟨_, rfl, ?_⟩; replace HE := aK (he); replace HK := Zk HK hk; replace BXb1 := Zb hk BXb1 GBb1 GL; clear he hk)))
      | ((with_reducible refine gD 9 rfl ?_); go_must ((refine goesL_ (some 9) rfl rfl Try.func32 (by kernel_rfl) rfl #[eyeP g] rfl (mpT rfl) ?_; refine (eAt_calls hat HE.out).mono ?_; rintro e w1 ⟨rfl, he, hk⟩; refine ⟨_, rfl, ?_⟩; replace HE := aK (he); replace HK := Zk HK hk; replace BXb1 := Zb hk BXb1 GBb1 GL; clear he hk)))
      | ((with_reducible refine gD 3 rfl ?_); go_must ((refine ev_alloc29 rfl (N := 3) rfl rfl ?_; intro b2 hbn w1 hblk hbel; have GBb2 := aK (show w.heap.size ≤ b2 by have := HK.out.1; omega); have LTb1b2 := aK (show b1 < b2 by have := blk_lt BXb1.out; omega); replace HE := Zf HE hbel; replace HK := Zw HK hbel; replace BXb1 := Zc hbel BXb1; have BXb2 := aK hblk; clear hblk hbel hbn)))
      | ((with_reducible refine gate_ (.store 29 (.tmp 3) (.tmp 10)) rfl ?_); go_must ((refine ev_store29 rfl rfl (.tmp 3) (.tmp 10) rfl (b := b2) (z := nd 14 tk0 0 [] at_) (v := (.slice none 0 0)) rfl rfl BXb2.out rfl ?_; intro w1 hblk hg hz; replace HE := Ze HE hg GBb2 GL; replace HK := Zx HK hg GBb2; replace BXb1 := Zg hg BXb1 LTb1b2; replace BXb2 := aK (hblk); clear hblk hg hz)))
      | ((with_reducible refine gD 12 rfl ?_); go_must ((refine goesL_ (some 12) rfl rfl Try.func33 (by kernel_rfl) rfl #[eyeP g, .string ⟨#[100, 114, 111, 112]⟩] rfl (mpT rfl) ?_; refine (eEat_calls hd HE.out).mono ?_; rintro e w1 ⟨rfl, he, hk⟩; refine ⟨_, rfl, ?_⟩; replace HE := aK (he); replace HK := Zk HK hk; replace BXb1 := Zb hk BXb1 GBb1 GL; replace BXb2 := Zb hk BXb2 GBb2 GL; clear he hk)))
      | ((with_reducible refine gD 13 rfl ?_); go_must ((refine ev_load29 rfl (N := 13) rfl (.tmp 3) rfl (b := b2) rfl BXb2.out ?_)))
      | ((with_reducible refine gate_ (.store 29 (.tmp 2) (.tmp 13)) rfl ?_); go_must ((refine ev_store29 rfl rfl (.tmp 2) (.tmp 13) rfl (b := b1) (z := nd 14 tk0 0 [] at_) (v := (.slice none 0 0)) rfl rfl BXb1.out rfl ?_; intro w1 hblk hg hz; replace HE := Ze HE hg GBb1 GL; replace HK := Zx HK hg GBb1; replace BXb1 := aK (hblk); replace BXb2 := Zh hg BXb2 LTb1b2; clear hblk hg hz))))
    refine bodyPost_ret (results_cell_row rfl _ _ b1 29 (nc (nd 14 tk0 0 [] at_) (.slice none 0 0)).toArray _ _ rfl BXb1.out Try.underlying29 rfl info29s) rfl ?_
    exact ⟨(.slice none 0 0), rfl, Kd.V_nil _ _ _ _ _, HE.out, HK.out⟩
end Go.Proofs.Ytdiadmlgeojefaa.A
namespace Go.Proofs.Ytdiadmlgeojefaa.A
open Go.RowKit Go.Proofs.YtdiadmlgeojefaaW.PrintWords Go.Proofs.YtdiadmlgeojefaaW.PrintLast Go.Proofs.YtdiadmlgeojefaaW.PrintMore
set_option linter.unusedVariables false
set_option linter.unusedSimpArgs false
section
variable {P : Program} {ops : Array Oper} {oi : Oper} {a : Act} {w : World} {K : Act → World → Prop} {Q : Exit → Act → World → Prop}
def Qk (K : Act → World → Prop) (Q : Exit → Act → World → Prop) : Exit → Act → World → Prop
  | .normal, a, w => K a w
  | .panic c, a, w => Q (.panic c) a w
  | _, _, _ => False
theorem not_lets : ¬ LetsOut (Qk K Q) := fun ⟨_, _, h⟩ => h
theorem step_of_list (hg : oi.guard = none) (h : wpList P ops (Qk K Q) [oi] a w) : if Region.wanted oi (yielded ops a.tmps) = true then Oper.wp P oi a w K Q else K (a.put oi.dst undef) w := by
  have hw : Region.wanted oi (yielded ops a.tmps) = true := by simp [Region.wanted, hg]
  rw [if_pos hw]
  unfold wpList at h
  rw [if_pos hw] at h
  rcases h with h | ⟨_, h⟩
  · unfold Oper.wp at h ⊢
    have hn : ∀ a w, wpList P ops (Qk K Q) [] a w → K a w := fun a w h => h
    revert h
    cases hr : (execOp a.eval oi).run P w with
    | ok n w1 =>
      cases n with
      | enter f args =>
        rw [Oper.upon_enter, Oper.upon_enter]
        refine fun h => Calls.mono h fun e w'' hh => ?_
        cases e with
        | returned v => exact hn _ _ hh
        | panicked c => exact hh
        | outgrown => exact (not_lets hh).elim
      | value v => exact fun h => hn _ _ h
      | skip => exact fun h => hn _ _ h
      | defer d => exact fun h => hn _ _ h
      | row r args => exact fun h => h
      | _ => first | exact fun h => h | exact fun h => (h : False).elim
    | halt x w1 => cases x <;> first | exact fun h => h | exact fun h => h.elim
  · exact (not_lets h).elim
end
theorem act_same (a : Act) (d : Tmp) (v : Value) (h : d < a.tmps.size) : (a.put (some d) v).eval (.tmp d) = v := by simp [Act.put, Act.eval, h]
theorem act_ne (a : Act) {d d' : Tmp} (v : Value) (h : d ≠ d') : (a.put (some d) v).eval (.tmp d') = a.eval (.tmp d') := by
  simp only [Act.put, Act.eval, Array.getD_eq_getD_getElem?]
  rw [Array.getElem?_setIfInBounds_ne h]
theorem act_size (a : Act) (d : Option Tmp) (v : Value) : (a.put d v).tmps.size = a.tmps.size := by cases d <;> simp [Act.put]
section
variable {o : Oper} {a : Act}
theorem run_field29 {x : Operand} (ho : o.op = .fieldAddr 29 x 3) {b : Nat} (hx : a.eval x = .pointer (some ⟨b, 0, none⟩)) : ∀ w, (execOp a.eval o).run Try.prog w = .ok (.value (.pointer (some ⟨b, 3, none⟩))) w := by
  intro w
  unfold execOp
  simp only [ho, hx]
  first | (go_simp; done) | (go_simp; rfl)
theorem run_move {x : Operand} (ho : o.op = .move x) {v : Value} (hx : a.eval x = v) : ∀ w, (execOp a.eval o).run Try.prog w = .ok (.value v) w := by
  intro w
  unfold execOp
  simp only [ho, hx]
  rfl
theorem run_len {A : Option Addr} {n c : Nat} {x : Operand} (ho : o.op = .call { callee := .builtin .len, args := #[x], argTypes := #[27] }) (ht : o.type = 3) (hx : a.eval x = .slice A n c) : ∀ w, (execOp a.eval o).run Try.prog w = .ok (.value (.int .i64 n)) w := by
  intro w
  generalize a.eval = ev at hx
  unfold execOp
  simp only [ho, ht]
  go_simp
theorem run_index {g n c i : Nat} {x y : Operand} (ho : o.op = .indexAddr 27 x y) (hx : a.eval x = .slice (some ⟨g, 0, none⟩) n c) (hy : a.eval y = .int .i64 i) (hi : i < n) : ∀ w, (execOp a.eval o).run Try.prog w = .ok (.value (.pointer (some ⟨g, i * 5, none⟩))) w := by
  intro w
  unfold execOp
  simp only [ho, hx, hy]
  have h1 : decide ((0 : Int) ≤ (i : Int)) = true := by simp
  have h2 : decide ((i : Int) < (n : Int)) = true := by simp; omega
  first | (go_simp; done) | (go_simp; rfl)
end
end Go.Proofs.Ytdiadmlgeojefaa.A
namespace Go.Proofs.Ytdiadmlgeojefaa.A
open Go.RowKit Go.Proofs.YtdiadmlgeojefaaW.PrintWords Go.Proofs.YtdiadmlgeojefaaW.PrintLast Go.Proofs.YtdiadmlgeojefaaW.PrintMore
set_option linter.unusedVariables false
set_option linter.unusedSimpArgs false
def RelG (g b : Nat) (row : Option Nat) (W W' : World) : Prop := W.heap.size ≤ W'.heap.size ∧ ∀ i, i < W.heap.size → i ≠ g → i ≠ b → some i ≠ row → W'.heap[i]? = W.heap[i]?
theorem RelG.keep {g b : Nat} {row : Option Nat} {W W' : World} (h : KeepBut W W' g none) : RelG g b row W W' := ⟨h.1, fun i hi h1 _ _ => h.2 i hi h1 (by simp)⟩
theorem RelG.grown {g b : Nat} {row r : Option Nat} {W W1 W' : World} (h : RelG g b row W W1) (hg : W1.grownBy W' r) (hr : r = row ∨ r = some b ∨ ∃ q, r = some q ∧ W.heap.size ≤ q) : RelG g b row W W' :=
  ⟨Nat.le_trans h.1 hg.size, fun i hi h1 h2 h3 => by
    refine (hg.block i (Nat.lt_of_lt_of_le hi h.1) ?_).trans (h.2 i hi h1 h2 h3)
    rcases hr with rfl | rfl | ⟨q, rfl, hq⟩
    · exact h3
    · simpa using h2
    · intro e; injection e with e; omega⟩
theorem RelG.below {g b : Nat} {row : Option Nat} {W W1 W' : World} (h : RelG g b row W W1) (hb : Below W1.heap.size W1 W') : RelG g b row W W' :=
  ⟨Nat.le_trans h.1 hb.size, fun i hi h1 h2 h3 => (hb.block i (Nat.lt_of_lt_of_le hi h.1)).trans (h.2 i hi h1 h2 h3)⟩
structure AppPre (w0 W : World) (g b base : Nat) (ok : Nat → Prop) (L : Toks) (s : St) (n : S29) (v : Value) : Prop where
  eye : EyeAt w0 W g L s
  box : W.heap[b]? = some (.cells (nc n v).toArray 29 (0, 0))
  row : Kd.N k29 29 W base ok v n.f3
  ne : b ≠ g
  okg : ∀ k, ok k → k ≠ g ∧ k ≠ b ∧ w0.heap.size ≤ k
  fresh : ∀ k, W.heap.size ≤ k → ok k
  base : base ≤ W.heap.size
  lo : w0.heap.size ≤ b
  len : n.f3.length ≤ 1099511627776
def AppPost (w0 W : World) (g b base : Nat) (ok : Nat → Prop) (L : Toks) (s' : St) (n T : S29) (v v' : Value) (W' : World) : Prop :=
  EyeAt w0 W' g L s' ∧ W'.heap[b]? = some (.cells (nc (addKid n T) v').toArray 29 (0, 0)) ∧ Kd.N k29 29 W' base ok v' (n.f3 ++ [T]) ∧ RelG g b v.ownBlock W W'
theorem put_comm (a : Act) {d d' : Tmp} (v v' : Value) (h : d ≠ d') : (a.put (some d) v).put (some d') v' = (a.put (some d') v').put (some d) v := by
  simp only [Act.put, Act.mk.injEq, and_true]
  exact Array.setIfInBounds_comm _ _ h
theorem step_of {P : Program} {ops : Array Oper} {oi : Oper} {a : Act} {w : World} {K : Act → World → Prop} {Q : Exit → Act → World → Prop} {N : Option Tmp} (hg : oi.guard = none) (hN : oi.dst = N) (h : wpList P ops (Qk K Q) [oi] a w) : if Region.wanted oi (yielded ops a.tmps) = true then Oper.wp P oi a w K Q else K (a.put N undef) w := by
  subst hN
  exact step_of_list hg h
theorem N_row {α : Type} {d : Kd α} {e base n c : Nat} {w : World} {ok : Nat → Prop} {A : Option Addr} {xs : List α} (h : Kd.N d e w base ok (.slice A n c) xs) (hn : 0 < xs.length) : ∃ g, A = some ⟨g, 0, none⟩ ∧ base ≤ g ∧ ok g := by
  obtain ⟨h0, rows, hl, hR, _⟩ := h
  obtain ⟨_, inner, ho, _⟩ := hR
  rcases ho.2 with ⟨_, hz⟩ | ⟨g, cap, cur, hv, hb, _⟩
  · omega
  · injection hv with e1 e2 e3
    subst e1
    exact ⟨g, rfl, hb, h0 g rfl⟩
theorem kid_F {W : World} {z : Nat} {T : S29} {v : Value} {ok : Nat → Prop} (hz : W.heap[z]? = some (.cells (nc T v).toArray 29 (0, 0))) (hV : VK W ok v T.f3) : Kd.F k29 W (fun q => ok q ∨ q = z) (some ⟨z, 0, none⟩) 1 [T] := fun W' hW => by
  have hfk : k29.K W' T (nc T v) := (nc_FK hV) W' (fun k hk hlt => hW k (.inl hk) hlt)
  have hblk : W'.heap[z]? = some (.cells (nc T v).toArray 29 (0, 0)) := (hW z (.inr rfl) (blk_lt hz)).trans hz
  refine ⟨rfl, by simp, fun _ => ⟨_, rfl, fun j p hj => ?_⟩⟩
  rcases j with _ | j
  · simp only [List.getElem?_cons_zero, Option.some.injEq] at hj
    subst hj
    refine ⟨nc T v, rfl, hfk, fun j u hu => ?_⟩
    have := Mine.blk_all hblk j u hu
    simpa using this
  · simp at hj
theorem set_last {xs : List S29} {T : S29} : (xs ++ [z29]).set xs.length T = xs ++ [T] := by simp
section
variable {ops : Array Oper} {Q : Exit → Act → World → Prop} {a : Act} {w0 W : World} {g b base : Nat} {ok : Nat → Prop} {L : Toks} {s s' : St} {n T : S29} {v : Value}
set_option maxHeartbeats 1000000 in
theorem app_core {fuel : Nat} (pre : AppPre w0 W g b base ok L s n v)
    (ic ib ia ii is_ if_ ix : Nat) (oc ob oa oi os of_ ox : Oper) (dc db da di df dv dl dn : Tmp)
    (lc lb lcb la li lf ls lx lz l0 : Array Bool)
    (hic : ops[ic]? = some oc) (hib : ops[ib]? = some ob) (hia : ops[ia]? = some oa) (hii : ops[ii]? = some oi) (his : ops[is_]? = some os) (hif : ops[if_]? = some of_) (hix : ops[ix]? = some ox)
    (hgc : oc.guard = none ∧ oc.dst = some dc) (hgb : ob.guard = none ∧ ob.dst = some db) (hga : oa.guard = none ∧ oa.dst = some da) (hgi : oi.guard = none ∧ oi.dst = some di) (hgs : os.guard = none ∧ os.dst = none) (hgf : of_.guard = none ∧ of_.dst = some df) (hgx : ox.guard = none ∧ ox.dst = none)
    {f : FuncId} {fn : Func} {aa : Array Operand} {ts : Array TypeId} (hf : Try.prog.funcs[f]? = some fn) (hname : (fn.name == "runtime.NumGoroutine") = false) (hb : fn.body.isSome = true) (args : Array Value)
    (hoc : oc.op = .call { callee := .value (.func f), args := aa, argTypes := ts }) (hargs : aa.map a.eval = args) (hargs2 : ∀ vz, aa.map (a.put (some db) vz).eval = args)
    (hob : ob.op = .buildSlice 27 1 #[(0, .const (.agg (nc z29 (.slice none 0 0)).toArray))])
    (hoa : oa.op = .call { callee := .builtin .append, args := #[.tmp dv, .tmp db], argTypes := #[27, 27] })
    (hoi : oi.op = .indexAddr 27 (.tmp da) (.tmp dl)) (hos : os.op = .store 29 (.tmp di) (.tmp dc)) (hof : of_.op = .fieldAddr 29 (.tmp dn) 3) (hox : ox.op = .store 27 (.tmp df) (.tmp da))
    (hsz : dc < a.tmps.size ∧ db < a.tmps.size ∧ da < a.tmps.size ∧ di < a.tmps.size ∧ df < a.tmps.size)
    (hne : (dc ≠ db ∧ dc ≠ da ∧ dc ≠ di ∧ dc ≠ df ∧ db ≠ da ∧ db ≠ di ∧ db ≠ df ∧ da ≠ di ∧ da ≠ df ∧ di ≠ df) ∧ (dc ≠ dv ∧ db ≠ dv) ∧ (dc ≠ dl ∧ db ≠ dl ∧ da ≠ dl) ∧ (dc ≠ dn ∧ db ≠ dn ∧ da ≠ dn ∧ di ≠ dn))
    (hv : a.eval (.tmp dv) = v) (hl : a.eval (.tmp dl) = .int .i64 n.f3.length) (hn : a.eval (.tmp dn) = .pointer (some ⟨b, 0, none⟩))
    (c0 : (Region.ready .any ops l0 == [ic, ib] && l0.setIfInBounds ic true == lc && l0.setIfInBounds ib true == lb) = true) (c1 : readyB .any ops lc lcb ib = true) (c2 : readyB .any ops lb lcb ic = true)
    (c3 : readyB .any ops lcb la ia = true) (c4 : anyB .any ops la li ii = true) (c5 : anyB .any ops li lf if_ = true)
    (c6 : (Region.ready .any ops lf == [is_, ix] && lf.setIfInBounds is_ true == ls && lf.setIfInBounds ix true == lx) = true) (c7 : readyB .any ops ls lz ix = true) (c8 : readyB .any ops lx lz is_ = true) (c9 : (Region.ready .any ops lz == []) = true)
    (hds : ic ∉ [is_, ix] ∧ ib ∉ [is_, ix] ∧ ia ∉ [is_, ix])
    (hQ : ∀ (d : Tmp) v c a w, Q (.panic c) (Act.put a (some d) v) w → Q (.panic c) a w)
    (hcall : ∀ W1, EyeAt w0 W1 g L s → Calls Try.prog f args W1 (NodePost w0 W1 g L T s'))
    (hpost : ∀ vT vz v1 p1 W', AppPost w0 W g b base ok L s' n T v v1 W' → Q .normal (((((a.put (some dc) vT).put (some db) vz).put (some da) v1).put (some di) p1).put (some df) (.pointer (some ⟨b, 3, none⟩))) W') :
    wpAnyLast Try.prog .any ops Q (fun w' => w'.cell? ⟨b, 3, none⟩ = some v) [is_, ix] (fuel + 7) l0 a W := by
  obtain ⟨⟨n1, n2, n3, n4, n5, n6, n7, n8, n9, n10⟩, ⟨n11, n12⟩, ⟨n13, n14, n15⟩, n16, n17, n18, n19⟩ := hne
  obtain ⟨z1, z2, z3, z4, z5⟩ := hsz
  have hS : ∀ {W' : World} {y : S29}, W'.heap[b]? = some (.cells (nc y v).toArray 29 (0, 0)) → W'.cell? ⟨b, 3, none⟩ = some v := fun h => (Mine.blk_cells h 3).trans rfl
  -- behind the call and the element's place
  have fin : ∀ vT z W3, EyeAt w0 W3 g L s' → KeepBut W W3 g none → VK W3 (fun q => W.heap.size ≤ q ∧ q ≠ z) vT T.f3 → W3.heap[z]? = some (.cells (nc z29 (.slice none 0 0)).toArray 29 (0, 0)) → W.heap.size ≤ z →
      wpAnyLast Try.prog .any ops Q (fun w' => w'.cell? ⟨b, 3, none⟩ = some v) [is_, ix] (fuel + 5) lcb ((a.put (some dc) (.agg (nc T vT).toArray)).put (some db) (.slice (some ⟨z, 0, none⟩) 1 1)) W3 := by
    intro vT z W3 hE hK hV hz hzl
    have hown : ∀ k, v.ownBlock = some k → k < W.heap.size := Kd.N_lt pre.row
    have hBb : W3.heap[b]? = some (.cells (nc n v).toArray 29 (0, 0)) := keep_blk hK pre.box pre.ne
    refine YtdiadmlgeojefaaW.PrintLast.one_ (i := ia) (N := some da) la hia hga.2 c3 hds.2.2 (fun K hKK => step_of hga.1 hga.2 ?_)
    refine Kd.N_append_rows k29 (w0 := W3) base hga.1 (.tmp dv) (.tmp db) 27 29 _ 64 hoa Try.underlying27 info29 rfl (by decide) (by omega) v n.f3 [z29] (some ⟨z, 0, none⟩) 1 1 ok (fun q => False ∨ q = z) ?_ ?_ ?_ (kid_F hz (Kd.V_nil _ _ _ _ _)) ?_ ?_ (Below.refl _ _) ?_ ?_ ?_
    · rw [act_ne _ _ n12, act_ne _ _ n11, hv]
    · rw [act_same _ _ _ (by rw [act_size]; exact z2)]
    · exact Kd.N_keep pre.row hK (fun k hk => (pre.okg k hk).1)
    · rintro k (hk | rfl)
      · exact hk.elim
      · exact ⟨pre.fresh _ hzl, fun e => by have := hown _ e.symm; omega⟩
    · exact fun k hk => pre.fresh k (Nat.le_trans hK.1 hk)
    · exact Nat.le_trans pre.base hK.1
    · have := pre.len; omega
    intro v1 W4 hN hb9 hg4 hat
    have hN0 := hN
    obtain ⟨A1, c1_, e1⟩ := Kd.N_slice hN
    subst e1
    obtain ⟨g1, e1, hg1b, hg1⟩ := N_row hN (by simp)
    subst e1
    rw [List.length_append, List.length_singleton] at hN hat ⊢
    have hB4 : W4.heap[b]? = some (.cells (nc n v).toArray 29 (0, 0)) := row_blk hg4 hBb (fun q h e => (pre.okg q (pre.row.1 q h)).2.1 e)
    have hE4 : EyeAt w0 W4 g L s' := eye_row hE hg4 (fun q h => ⟨(pre.okg q (pre.row.1 q h)).1, (pre.okg q (pre.row.1 q h)).2.2⟩)
    have hR4 : RelG g b v.ownBlock W W4 := (RelG.keep hK).grown hg4 (.inl rfl)
    have hg1n : g1 ≠ g ∧ g1 ≠ b ∧ w0.heap.size ≤ g1 := pre.okg g1 hg1
    have hV4 : VK W4 (fun q => ok q ∧ q ≠ g1) vT T.f3 := by
      have h1 := Kd.V_mono (Kd.V_bound hV) (ok' := fun q => W.heap.size ≤ q ∧ q < W3.heap.size) (fun q hq => ⟨hq.1.1, hq.2⟩)
      have h2 := Kd.V_grown h1 hg4 (fun q hq e => by have := hown q e.symm; have := hq.1; omega)
      refine Kd.V_mono h2 (fun q hq => ⟨pre.fresh q hq.1, fun e => ?_⟩)
      subst e
      rcases hat with h | ⟨b', h, hb'⟩
      · have := hown q h.symm; have := hq.1; omega
      · have h3 : some q = some b' := h
        injection h3 with h3
        have := hq.2; omega
    have hr1 : v.ownBlock = some g1 ∨ W.heap.size ≤ g1 := by
      rcases hat with h | ⟨b', h, hb'⟩
      · exact .inl h.symm
      · have h3 : some g1 = some b' := h
        injection h3 with h3
        have := hK.1
        exact .inr (by omega)
    show K _ W4
    rw [hga.2]
    refine hKK _ _ (hS hB4) (fun _ => ?_)
    refine pure_ (i := ii) (N := some di) (v := .pointer (some ⟨g1, n.f3.length * 5, none⟩)) li hii hgi.2 c4 (fun c a w => by rw [hgi.2]; exact hQ _ _ c a w) (Or.inl ⟨by simp [Region.wanted, hgi.1], run_index (g := g1) (n := n.f3.length + 1) (c := c1_) (i := n.f3.length) hoi ?_ ?_ (by omega)⟩) rfl ?_
    · rw [act_same _ _ _ (by rw [act_size, act_size]; exact z3)]
    · rw [act_ne _ _ n15, act_ne _ _ n14, act_ne _ _ n13, hl]
    refine pure_ (i := if_) (N := some df) (v := .pointer (some ⟨b, 3, none⟩)) lf hif hgf.2 c5 (fun c a w => by rw [hgf.2]; exact hQ _ _ c a w) (Or.inl ⟨by simp [Region.wanted, hgf.1], run_field29 hof ?_⟩) rfl ?_
    · rw [act_ne _ _ n19, act_ne _ _ n18, act_ne _ _ n17, act_ne _ _ n16, hn]
    have endp : ∀ W', EyeAt w0 W' g L s' → W'.heap[b]? = some (.cells (nc (addKid n T) (.slice (some ⟨g1, 0, none⟩) (n.f3.length + 1) c1_)).toArray 29 (0, 0)) → Kd.N k29 29 W' base ok (.slice (some ⟨g1, 0, none⟩) (n.f3.length + 1) c1_) (n.f3 ++ [T]) → RelG g b v.ownBlock W W' → ∀ m, wpAnyLast Try.prog .any ops Q (fun w' => w'.cell? ⟨b, 3, none⟩ = some v) [is_, ix] m lz (((((a.put (some dc) (.agg (nc T vT).toArray)).put (some db) (.slice (some ⟨z, 0, none⟩) 1 1)).put (some da) (.slice (some ⟨g1, 0, none⟩) (n.f3.length + 1) c1_)).put (some di) (.pointer (some ⟨g1, n.f3.length * 5, none⟩))).put (some df) (.pointer (some ⟨b, 3, none⟩))) W' :=
      fun W' h1 h2 h3 h4 m => done_ c9 (hpost _ _ _ _ _ ⟨h1, h2, h3, h4⟩)
    generalize hA : ((((a.put (some dc) (.agg (nc T vT).toArray)).put (some db) (.slice (some ⟨z, 0, none⟩) 1 1)).put (some da) (.slice (some ⟨g1, 0, none⟩) (n.f3.length + 1) c1_)).put (some di) (.pointer (some ⟨g1, n.f3.length * 5, none⟩))).put (some df) (.pointer (some ⟨b, 3, none⟩)) = A at endp ⊢
    have eDi : A.eval (.tmp di) = .pointer (some ⟨g1, n.f3.length * 5, none⟩) := by rw [← hA, act_ne _ _ (Ne.symm n10), act_same _ _ _ (by rw [act_size, act_size, act_size]; exact z4)]
    have eDf : A.eval (.tmp df) = .pointer (some ⟨b, 3, none⟩) := by rw [← hA, act_same _ _ _ (by rw [act_size, act_size, act_size, act_size]; exact z5)]
    have eDc : A.eval (.tmp dc) = .agg (nc T vT).toArray := by rw [← hA, act_ne _ _ (Ne.symm n4), act_ne _ _ (Ne.symm n3), act_ne _ _ (Ne.symm n2), act_ne _ _ (Ne.symm n1), act_same _ _ _ z1]
    have eDa : A.eval (.tmp da) = .slice (some ⟨g1, 0, none⟩) (n.f3.length + 1) c1_ := by rw [← hA, act_ne _ _ (Ne.symm n9), act_ne _ _ (Ne.symm n8), act_same _ _ _ (by rw [act_size, act_size]; exact z3)]
    simp only [Bool.and_eq_true, beq_iff_eq] at c6
    obtain ⟨⟨c6a, c6b⟩, c6c⟩ := c6
    -- the element, whatever the world's last step was
    have elem : ∀ (W5 : World) (K : Act → World → Prop), Kd.N k29 29 W5 base ok (.slice (some ⟨g1, 0, none⟩) (n.f3.length + 1) c1_) (n.f3 ++ [z29]) → VK W5 (fun q => ok q ∧ q ≠ g1) vT T.f3 →
        (∀ W6, Kd.N k29 29 W6 base ok (.slice (some ⟨g1, 0, none⟩) (n.f3.length + 1) c1_) (n.f3 ++ [T]) → W5.grownBy W6 (some g1) → K A W6) → wpList Try.prog ops (Qk K Q) [os] A W5 := by
      intro W5 K hN5 hV5 hk
      obtain ⟨cs, hcl, hFK, hcc⟩ := Kd.N_get hN5 z29 (n.f3.length : Int) (by omega) (by omega)
      have hcl5 : cs.length = 5 := hcl
      refine Kd.N_store k29 (w0 := W5) base hgs.2 hgs.1 29 (.tmp di) (.tmp dc) hos 29 (g := g1) (n := n.f3.length + 1) (cap := c1_) (n.f3.length : Int) 0 (n.f3 ++ [z29]) T (.agg (nc T vT).toArray) (nc T vT) cs ok (fun q => ok q ∧ q ≠ g1) eDi (by simp; rfl) eDc rfl info29s (nc_one (VK_one hV5)) hN5 (by omega) (by omega) hcl ?_ (by show 0 + 5 ≤ 5; omega) ?_ (fun q hq => hq) (Below.refl _ _) ?_
      · intro j u hu
        have := hcc j u hu
        rw [Mine.at_add] at this
        exact this
      · have e : cs.take 0 ++ nc T vT ++ cs.drop (0 + (nc T vT).length) = nc T vT := Mine.splice_all cs _ (by rw [hcl5]; rfl)
        rw [e]
        exact nc_FK hV5
      · intro W6 hN6 hb6 hg6
        rw [Int.toNat_natCast, set_last] at hN6
        exact hk W6 hN6 hg6
    have boxs : ∀ (W5 : World) (K : Act → World → Prop), W5.heap[b]? = some (.cells (nc n v).toArray 29 (0, 0)) →
        (∀ W6, W6.heap[b]? = some (.cells (nc (addKid n T) (.slice (some ⟨g1, 0, none⟩) (n.f3.length + 1) c1_)).toArray 29 (0, 0)) → W5.grownBy W6 (some b) → K A W6) → wpList Try.prog ops (Qk K Q) [ox] A W5 := by
      intro W5 K hB5 hk
      refine ev_field29 hgx.1 hgx.2 27 (.tmp df) (.tmp da) hox 3 _ eDf eDa hB5 (by omega) rfl rfl (by kernel_rfl) (addKid n T) (.slice (some ⟨g1, 0, none⟩) (n.f3.length + 1) c1_) rfl ?_
      exact fun W6 h1 h2 h3 => hk W6 h1 h2
    refine wpAnyLast_ready c6a (by simp) (AllReadyL.cons_last his (by simp) (fun K hK5 => step_of hgs.1 rfl ?_) (AllReadyL.cons_last hix (by simp) (fun K hK5 => step_of hgx.1 rfl ?_) AllReadyL.nil))
    · refine elem W4 K hN hV4 (fun W6 hN6 hg6 => ?_)
      refine hK5 _ _ ?_
      rw [c6b]
      refine last_ (i := ix) (N := none) lz hix hgx.2 c7 (by simp) (fun K hK6 => step_of hgx.1 hgx.2 ?_)
      refine boxs W6 K (grown_blk hg6 hB4 (Ne.symm hg1n.2.1)) (fun W7 hB7 hg7 => hK6 _ _ (endp W7 ?_ hB7 ?_ ?_ _))
      · exact (hE4.grown hg6 hg1n.1 hg1n.2.2).grown hg7 pre.ne pre.lo
      · exact Kd.N_grown hN6 hg7 (fun q hq e => by injection e with e; exact (pre.okg q hq).2.1 e)
      · exact (hR4.grown hg6 (hr1.elim (fun h => .inl h.symm) (fun h => .inr (.inr ⟨_, rfl, h⟩)))).grown hg7 (.inr (.inl rfl))
    · refine boxs W4 K hB4 (fun W6 hB6 hg6 => ?_)
      refine hK5 _ _ ?_
      rw [c6c]
      refine last_ (i := is_) (N := none) lz his hgs.2 c8 (by simp) (fun K hK6 => step_of hgs.1 hgs.2 ?_)
      refine elem W6 K (Kd.N_grown hN hg6 (fun q hq e => by injection e with e; exact (pre.okg q hq).2.1 e)) (Kd.V_grown hV4 hg6 (fun q hq e => by injection e with e; exact (pre.okg q hq.1).2.1 e)) (fun W7 hN7 hg7 => hK6 _ _ (endp W7 ?_ ?_ hN7 ?_ _))
      · exact (hE4.grown hg6 pre.ne pre.lo).grown hg7 hg1n.1 hg1n.2.2
      · exact grown_blk hg7 hB6 (Ne.symm hg1n.2.1)
      · exact (hR4.grown hg6 (.inr (.inl rfl))).grown hg7 (hr1.elim (fun h => .inl h.symm) (fun h => .inr (.inr ⟨_, rfl, h⟩)))
  have hlt := pre.eye.lt
  refine two_ (i := ic) (j := ib) (Ni := some dc) (Nj := some db) lc lb hic hib hgc.2 hgb.2 c0 hds.1 hds.2.1 (fun K hK => step_of hgc.1 hgc.2 ?_) (fun K hK => step_of hgb.1 hgb.2 ?_)
  · refine goesL_ (some dc) hgc.2 hgc.1 hf hname hb args hoc hargs ?_
    refine (hcall W pre.eye).mono ?_
    rintro e W1 ⟨vT, rfl, hV, hE, hk⟩
    refine ⟨_, rfl, ?_⟩
    show K _ W1
    have hB1 := keep_blk hk pre.box pre.ne
    refine hK _ _ (hS hB1) (fun _ => ?_)
    refine YtdiadmlgeojefaaW.PrintLast.one_ (i := ib) (N := some db) lcb hib hgb.2 c1 hds.2.1 (fun K hK => step_of hgb.1 hgb.2 ?_)
    refine Mine.ev_lit1 hgb.1 (N := db) hgb.2 27 29 _ hob (nc z29 (.slice none 0 0)) rfl Try.underlying27 info29 rfl (by omega) (by omega) ?_
    have hb1 : Below W1.heap.size W1 (W1.alloc (.cells (nc z29 (.slice none 0 0)).toArray 29)) := below_alloc (Below.refl _ _) _
    show K _ _
    rw [hgb.2]
    refine hK _ _ (hS (below_blk hb1 hB1)) (fun _ => ?_)
    exact fin vT W1.heap.size _ (hE.below hb1) (keep_below hk hb1) (Kd.V_below (Kd.V_elderB hV W1.heap.size (Nat.le_refl _)) hb1) (heap_alloc_new W1 _) hk.1
  · refine Mine.ev_lit1 hgb.1 (N := db) hgb.2 27 29 _ hob (nc z29 (.slice none 0 0)) rfl Try.underlying27 info29 rfl (by omega) (by omega) ?_
    have hb1 : Below W.heap.size W (W.alloc (.cells (nc z29 (.slice none 0 0)).toArray 29)) := below_alloc (Below.refl _ _) _
    have hnew := heap_alloc_new W (.cells (nc z29 (.slice none 0 0)).toArray 29)
    have hsize := blk_lt hnew
    have hB1 := below_blk hb1 pre.box
    show K _ _
    rw [hgb.2]
    refine hK _ _ (hS hB1) (fun _ => ?_)
    generalize hW1 : W.alloc (.cells (nc z29 (.slice none 0 0)).toArray 29) = W1 at hb1 hnew hsize hB1 ⊢
    refine YtdiadmlgeojefaaW.PrintLast.one_ (i := ic) (N := some dc) lcb hic hgc.2 c2 hds.1 (fun K hK => step_of hgc.1 hgc.2 ?_)
    refine goesL_ (some dc) hgc.2 hgc.1 hf hname hb args hoc (hargs2 _) ?_
    refine (hcall W1 (pre.eye.below hb1)).mono ?_
    rintro e W3 ⟨vT, rfl, hV, hE, hk⟩
    refine ⟨_, rfl, ?_⟩
    show K _ W3
    have hB3 := keep_blk hk hB1 pre.ne
    refine hK _ _ (hS hB3) (fun _ => ?_)
    rw [put_comm a _ _ (Ne.symm n1)]
    exact fin vT W.heap.size W3 hE ((KeepBut.of_below hb1 g none).trans hk (.inl rfl)) (Kd.V_mono hV (fun q hq => by have h9 : W1.heap.size ≤ q := hq; exact ⟨by omega, by omega⟩)) (keep_blk hk hnew (by omega)) (Nat.le_refl _)
end
end Go.Proofs.Ytdiadmlgeojefaa.A
namespace Go.Proofs.Ytdiadmlgeojefaa.A
open Go.RowKit Go.Proofs.YtdiadmlgeojefaaW.PrintWords Go.Proofs.YtdiadmlgeojefaaW.PrintLast Go.Proofs.YtdiadmlgeojefaaW.PrintMore
set_option linter.unusedVariables false
set_option linter.unusedSimpArgs false
theorem run_nil {o : Oper} {a : Act} {x : Operand} (ho : o.op = .nilCheck x) {b : Nat} (hx : a.eval x = .pointer (some ⟨b, 0, none⟩)) : ∀ w, (execOp a.eval o).run Try.prog w = .ok (.value (.pointer (some ⟨b, 0, none⟩))) w := by
  intro w
  generalize a.eval = ev at hx
  unfold execOp
  simp only [ho, hx]
  first | done | (go_simp; done) | (go_simp; rfl)
set_option maxRecDepth 10000
section
variable {ops : Array Oper} {Q : Exit → Act → World → Prop} {a : Act} {w0 W : World} {g b base : Nat} {ok : Nat → Prop} {L : Toks} {s s' : St} {n T : S29} {v : Value}
set_option maxHeartbeats 1000000 in
theorem app_coreC {fuel : Nat} (pre : AppPre w0 W g b base ok L s n v)
    (ic ib ia ii is_ ik if_ ix : Nat) (oc ob oa oi os ok_ of_ ox : Oper) (dc db da di dk df dv dl dn : Tmp)
    (lc lb lcb la li lk lf ls lx lz l0 : Array Bool)
    (hic : ops[ic]? = some oc) (hib : ops[ib]? = some ob) (hia : ops[ia]? = some oa) (hii : ops[ii]? = some oi) (his : ops[is_]? = some os) (hik : ops[ik]? = some ok_) (hif : ops[if_]? = some of_) (hix : ops[ix]? = some ox)
    (hgc : oc.guard = none ∧ oc.dst = some dc) (hgb : ob.guard = none ∧ ob.dst = some db) (hga : oa.guard = none ∧ oa.dst = some da) (hgi : oi.guard = none ∧ oi.dst = some di) (hgs : os.guard = none ∧ os.dst = none) (hgk : ok_.guard = none ∧ ok_.dst = some dk) (hgf : of_.guard = none ∧ of_.dst = some df) (hgx : ox.guard = none ∧ ox.dst = none)
    {f : FuncId} {fn : Func} {aa : Array Operand} {ts : Array TypeId} (hf : Try.prog.funcs[f]? = some fn) (hname : (fn.name == "runtime.NumGoroutine") = false) (hb : fn.body.isSome = true) (args : Array Value)
    (hoc : oc.op = .call { callee := .value (.func f), args := aa, argTypes := ts }) (hargs : aa.map a.eval = args) (hargs2 : ∀ vz, aa.map (a.put (some db) vz).eval = args)
    (hob : ob.op = .buildSlice 27 1 #[(0, .const (.agg (nc z29 (.slice none 0 0)).toArray))])
    (hoa : oa.op = .call { callee := .builtin .append, args := #[.tmp dv, .tmp db], argTypes := #[27, 27] })
    (hoi : oi.op = .indexAddr 27 (.tmp da) (.tmp dl)) (hos : os.op = .store 29 (.tmp di) (.tmp dc)) (hok : ok_.op = .nilCheck (.tmp dn)) (hof : of_.op = .fieldAddr 29 (.tmp dk) 3) (hox : ox.op = .store 27 (.tmp df) (.tmp da))
    (hsz : dc < a.tmps.size ∧ db < a.tmps.size ∧ da < a.tmps.size ∧ di < a.tmps.size ∧ df < a.tmps.size ∧ dk < a.tmps.size)
    (hne : (dc ≠ db ∧ dc ≠ da ∧ dc ≠ di ∧ dc ≠ df ∧ db ≠ da ∧ db ≠ di ∧ db ≠ df ∧ da ≠ di ∧ da ≠ df ∧ di ≠ df) ∧ (dc ≠ dv ∧ db ≠ dv) ∧ (dc ≠ dl ∧ db ≠ dl ∧ da ≠ dl) ∧ (dc ≠ dn ∧ db ≠ dn ∧ da ≠ dn ∧ di ≠ dn) ∧ (dc ≠ dk ∧ db ≠ dk ∧ da ≠ dk ∧ di ≠ dk ∧ df ≠ dk))
    (hv : a.eval (.tmp dv) = v) (hl : a.eval (.tmp dl) = .int .i64 n.f3.length) (hn : a.eval (.tmp dn) = .pointer (some ⟨b, 0, none⟩))
    (c0 : (Region.ready .any ops l0 == [ic, ib] && l0.setIfInBounds ic true == lc && l0.setIfInBounds ib true == lb) = true) (c1 : readyB .any ops lc lcb ib = true) (c2 : readyB .any ops lb lcb ic = true)
    (c3 : readyB .any ops lcb la ia = true) (c4 : anyB .any ops la li ii = true) (c5k : anyB .any ops li lk ik = true) (c5 : anyB .any ops lk lf if_ = true)
    (c6 : (Region.ready .any ops lf == [is_, ix] && lf.setIfInBounds is_ true == ls && lf.setIfInBounds ix true == lx) = true) (c7 : readyB .any ops ls lz ix = true) (c8 : readyB .any ops lx lz is_ = true) (c9 : (Region.ready .any ops lz == []) = true)
    (hds : ic ∉ [is_, ix] ∧ ib ∉ [is_, ix] ∧ ia ∉ [is_, ix])
    (hQ : ∀ (d : Tmp) v c a w, Q (.panic c) (Act.put a (some d) v) w → Q (.panic c) a w)
    (hcall : ∀ W1, EyeAt w0 W1 g L s → Calls Try.prog f args W1 (NodePost w0 W1 g L T s'))
    (hpost : ∀ vT vz v1 p1 W', AppPost w0 W g b base ok L s' n T v v1 W' → Q .normal ((((((a.put (some dc) vT).put (some db) vz).put (some da) v1).put (some di) p1).put (some dk) (.pointer (some ⟨b, 0, none⟩))).put (some df) (.pointer (some ⟨b, 3, none⟩))) W') :
    wpAnyLast Try.prog .any ops Q (fun w' => w'.cell? ⟨b, 3, none⟩ = some v) [is_, ix] (fuel + 8) l0 a W := by
  obtain ⟨⟨n1, n2, n3, n4, n5, n6, n7, n8, n9, n10⟩, ⟨n11, n12⟩, ⟨n13, n14, n15⟩, ⟨n16, n17, n18, n19⟩, k1, k2, k3, k4, k5⟩ := hne
  obtain ⟨z1, z2, z3, z4, z5, z6⟩ := hsz
  have hS : ∀ {W' : World} {y : S29}, W'.heap[b]? = some (.cells (nc y v).toArray 29 (0, 0)) → W'.cell? ⟨b, 3, none⟩ = some v := fun h => (Mine.blk_cells h 3).trans rfl
  -- behind the call and the element's place
  have fin : ∀ vT z W3, EyeAt w0 W3 g L s' → KeepBut W W3 g none → VK W3 (fun q => W.heap.size ≤ q ∧ q ≠ z) vT T.f3 → W3.heap[z]? = some (.cells (nc z29 (.slice none 0 0)).toArray 29 (0, 0)) → W.heap.size ≤ z →
      wpAnyLast Try.prog .any ops Q (fun w' => w'.cell? ⟨b, 3, none⟩ = some v) [is_, ix] (fuel + 6) lcb ((a.put (some dc) (.agg (nc T vT).toArray)).put (some db) (.slice (some ⟨z, 0, none⟩) 1 1)) W3 := by
    intro vT z W3 hE hK hV hz hzl
    have hown : ∀ k, v.ownBlock = some k → k < W.heap.size := Kd.N_lt pre.row
    have hBb : W3.heap[b]? = some (.cells (nc n v).toArray 29 (0, 0)) := keep_blk hK pre.box pre.ne
    refine YtdiadmlgeojefaaW.PrintLast.one_ (i := ia) (N := some da) la hia hga.2 c3 hds.2.2 (fun K hKK => step_of hga.1 hga.2 ?_)
    refine Kd.N_append_rows k29 (w0 := W3) base hga.1 (.tmp dv) (.tmp db) 27 29 _ 64 hoa Try.underlying27 info29 rfl (by decide) (by omega) v n.f3 [z29] (some ⟨z, 0, none⟩) 1 1 ok (fun q => False ∨ q = z) ?_ ?_ ?_ (kid_F hz (Kd.V_nil _ _ _ _ _)) ?_ ?_ (Below.refl _ _) ?_ ?_ ?_
    · rw [act_ne _ _ n12, act_ne _ _ n11, hv]
    · rw [act_same _ _ _ (by rw [act_size]; exact z2)]
    · exact Kd.N_keep pre.row hK (fun k hk => (pre.okg k hk).1)
    · rintro k (hk | rfl)
      · exact hk.elim
      · exact ⟨pre.fresh _ hzl, fun e => by have := hown _ e.symm; omega⟩
    · exact fun k hk => pre.fresh k (Nat.le_trans hK.1 hk)
    · exact Nat.le_trans pre.base hK.1
    · have := pre.len; omega
    intro v1 W4 hN hb9 hg4 hat
    have hN0 := hN
    obtain ⟨A1, c1_, e1⟩ := Kd.N_slice hN
    subst e1
    obtain ⟨g1, e1, hg1b, hg1⟩ := N_row hN (by simp)
    subst e1
    rw [List.length_append, List.length_singleton] at hN hat ⊢
    have hB4 : W4.heap[b]? = some (.cells (nc n v).toArray 29 (0, 0)) := row_blk hg4 hBb (fun q h e => (pre.okg q (pre.row.1 q h)).2.1 e)
    have hE4 : EyeAt w0 W4 g L s' := eye_row hE hg4 (fun q h => ⟨(pre.okg q (pre.row.1 q h)).1, (pre.okg q (pre.row.1 q h)).2.2⟩)
    have hR4 : RelG g b v.ownBlock W W4 := (RelG.keep hK).grown hg4 (.inl rfl)
    have hg1n : g1 ≠ g ∧ g1 ≠ b ∧ w0.heap.size ≤ g1 := pre.okg g1 hg1
    have hV4 : VK W4 (fun q => ok q ∧ q ≠ g1) vT T.f3 := by
      have h1 := Kd.V_mono (Kd.V_bound hV) (ok' := fun q => W.heap.size ≤ q ∧ q < W3.heap.size) (fun q hq => ⟨hq.1.1, hq.2⟩)
      have h2 := Kd.V_grown h1 hg4 (fun q hq e => by have := hown q e.symm; have := hq.1; omega)
      refine Kd.V_mono h2 (fun q hq => ⟨pre.fresh q hq.1, fun e => ?_⟩)
      subst e
      rcases hat with h | ⟨b', h, hb'⟩
      · have := hown q h.symm; have := hq.1; omega
      · have h3 : some q = some b' := h
        injection h3 with h3
        have := hq.2; omega
    have hr1 : v.ownBlock = some g1 ∨ W.heap.size ≤ g1 := by
      rcases hat with h | ⟨b', h, hb'⟩
      · exact .inl h.symm
      · have h3 : some g1 = some b' := h
        injection h3 with h3
        have := hK.1
        exact .inr (by omega)
    show K _ W4
    rw [hga.2]
    refine hKK _ _ (hS hB4) (fun _ => ?_)
    refine pure_ (i := ii) (N := some di) (v := .pointer (some ⟨g1, n.f3.length * 5, none⟩)) li hii hgi.2 c4 (fun c a w => by rw [hgi.2]; exact hQ _ _ c a w) (Or.inl ⟨by simp [Region.wanted, hgi.1], run_index (g := g1) (n := n.f3.length + 1) (c := c1_) (i := n.f3.length) hoi ?_ ?_ (by omega)⟩) rfl ?_
    · rw [act_same _ _ _ (by rw [act_size, act_size]; exact z3)]
    · rw [act_ne _ _ n15, act_ne _ _ n14, act_ne _ _ n13, hl]
    refine pure_ (i := ik) (N := some dk) (v := .pointer (some ⟨b, 0, none⟩)) lk hik hgk.2 c5k (fun c a w => by rw [hgk.2]; exact hQ _ _ c a w) (Or.inl ⟨by simp [Region.wanted, hgk.1], run_nil hok ?_⟩) rfl ?_
    · rw [act_ne _ _ n19, act_ne _ _ n18, act_ne _ _ n17, act_ne _ _ n16, hn]
    refine pure_ (i := if_) (N := some df) (v := .pointer (some ⟨b, 3, none⟩)) lf hif hgf.2 c5 (fun c a w => by rw [hgf.2]; exact hQ _ _ c a w) (Or.inl ⟨by simp [Region.wanted, hgf.1], run_field29 hof ?_⟩) rfl ?_
    · rw [act_same _ _ _ (by rw [act_size, act_size, act_size, act_size]; exact z6)]
    have endp : ∀ W', EyeAt w0 W' g L s' → W'.heap[b]? = some (.cells (nc (addKid n T) (.slice (some ⟨g1, 0, none⟩) (n.f3.length + 1) c1_)).toArray 29 (0, 0)) → Kd.N k29 29 W' base ok (.slice (some ⟨g1, 0, none⟩) (n.f3.length + 1) c1_) (n.f3 ++ [T]) → RelG g b v.ownBlock W W' → ∀ m, wpAnyLast Try.prog .any ops Q (fun w' => w'.cell? ⟨b, 3, none⟩ = some v) [is_, ix] m lz ((((((a.put (some dc) (.agg (nc T vT).toArray)).put (some db) (.slice (some ⟨z, 0, none⟩) 1 1)).put (some da) (.slice (some ⟨g1, 0, none⟩) (n.f3.length + 1) c1_)).put (some di) (.pointer (some ⟨g1, n.f3.length * 5, none⟩))).put (some dk) (.pointer (some ⟨b, 0, none⟩))).put (some df) (.pointer (some ⟨b, 3, none⟩))) W' :=
      fun W' h1 h2 h3 h4 m => done_ c9 (hpost _ _ _ _ _ ⟨h1, h2, h3, h4⟩)
    generalize hA : (((((a.put (some dc) (.agg (nc T vT).toArray)).put (some db) (.slice (some ⟨z, 0, none⟩) 1 1)).put (some da) (.slice (some ⟨g1, 0, none⟩) (n.f3.length + 1) c1_)).put (some di) (.pointer (some ⟨g1, n.f3.length * 5, none⟩))).put (some dk) (.pointer (some ⟨b, 0, none⟩))).put (some df) (.pointer (some ⟨b, 3, none⟩)) = A at endp ⊢
    have eDi : A.eval (.tmp di) = .pointer (some ⟨g1, n.f3.length * 5, none⟩) := by rw [← hA, act_ne _ _ (Ne.symm n10), act_ne _ _ (Ne.symm k4), act_same _ _ _ (by rw [act_size, act_size, act_size]; exact z4)]
    have eDf : A.eval (.tmp df) = .pointer (some ⟨b, 3, none⟩) := by rw [← hA, act_same _ _ _ (by rw [act_size, act_size, act_size, act_size, act_size]; exact z5)]
    have eDc : A.eval (.tmp dc) = .agg (nc T vT).toArray := by rw [← hA, act_ne _ _ (Ne.symm n4), act_ne _ _ (Ne.symm k1), act_ne _ _ (Ne.symm n3), act_ne _ _ (Ne.symm n2), act_ne _ _ (Ne.symm n1), act_same _ _ _ z1]
    have eDa : A.eval (.tmp da) = .slice (some ⟨g1, 0, none⟩) (n.f3.length + 1) c1_ := by rw [← hA, act_ne _ _ (Ne.symm n9), act_ne _ _ (Ne.symm k3), act_ne _ _ (Ne.symm n8), act_same _ _ _ (by rw [act_size, act_size]; exact z3)]
    simp only [Bool.and_eq_true, beq_iff_eq] at c6
    obtain ⟨⟨c6a, c6b⟩, c6c⟩ := c6
    -- the element, whatever the world's last step was
    have elem : ∀ (W5 : World) (K : Act → World → Prop), Kd.N k29 29 W5 base ok (.slice (some ⟨g1, 0, none⟩) (n.f3.length + 1) c1_) (n.f3 ++ [z29]) → VK W5 (fun q => ok q ∧ q ≠ g1) vT T.f3 →
        (∀ W6, Kd.N k29 29 W6 base ok (.slice (some ⟨g1, 0, none⟩) (n.f3.length + 1) c1_) (n.f3 ++ [T]) → W5.grownBy W6 (some g1) → K A W6) → wpList Try.prog ops (Qk K Q) [os] A W5 := by
      intro W5 K hN5 hV5 hk
      obtain ⟨cs, hcl, hFK, hcc⟩ := Kd.N_get hN5 z29 (n.f3.length : Int) (by omega) (by omega)
      have hcl5 : cs.length = 5 := hcl
      refine Kd.N_store k29 (w0 := W5) base hgs.2 hgs.1 29 (.tmp di) (.tmp dc) hos 29 (g := g1) (n := n.f3.length + 1) (cap := c1_) (n.f3.length : Int) 0 (n.f3 ++ [z29]) T (.agg (nc T vT).toArray) (nc T vT) cs ok (fun q => ok q ∧ q ≠ g1) eDi (by simp; rfl) eDc rfl info29s (nc_one (VK_one hV5)) hN5 (by omega) (by omega) hcl ?_ (by show 0 + 5 ≤ 5; omega) ?_ (fun q hq => hq) (Below.refl _ _) ?_
      · intro j u hu
        have := hcc j u hu
        rw [Mine.at_add] at this
        exact this
      · have e : cs.take 0 ++ nc T vT ++ cs.drop (0 + (nc T vT).length) = nc T vT := Mine.splice_all cs _ (by rw [hcl5]; rfl)
        rw [e]
        exact nc_FK hV5
      · intro W6 hN6 hb6 hg6
        rw [Int.toNat_natCast, set_last] at hN6
        exact hk W6 hN6 hg6
    have boxs : ∀ (W5 : World) (K : Act → World → Prop), W5.heap[b]? = some (.cells (nc n v).toArray 29 (0, 0)) →
        (∀ W6, W6.heap[b]? = some (.cells (nc (addKid n T) (.slice (some ⟨g1, 0, none⟩) (n.f3.length + 1) c1_)).toArray 29 (0, 0)) → W5.grownBy W6 (some b) → K A W6) → wpList Try.prog ops (Qk K Q) [ox] A W5 := by
      intro W5 K hB5 hk
      refine ev_field29 hgx.1 hgx.2 27 (.tmp df) (.tmp da) hox 3 _ eDf eDa hB5 (by omega) rfl rfl (by kernel_rfl) (addKid n T) (.slice (some ⟨g1, 0, none⟩) (n.f3.length + 1) c1_) rfl ?_
      exact fun W6 h1 h2 h3 => hk W6 h1 h2
    refine wpAnyLast_ready c6a (by simp) (AllReadyL.cons_last his (by simp) (fun K hK5 => step_of hgs.1 rfl ?_) (AllReadyL.cons_last hix (by simp) (fun K hK5 => step_of hgx.1 rfl ?_) AllReadyL.nil))
    · refine elem W4 K hN hV4 (fun W6 hN6 hg6 => ?_)
      refine hK5 _ _ ?_
      rw [c6b]
      refine last_ (i := ix) (N := none) lz hix hgx.2 c7 (by simp) (fun K hK6 => step_of hgx.1 hgx.2 ?_)
      refine boxs W6 K (grown_blk hg6 hB4 (Ne.symm hg1n.2.1)) (fun W7 hB7 hg7 => hK6 _ _ (endp W7 ?_ hB7 ?_ ?_ _))
      · exact (hE4.grown hg6 hg1n.1 hg1n.2.2).grown hg7 pre.ne pre.lo
      · exact Kd.N_grown hN6 hg7 (fun q hq e => by injection e with e; exact (pre.okg q hq).2.1 e)
      · exact (hR4.grown hg6 (hr1.elim (fun h => .inl h.symm) (fun h => .inr (.inr ⟨_, rfl, h⟩)))).grown hg7 (.inr (.inl rfl))
    · refine boxs W4 K hB4 (fun W6 hB6 hg6 => ?_)
      refine hK5 _ _ ?_
      rw [c6c]
      refine last_ (i := is_) (N := none) lz his hgs.2 c8 (by simp) (fun K hK6 => step_of hgs.1 hgs.2 ?_)
      refine elem W6 K (Kd.N_grown hN hg6 (fun q hq e => by injection e with e; exact (pre.okg q hq).2.1 e)) (Kd.V_grown hV4 hg6 (fun q hq e => by injection e with e; exact (pre.okg q hq.1).2.1 e)) (fun W7 hN7 hg7 => hK6 _ _ (endp W7 ?_ ?_ hN7 ?_ _))
      · exact (hE4.grown hg6 pre.ne pre.lo).grown hg7 hg1n.1 hg1n.2.2
      · exact grown_blk hg7 hB6 (Ne.symm hg1n.2.1)
      · exact (hR4.grown hg6 (.inr (.inl rfl))).grown hg7 (hr1.elim (fun h => .inl h.symm) (fun h => .inr (.inr ⟨_, rfl, h⟩)))
  have hlt := pre.eye.lt
  refine two_ (i := ic) (j := ib) (Ni := some dc) (Nj := some db) lc lb hic hib hgc.2 hgb.2 c0 hds.1 hds.2.1 (fun K hK => step_of hgc.1 hgc.2 ?_) (fun K hK => step_of hgb.1 hgb.2 ?_)
  · refine goesL_ (some dc) hgc.2 hgc.1 hf hname hb args hoc hargs ?_
    refine (hcall W pre.eye).mono ?_
    rintro e W1 ⟨vT, rfl, hV, hE, hk⟩
    refine ⟨_, rfl, ?_⟩
    show K _ W1
    have hB1 := keep_blk hk pre.box pre.ne
    refine hK _ _ (hS hB1) (fun _ => ?_)
    refine YtdiadmlgeojefaaW.PrintLast.one_ (i := ib) (N := some db) lcb hib hgb.2 c1 hds.2.1 (fun K hK => step_of hgb.1 hgb.2 ?_)
    refine Mine.ev_lit1 hgb.1 (N := db) hgb.2 27 29 _ hob (nc z29 (.slice none 0 0)) rfl Try.underlying27 info29 rfl (by omega) (by omega) ?_
    have hb1 : Below W1.heap.size W1 (W1.alloc (.cells (nc z29 (.slice none 0 0)).toArray 29)) := below_alloc (Below.refl _ _) _
    show K _ _
    rw [hgb.2]
    refine hK _ _ (hS (below_blk hb1 hB1)) (fun _ => ?_)
    exact fin vT W1.heap.size _ (hE.below hb1) (keep_below hk hb1) (Kd.V_below (Kd.V_elderB hV W1.heap.size (Nat.le_refl _)) hb1) (heap_alloc_new W1 _) hk.1
  · refine Mine.ev_lit1 hgb.1 (N := db) hgb.2 27 29 _ hob (nc z29 (.slice none 0 0)) rfl Try.underlying27 info29 rfl (by omega) (by omega) ?_
    have hb1 : Below W.heap.size W (W.alloc (.cells (nc z29 (.slice none 0 0)).toArray 29)) := below_alloc (Below.refl _ _) _
    have hnew := heap_alloc_new W (.cells (nc z29 (.slice none 0 0)).toArray 29)
    have hsize := blk_lt hnew
    have hB1 := below_blk hb1 pre.box
    show K _ _
    rw [hgb.2]
    refine hK _ _ (hS hB1) (fun _ => ?_)
    generalize hW1 : W.alloc (.cells (nc z29 (.slice none 0 0)).toArray 29) = W1 at hb1 hnew hsize hB1 ⊢
    refine YtdiadmlgeojefaaW.PrintLast.one_ (i := ic) (N := some dc) lcb hic hgc.2 c2 hds.1 (fun K hK => step_of hgc.1 hgc.2 ?_)
    refine goesL_ (some dc) hgc.2 hgc.1 hf hname hb args hoc (hargs2 _) ?_
    refine (hcall W1 (pre.eye.below hb1)).mono ?_
    rintro e W3 ⟨vT, rfl, hV, hE, hk⟩
    refine ⟨_, rfl, ?_⟩
    show K _ W3
    have hB3 := keep_blk hk hB1 pre.ne
    refine hK _ _ (hS hB3) (fun _ => ?_)
    rw [put_comm a _ _ (Ne.symm n1)]
    exact fin vT W.heap.size W3 hE ((KeepBut.of_below hb1 g none).trans hk (.inl rfl)) (Kd.V_mono hV (fun q hq => by have h9 : W1.heap.size ≤ q := hq; exact ⟨by omega, by omega⟩)) (keep_blk hk hnew (by omega)) (Nat.le_refl _)
end
end Go.Proofs.Ytdiadmlgeojefaa.A
