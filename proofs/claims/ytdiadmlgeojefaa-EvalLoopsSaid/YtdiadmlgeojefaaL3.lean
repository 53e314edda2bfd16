/- Laws and walks for EvalLoops: texts laid together by my own small program. -/
import Derived.Test.YtdiadmlgeojefaaL2
namespace Go.Proofs.Ytdiadmlgeojefaa.A
open Go.RowKit Go.Proofs.YtdiadmlgeojefaaW.PrintWords Go.Proofs.YtdiadmlgeojefaaW.PrintLast Go.Proofs.YtdiadmlgeojefaaW.PrintMore
attribute [local go_sem] max2_int min2_int max_two min_two max_three min_three max_four min_four   -- for this text's walks alone
set_option linter.unusedVariables false
set_option linter.unusedSimpArgs false
def podestaref15_signs.f  : Option (List ByteArray) := some (([(⟨#[124, 124]⟩ : ByteArray), (⟨#[38, 38]⟩ : ByteArray), (⟨#[61, 61]⟩ : ByteArray), (⟨#[33, 61]⟩ : ByteArray), (⟨#[60, 61]⟩ : ByteArray), (⟨#[62, 61]⟩ : ByteArray), (⟨#[60]⟩ : ByteArray), (⟨#[62]⟩ : ByteArray), (⟨#[43]⟩ : ByteArray), (⟨#[45]⟩ : ByteArray), (⟨#[42]⟩ : ByteArray), (⟨#[47]⟩ : ByteArray), (⟨#[37]⟩ : ByteArray), (⟨#[33]⟩ : ByteArray), (⟨#[61]⟩ : ByteArray), (⟨#[40]⟩ : ByteArray), (⟨#[41]⟩ : ByteArray), (⟨#[123]⟩ : ByteArray), (⟨#[125]⟩ : ByteArray), (⟨#[91]⟩ : ByteArray), (⟨#[93]⟩ : ByteArray), (⟨#[44]⟩ : ByteArray), (⟨#[59]⟩ : ByteArray)] : List ByteArray))
set_option maxHeartbeats 8000000 in
set_option maxRecDepth 100000 in
theorem podestaref15_signs.calls  (r : List ByteArray) (w : World) (h : podestaref15_signs.f  = some r) :
    Calls Try.prog 56 #[] w fun e w' => ∃ v0_ : Value, e = .returned (v0_) ∧ Kd.R Kd.string 9 w' w.heap.size (fun _ => True) v0_ r ∧ Below w.heap.size w w' := by
  have HB := Aside0.mk (Below.refl w.heap.size w)
  have H : (some (([(⟨#[124, 124]⟩ : ByteArray), (⟨#[38, 38]⟩ : ByteArray), (⟨#[61, 61]⟩ : ByteArray), (⟨#[33, 61]⟩ : ByteArray), (⟨#[60, 61]⟩ : ByteArray), (⟨#[62, 61]⟩ : ByteArray), (⟨#[60]⟩ : ByteArray), (⟨#[62]⟩ : ByteArray), (⟨#[43]⟩ : ByteArray), (⟨#[45]⟩ : ByteArray), (⟨#[42]⟩ : ByteArray), (⟨#[47]⟩ : ByteArray), (⟨#[37]⟩ : ByteArray), (⟨#[33]⟩ : ByteArray), (⟨#[61]⟩ : ByteArray), (⟨#[40]⟩ : ByteArray), (⟨#[41]⟩ : ByteArray), (⟨#[123]⟩ : ByteArray), (⟨#[125]⟩ : ByteArray), (⟨#[91]⟩ : ByteArray), (⟨#[93]⟩ : ByteArray), (⟨#[44]⟩ : ByteArray), (⟨#[59]⟩ : ByteArray)] : List ByteArray))) = some r := h
  clear h
  obtain ⟨y108, hy108⟩ : ∃ y_ : List ByteArray, y_ = (([(⟨#[124, 124]⟩ : ByteArray), (⟨#[38, 38]⟩ : ByteArray), (⟨#[61, 61]⟩ : ByteArray), (⟨#[33, 61]⟩ : ByteArray), (⟨#[60, 61]⟩ : ByteArray), (⟨#[62, 61]⟩ : ByteArray), (⟨#[60]⟩ : ByteArray), (⟨#[62]⟩ : ByteArray), (⟨#[43]⟩ : ByteArray), (⟨#[45]⟩ : ByteArray), (⟨#[42]⟩ : ByteArray), (⟨#[47]⟩ : ByteArray), (⟨#[37]⟩ : ByteArray), (⟨#[33]⟩ : ByteArray), (⟨#[61]⟩ : ByteArray), (⟨#[40]⟩ : ByteArray), (⟨#[41]⟩ : ByteArray), (⟨#[123]⟩ : ByteArray), (⟨#[125]⟩ : ByteArray), (⟨#[91]⟩ : ByteArray), (⟨#[93]⟩ : ByteArray), (⟨#[44]⟩ : ByteArray), (⟨#[59]⟩ : ByteArray)] : List ByteArray)) := ⟨_, rfl⟩
  replace H : (some y108) = some r := by first | (rw [hy108]; with_reducible exact H) | (have H2_ := (Option.bind_some _ _).symm.trans H; rw [hy108]; with_reducible exact H2_) | (have H2_ := (Option.bind_some _ _).symm.trans H; with_reducible exact H2_) | with_reducible exact H | (rw [hy108]; exact H) | exact H
  have Ny108 := Aside0.mk hy108
  clear hy108
  obtain rfl := Option.some.inj H
  go_enter Try.func56, Try.ntmps56
  go_wp2_with (first | ((with_reducible refine gate_dst (N := 1) rfl ?_); refine Kd.R_lit Kd.string _ 9 ?hg (N := 1) ?hd (xs := ([(⟨#[124, 124]⟩ : ByteArray), (⟨#[38, 38]⟩ : ByteArray), (⟨#[61, 61]⟩ : ByteArray), (⟨#[33, 61]⟩ : ByteArray), (⟨#[60, 61]⟩ : ByteArray), (⟨#[62, 61]⟩ : ByteArray), (⟨#[60]⟩ : ByteArray), (⟨#[62]⟩ : ByteArray), (⟨#[43]⟩ : ByteArray), (⟨#[45]⟩ : ByteArray), (⟨#[42]⟩ : ByteArray), (⟨#[47]⟩ : ByteArray), (⟨#[37]⟩ : ByteArray), (⟨#[33]⟩ : ByteArray), (⟨#[61]⟩ : ByteArray), (⟨#[40]⟩ : ByteArray), (⟨#[41]⟩ : ByteArray), (⟨#[123]⟩ : ByteArray), (⟨#[125]⟩ : ByteArray), (⟨#[91]⟩ : ByteArray), (⟨#[93]⟩ : ByteArray), (⟨#[44]⟩ : ByteArray), (⟨#[59]⟩ : ByteArray)] : List ByteArray)) (inner := [.string (⟨#[124, 124]⟩ : ByteArray), .string (⟨#[38, 38]⟩ : ByteArray), .string (⟨#[61, 61]⟩ : ByteArray), .string (⟨#[33, 61]⟩ : ByteArray), .string (⟨#[60, 61]⟩ : ByteArray), .string (⟨#[62, 61]⟩ : ByteArray), .string (⟨#[60]⟩ : ByteArray), .string (⟨#[62]⟩ : ByteArray), .string (⟨#[43]⟩ : ByteArray), .string (⟨#[45]⟩ : ByteArray), .string (⟨#[42]⟩ : ByteArray), .string (⟨#[47]⟩ : ByteArray), .string (⟨#[37]⟩ : ByteArray), .string (⟨#[33]⟩ : ByteArray), .string (⟨#[61]⟩ : ByteArray), .string (⟨#[40]⟩ : ByteArray), .string (⟨#[41]⟩ : ByteArray), .string (⟨#[123]⟩ : ByteArray), .string (⟨#[125]⟩ : ByteArray), .string (⟨#[91]⟩ : ByteArray), .string (⟨#[93]⟩ : ByteArray), .string (⟨#[44]⟩ : ByteArray), .string (⟨#[59]⟩ : ByteArray)]) (ok := fun _ => True) (okp := fun _ => True) ?hr ?hp (fun _ hk => hk) trivial (Below.refl _ _) (Nat.le_refl _) (by simp) ?_; (case hd => rfl); (case hg => rfl); (case hr => first | (go_simp; done) | (go_simp; rfl)); (case hp => exact (Reps.one (show Kd.M Kd.string _ _ _ (⟨#[124, 124]⟩ : ByteArray) [.string (⟨#[124, 124]⟩ : ByteArray)] from rfl) (Reps.one (show Kd.M Kd.string _ _ _ (⟨#[38, 38]⟩ : ByteArray) [.string (⟨#[38, 38]⟩ : ByteArray)] from rfl) (Reps.one (show Kd.M Kd.string _ _ _ (⟨#[61, 61]⟩ : ByteArray) [.string (⟨#[61, 61]⟩ : ByteArray)] from rfl) (Reps.one (show Kd.M Kd.string _ _ _ (⟨#[33, 61]⟩ : ByteArray) [.string (⟨#[33, 61]⟩ : ByteArray)] from rfl) (Reps.one (show Kd.M Kd.string _ _ _ (⟨#[60, 61]⟩ : ByteArray) [.string (⟨#[60, 61]⟩ : ByteArray)] from rfl) (Reps.one (show Kd.M Kd.string _ _ _ (⟨#[62, 61]⟩ : ByteArray) [.string (⟨#[62, 61]⟩ : ByteArray)] from rfl) (Reps.one (show Kd.M Kd.string _ _ _ (⟨#[60]⟩ : ByteArray) [.string (⟨#[60]⟩ : ByteArray)] from rfl) (Reps.one (show Kd.M Kd.string _ _ _ (⟨#[62]⟩ : ByteArray) [.string (⟨#[62]⟩ : ByteArray)] from rfl) (Reps.one (show Kd.M Kd.string _ _ _ (⟨#[43]⟩ : ByteArray) [.string (⟨#[43]⟩ : ByteArray)] from rfl) (Reps.one (show Kd.M Kd.string _ _ _ (⟨#[45]⟩ : ByteArray) [.string (⟨#[45]⟩ : ByteArray)] from rfl) (Reps.one (show Kd.M Kd.string _ _ _ (⟨#[42]⟩ : ByteArray) [.string (⟨#[42]⟩ : ByteArray)] from rfl) (Reps.one (show Kd.M Kd.string _ _ _ (⟨#[47]⟩ : ByteArray) [.string (⟨#[47]⟩ : ByteArray)] from rfl) (Reps.one (show Kd.M Kd.string _ _ _ (⟨#[37]⟩ : ByteArray) [.string (⟨#[37]⟩ : ByteArray)] from rfl) (Reps.one (show Kd.M Kd.string _ _ _ (⟨#[33]⟩ : ByteArray) [.string (⟨#[33]⟩ : ByteArray)] from rfl) (Reps.one (show Kd.M Kd.string _ _ _ (⟨#[61]⟩ : ByteArray) [.string (⟨#[61]⟩ : ByteArray)] from rfl) (Reps.one (show Kd.M Kd.string _ _ _ (⟨#[40]⟩ : ByteArray) [.string (⟨#[40]⟩ : ByteArray)] from rfl) (Reps.one (show Kd.M Kd.string _ _ _ (⟨#[41]⟩ : ByteArray) [.string (⟨#[41]⟩ : ByteArray)] from rfl) (Reps.one (show Kd.M Kd.string _ _ _ (⟨#[123]⟩ : ByteArray) [.string (⟨#[123]⟩ : ByteArray)] from rfl) (Reps.one (show Kd.M Kd.string _ _ _ (⟨#[125]⟩ : ByteArray) [.string (⟨#[125]⟩ : ByteArray)] from rfl) (Reps.one (show Kd.M Kd.string _ _ _ (⟨#[91]⟩ : ByteArray) [.string (⟨#[91]⟩ : ByteArray)] from rfl) (Reps.one (show Kd.M Kd.string _ _ _ (⟨#[93]⟩ : ByteArray) [.string (⟨#[93]⟩ : ByteArray)] from rfl) (Reps.one (show Kd.M Kd.string _ _ _ (⟨#[44]⟩ : ByteArray) [.string (⟨#[44]⟩ : ByteArray)] from rfl) (Reps.one (show Kd.M Kd.string _ _ _ (⟨#[59]⟩ : ByteArray) [.string (⟨#[59]⟩ : ByteArray)] from rfl) (Reps.none _ _))))))))))))))))))))))))); intro v109 w1 ho2 hb hg_ hnew_; clear hg_ hnew_; (first | rw [← Ny108.out] at ho2 | (simp only [Int.reduceToNat] at ho2; rw [← Ny108.out] at ho2)); have n0_ := Aside0.mk (Kd.R_lower ho2 (below_size (by repeat (first | (with_reducible first | exact HB.out | apply below_alloc | apply pw_below_drewN | apply below_drew1) | exact HB.out)))); have n1_ := Aside0.mk (below_step (by repeat (first | (with_reducible first | exact HB.out | apply below_alloc | apply pw_below_drewN | apply below_drew1) | exact HB.out)) hb); clear HB; have HO110 := n0_; have HB := n1_; clear n0_ n1_; clear hb ho2))
  go_ret
  exact ⟨_, by first | rfl | (simp [errW_none, errW_some] <;> rfl) | (simp [*, errW_none, errW_some] <;> rfl), by (with_reducible repeat (first | apply Kd.R_alloc | apply Kd.R_drewN | apply Kd.R_drew)); exact HO110.out, by repeat (first | (with_reducible first | exact HB.out | apply below_alloc | apply pw_below_drewN | apply below_drew1) | exact HB.out)⟩
end Go.Proofs.Ytdiadmlgeojefaa.A
namespace Go.Proofs.Ytdiadmlgeojefaa.A
open Go.RowKit Go.Proofs.YtdiadmlgeojefaaW.PrintWords Go.Proofs.YtdiadmlgeojefaaW.PrintLast Go.Proofs.YtdiadmlgeojefaaW.PrintMore
attribute [local go_sem] max2_int min2_int max_two min_two max_three min_three max_four min_four   -- for this text's walks alone
set_option linter.unusedVariables false
set_option linter.unusedSimpArgs false
mutual
def podestaref15_Scan.l0 : Nat → ByteArray → List (S112) → Int → Option ((List (S112)) × Int × Int)
  | 0, _, _, _ => none
  | k + 1, x0, x4, x5 => if x5 < (x0.size : Int) then (if 0 ≤ x5 then (if (bt x0 x5) = 32 then (podestaref15_Scan.j1 k x0 x4 x5 (bt x0 x5) true) else (if (bt x0 x5) = 9 then (podestaref15_Scan.j1 k x0 x4 x5 (bt x0 x5) true) else (if (bt x0 x5) = 10 then (podestaref15_Scan.j1 k x0 x4 x5 (bt x0 x5) true) else (podestaref15_Scan.j1 k x0 x4 x5 (bt x0 x5) ((bt x0 x5) == 13))))) else (none)) else (some (x4, 0, 0))
def podestaref15_Scan.j1 : Nat → ByteArray → List (S112) → Int → Int → Bool → Option ((List (S112)) × Int × Int)
  | 0, _, _, _, _, _ => none
  | k + 1, x0, x4, x5, x6, x35 => if x35 = true then (podestaref15_Scan.l0 k x0 x4 (wrap64 (x5 + 1))) else (if x6 = 35 then (podestaref15_Scan.l1 k x0 x4 x5) else ((podestaref15_letter.f x6).bind fun t112 => (if t112 = true then (podestaref15_Scan.j3 k x0 x4 x5 x6 0 true) else ((podestaref15_digit.f x6).bind fun t113 => (podestaref15_Scan.j3 k x0 x4 x5 x6 0 t113)))))
def podestaref15_Scan.l1 : Nat → ByteArray → List (S112) → Int → Option ((List (S112)) × Int × Int)
  | 0, _, _, _ => none
  | k + 1, x0, x4, x5 => if x5 < (x0.size : Int) then (if 0 ≤ x5 then (if (bt x0 x5) = 10 then (podestaref15_Scan.l0 k x0 x4 x5) else (podestaref15_Scan.l1 k x0 x4 (wrap64 (x5 + 1)))) else (none)) else (podestaref15_Scan.l0 k x0 x4 x5)
def podestaref15_Scan.j3 : Nat → ByteArray → List (S112) → Int → Int → Int → Bool → Option ((List (S112)) × Int × Int)
  | 0, _, _, _, _, _, _ => none
  | k + 1, x0, x4, x5, x6, x7, x57 => if x57 = true then (podestaref15_Scan.l2 k x0 x4 x5 x6 x7) else (podestaref15_Scan.j6 k x0 x4 x5 x7)
def podestaref15_Scan.j6 : Nat → ByteArray → List (S112) → Int → Int → Option ((List (S112)) × Int × Int)
  | 0, _, _, _, _ => none
  | k + 1, x0, x4, x5, x7 => (podestaref15_signs.f).bind fun t119 => (podestaref15_Scan.l3 k x0 x4 x5 x7 t119 0)
def podestaref15_Scan.l3 : Nat → ByteArray → List (S112) → Int → Int → List ByteArray → Int → Option ((List (S112)) × Int × Int)
  | 0, _, _, _, _, _, _ => none
  | k + 1, x0, x4, x5, x7, x9, x10 => if x10 < (x9.length : Int) then (podestaref15_Scan.j8 k x0 x4 x5 x7 x9 x10 (x7 == 0)) else (podestaref15_Scan.j8 k x0 x4 x5 x7 x9 x10 false)
def podestaref15_Scan.j8 : Nat → ByteArray → List (S112) → Int → Int → List ByteArray → Int → Bool → Option ((List (S112)) × Int × Int)
  | 0, _, _, _, _, _, _, _ => none
  | k + 1, x0, x4, x5, x7, x9, x10, x110 => if x110 = true then (if 0 ≤ x10 then (if x10 < (x9.length : Int) then (if (wrap64 (x5 + ((rdOf ByteArray.empty x9 x10).size : Int))) ≤ (x0.size : Int) then (if 0 ≤ x5 then (if x5 ≤ (wrap64 (x5 + ((rdOf ByteArray.empty x9 x10).size : Int))) then (if (x0.extract (x5 : Int).toNat ((wrap64 (x5 + ((rdOf ByteArray.empty x9 x10).size : Int))) : Int).toNat).toList = (rdOf ByteArray.empty x9 x10).toList then (podestaref15_Scan.l3 k x0 x4 x5 ((rdOf ByteArray.empty x9 x10).size : Int) x9 (wrap64 (x10 + 1))) else (podestaref15_Scan.l3 k x0 x4 x5 x7 x9 (wrap64 (x10 + 1)))) else (none)) else (none)) else (podestaref15_Scan.l3 k x0 x4 x5 x7 x9 (wrap64 (x10 + 1)))) else (none)) else (none)) else (if x7 = 0 then (some (([] : List (S112)), 15, x5)) else (if 0 ≤ x5 then (if x5 ≤ (wrap64 (x5 + x7)) then (if (wrap64 (x5 + x7)) ≤ (x0.size : Int) then (if x4.length < 5864062014805 then (podestaref15_Scan.l0 k x0 (x4 ++ [(⟨x0.extract (x5 : Int).toNat ((wrap64 (x5 + x7)) : Int).toNat, x5⟩ : S112)]) (wrap64 (x5 + x7))) else (none)) else (none)) else (none)) else (none)))
def podestaref15_Scan.j5 : Nat → ByteArray → List (S112) → Int → Int → Option ((List (S112)) × Int × Int)
  | 0, _, _, _, _ => none
  | k + 1, x0, x4, x5, x7 => if 0 ≤ x5 then (if x5 ≤ (wrap64 (x5 + x7)) then (if (wrap64 (x5 + x7)) ≤ (x0.size : Int) then ((podestaref15_Word.f k (x0.extract (x5 : Int).toNat ((wrap64 (x5 + x7)) : Int).toNat)).bind fun t117 => (if t117 = true then (podestaref15_Scan.j6 k x0 x4 x5 x7) else ((podestaref15_Digits.f k (x0.extract (x5 : Int).toNat ((wrap64 (x5 + x7)) : Int).toNat)).bind fun t118 => (if t118 = true then (podestaref15_Scan.j6 k x0 x4 x5 x7) else (some (([] : List (S112)), 15, x5)))))) else (none)) else (none)) else (none)
def podestaref15_Scan.l2 : Nat → ByteArray → List (S112) → Int → Int → Int → Option ((List (S112)) × Int × Int)
  | 0, _, _, _, _, _ => none
  | k + 1, x0, x4, x5, x6, x7 => if (wrap64 (x5 + x7)) < (x0.size : Int) then (if 0 ≤ (wrap64 (x5 + x7)) then ((podestaref15_digit.f (bt x0 (wrap64 (x5 + x7)))).bind fun t114 => (if t114 = true then (podestaref15_Scan.l2 k x0 x4 x5 x6 (wrap64 (x7 + 1))) else ((podestaref15_letter.f x6).bind fun t115 => (if t115 = true then ((podestaref15_letter.f (bt x0 (wrap64 (x5 + x7)))).bind fun t116 => (if t116 = true then (podestaref15_Scan.l2 k x0 x4 x5 x6 (wrap64 (x7 + 1))) else (podestaref15_Scan.j5 k x0 x4 x5 x7))) else (podestaref15_Scan.j5 k x0 x4 x5 x7))))) else (none)) else (podestaref15_Scan.j5 k x0 x4 x5 x7)
end
def podestaref15_Scan.f (k : Nat) (a0 : ByteArray) : Option ((List (S112)) × Int × Int) := if (a0.size : Int) > 16384 then (some (([] : List (S112)), 13, 16384)) else (podestaref15_Scan.l0 k a0 ([] : List (S112)) 0)
theorem podestaref15_Scan.mono_l : ∀ k, (∀ y0 y1 y2, LeO (podestaref15_Scan.l0 k y0 y1 y2) (podestaref15_Scan.l0 (k + 1) y0 y1 y2)) ∧ (∀ y0 y1 y2 y3 y4, LeO (podestaref15_Scan.j1 k y0 y1 y2 y3 y4) (podestaref15_Scan.j1 (k + 1) y0 y1 y2 y3 y4)) ∧ (∀ y0 y1 y2, LeO (podestaref15_Scan.l1 k y0 y1 y2) (podestaref15_Scan.l1 (k + 1) y0 y1 y2)) ∧ (∀ y0 y1 y2 y3 y4 y5, LeO (podestaref15_Scan.j3 k y0 y1 y2 y3 y4 y5) (podestaref15_Scan.j3 (k + 1) y0 y1 y2 y3 y4 y5)) ∧ (∀ y0 y1 y2 y3, LeO (podestaref15_Scan.j6 k y0 y1 y2 y3) (podestaref15_Scan.j6 (k + 1) y0 y1 y2 y3)) ∧ (∀ y0 y1 y2 y3 y4 y5, LeO (podestaref15_Scan.l3 k y0 y1 y2 y3 y4 y5) (podestaref15_Scan.l3 (k + 1) y0 y1 y2 y3 y4 y5)) ∧ (∀ y0 y1 y2 y3 y4 y5 y6, LeO (podestaref15_Scan.j8 k y0 y1 y2 y3 y4 y5 y6) (podestaref15_Scan.j8 (k + 1) y0 y1 y2 y3 y4 y5 y6)) ∧ (∀ y0 y1 y2 y3, LeO (podestaref15_Scan.j5 k y0 y1 y2 y3) (podestaref15_Scan.j5 (k + 1) y0 y1 y2 y3)) ∧ (∀ y0 y1 y2 y3 y4, LeO (podestaref15_Scan.l2 k y0 y1 y2 y3 y4) (podestaref15_Scan.l2 (k + 1) y0 y1 y2 y3 y4))
  | 0 => ⟨fun _ _ _ r h => by simp [podestaref15_Scan.l0] at h, fun _ _ _ _ _ r h => by simp [podestaref15_Scan.j1] at h, fun _ _ _ r h => by simp [podestaref15_Scan.l1] at h, fun _ _ _ _ _ _ r h => by simp [podestaref15_Scan.j3] at h, fun _ _ _ _ r h => by simp [podestaref15_Scan.j6] at h, fun _ _ _ _ _ _ r h => by simp [podestaref15_Scan.l3] at h, fun _ _ _ _ _ _ _ r h => by simp [podestaref15_Scan.j8] at h, fun _ _ _ _ r h => by simp [podestaref15_Scan.j5] at h, fun _ _ _ _ _ r h => by simp [podestaref15_Scan.l2] at h⟩
  | k + 1 => by
    obtain ⟨ih0, ih1, ih2, ih3, ih4, ih5, ih6, ih7, ih8⟩ := podestaref15_Scan.mono_l k
    refine ⟨?_, ?_, ?_, ?_, ?_, ?_, ?_, ?_, ?_⟩
    · intro y0 y1 y2
      unfold podestaref15_Scan.l0
      repeat' first
      | (with_reducible exact ih0 _ _ _)
      | (with_reducible exact ih1 _ _ _ _ _)
      | (with_reducible exact ih2 _ _ _)
      | (with_reducible exact ih3 _ _ _ _ _ _)
      | (with_reducible exact ih4 _ _ _ _)
      | (with_reducible exact ih5 _ _ _ _ _ _)
      | (with_reducible exact ih6 _ _ _ _ _ _ _)
      | (with_reducible exact ih7 _ _ _ _)
      | (with_reducible exact ih8 _ _ _ _ _)
      | (with_reducible exact podestaref15_Digits.mono _ _)
      | (with_reducible exact podestaref15_Word.mono _ _)
      | (with_reducible exact LeO.refl _)
      | (with_reducible exact LeO.none _)
      | (with_reducible refine LeO.ite ?_ ?_)
      | (with_reducible refine LeO.bind ?_ (fun _ => ?_))
      | exact ih0 _ _ _
      | exact ih1 _ _ _ _ _
      | exact ih2 _ _ _
      | exact ih3 _ _ _ _ _ _
      | exact ih4 _ _ _ _
      | exact ih5 _ _ _ _ _ _
      | exact ih6 _ _ _ _ _ _ _
      | exact ih7 _ _ _ _
      | exact ih8 _ _ _ _ _
      | exact podestaref15_Digits.mono _ _
      | exact podestaref15_Word.mono _ _
      | exact LeO.none _
      | refine LeO.ite ?_ ?_
      | refine LeO.bind ?_ (fun _ => ?_)
    · intro y0 y1 y2 y3 y4
      unfold podestaref15_Scan.j1
      repeat' first
      | (with_reducible exact ih0 _ _ _)
      | (with_reducible exact ih1 _ _ _ _ _)
      | (with_reducible exact ih2 _ _ _)
      | (with_reducible exact ih3 _ _ _ _ _ _)
      | (with_reducible exact ih4 _ _ _ _)
      | (with_reducible exact ih5 _ _ _ _ _ _)
      | (with_reducible exact ih6 _ _ _ _ _ _ _)
      | (with_reducible exact ih7 _ _ _ _)
      | (with_reducible exact ih8 _ _ _ _ _)
      | (with_reducible exact podestaref15_Digits.mono _ _)
      | (with_reducible exact podestaref15_Word.mono _ _)
      | (with_reducible exact LeO.refl _)
      | (with_reducible exact LeO.none _)
      | (with_reducible refine LeO.ite ?_ ?_)
      | (with_reducible refine LeO.bind ?_ (fun _ => ?_))
      | exact ih0 _ _ _
      | exact ih1 _ _ _ _ _
      | exact ih2 _ _ _
      | exact ih3 _ _ _ _ _ _
      | exact ih4 _ _ _ _
      | exact ih5 _ _ _ _ _ _
      | exact ih6 _ _ _ _ _ _ _
      | exact ih7 _ _ _ _
      | exact ih8 _ _ _ _ _
      | exact podestaref15_Digits.mono _ _
      | exact podestaref15_Word.mono _ _
      | exact LeO.none _
      | refine LeO.ite ?_ ?_
      | refine LeO.bind ?_ (fun _ => ?_)
    · intro y0 y1 y2
      unfold podestaref15_Scan.l1
      repeat' first
      | (with_reducible exact ih0 _ _ _)
      | (with_reducible exact ih1 _ _ _ _ _)
      | (with_reducible exact ih2 _ _ _)
      | (with_reducible exact ih3 _ _ _ _ _ _)
      | (with_reducible exact ih4 _ _ _ _)
      | (with_reducible exact ih5 _ _ _ _ _ _)
      | (with_reducible exact ih6 _ _ _ _ _ _ _)
      | (with_reducible exact ih7 _ _ _ _)
      | (with_reducible exact ih8 _ _ _ _ _)
      | (with_reducible exact podestaref15_Digits.mono _ _)
      | (with_reducible exact podestaref15_Word.mono _ _)
      | (with_reducible exact LeO.refl _)
      | (with_reducible exact LeO.none _)
      | (with_reducible refine LeO.ite ?_ ?_)
      | (with_reducible refine LeO.bind ?_ (fun _ => ?_))
      | exact ih0 _ _ _
      | exact ih1 _ _ _ _ _
      | exact ih2 _ _ _
      | exact ih3 _ _ _ _ _ _
      | exact ih4 _ _ _ _
      | exact ih5 _ _ _ _ _ _
      | exact ih6 _ _ _ _ _ _ _
      | exact ih7 _ _ _ _
      | exact ih8 _ _ _ _ _
      | exact podestaref15_Digits.mono _ _
      | exact podestaref15_Word.mono _ _
      | exact LeO.none _
      | refine LeO.ite ?_ ?_
      | refine LeO.bind ?_ (fun _ => ?_)
    · intro y0 y1 y2 y3 y4 y5
      unfold podestaref15_Scan.j3
      repeat' first
      | (with_reducible exact ih0 _ _ _)
      | (with_reducible exact ih1 _ _ _ _ _)
      | (with_reducible exact ih2 _ _ _)
      | (with_reducible exact ih3 _ _ _ _ _ _)
      | (with_reducible exact ih4 _ _ _ _)
      | (with_reducible exact ih5 _ _ _ _ _ _)
      | (with_reducible exact ih6 _ _ _ _ _ _ _)
      | (with_reducible exact ih7 _ _ _ _)
      | (with_reducible exact ih8 _ _ _ _ _)
      | (with_reducible exact podestaref15_Digits.mono _ _)
      | (with_reducible exact podestaref15_Word.mono _ _)
      | (with_reducible exact LeO.refl _)
      | (with_reducible exact LeO.none _)
      | (with_reducible refine LeO.ite ?_ ?_)
      | (with_reducible refine LeO.bind ?_ (fun _ => ?_))
      | exact ih0 _ _ _
      | exact ih1 _ _ _ _ _
      | exact ih2 _ _ _
      | exact ih3 _ _ _ _ _ _
      | exact ih4 _ _ _ _
      | exact ih5 _ _ _ _ _ _
      | exact ih6 _ _ _ _ _ _ _
      | exact ih7 _ _ _ _
      | exact ih8 _ _ _ _ _
      | exact podestaref15_Digits.mono _ _
      | exact podestaref15_Word.mono _ _
      | exact LeO.none _
      | refine LeO.ite ?_ ?_
      | refine LeO.bind ?_ (fun _ => ?_)
    · intro y0 y1 y2 y3
      unfold podestaref15_Scan.j6
      repeat' first
      | (with_reducible exact ih0 _ _ _)
      | (with_reducible exact ih1 _ _ _ _ _)
      | (with_reducible exact ih2 _ _ _)
      | (with_reducible exact ih3 _ _ _ _ _ _)
      | (with_reducible exact ih4 _ _ _ _)
      | (with_reducible exact ih5 _ _ _ _ _ _)
      | (with_reducible exact ih6 _ _ _ _ _ _ _)
      | (with_reducible exact ih7 _ _ _ _)
      | (with_reducible exact ih8 _ _ _ _ _)
      | (with_reducible exact podestaref15_Digits.mono _ _)
      | (with_reducible exact podestaref15_Word.mono _ _)
      | (with_reducible exact LeO.refl _)
      | (with_reducible exact LeO.none _)
      | (with_reducible refine LeO.ite ?_ ?_)
      | (with_reducible refine LeO.bind ?_ (fun _ => ?_))
      | exact ih0 _ _ _
      | exact ih1 _ _ _ _ _
      | exact ih2 _ _ _
      | exact ih3 _ _ _ _ _ _
      | exact ih4 _ _ _ _
      | exact ih5 _ _ _ _ _ _
      | exact ih6 _ _ _ _ _ _ _
      | exact ih7 _ _ _ _
      | exact ih8 _ _ _ _ _
      | exact podestaref15_Digits.mono _ _
      | exact podestaref15_Word.mono _ _
      | exact LeO.none _
      | refine LeO.ite ?_ ?_
      | refine LeO.bind ?_ (fun _ => ?_)
    · intro y0 y1 y2 y3 y4 y5
      unfold podestaref15_Scan.l3
      repeat' first
      | (with_reducible exact ih0 _ _ _)
      | (with_reducible exact ih1 _ _ _ _ _)
      | (with_reducible exact ih2 _ _ _)
      | (with_reducible exact ih3 _ _ _ _ _ _)
      | (with_reducible exact ih4 _ _ _ _)
      | (with_reducible exact ih5 _ _ _ _ _ _)
      | (with_reducible exact ih6 _ _ _ _ _ _ _)
      | (with_reducible exact ih7 _ _ _ _)
      | (with_reducible exact ih8 _ _ _ _ _)
      | (with_reducible exact podestaref15_Digits.mono _ _)
      | (with_reducible exact podestaref15_Word.mono _ _)
      | (with_reducible exact LeO.refl _)
      | (with_reducible exact LeO.none _)
      | (with_reducible refine LeO.ite ?_ ?_)
      | (with_reducible refine LeO.bind ?_ (fun _ => ?_))
      | exact ih0 _ _ _
      | exact ih1 _ _ _ _ _
      | exact ih2 _ _ _
      | exact ih3 _ _ _ _ _ _
      | exact ih4 _ _ _ _
      | exact ih5 _ _ _ _ _ _
      | exact ih6 _ _ _ _ _ _ _
      | exact ih7 _ _ _ _
      | exact ih8 _ _ _ _ _
      | exact podestaref15_Digits.mono _ _
      | exact podestaref15_Word.mono _ _
      | exact LeO.none _
      | refine LeO.ite ?_ ?_
      | refine LeO.bind ?_ (fun _ => ?_)
    · intro y0 y1 y2 y3 y4 y5 y6
      unfold podestaref15_Scan.j8
      repeat' first
      | (with_reducible exact ih0 _ _ _)
      | (with_reducible exact ih1 _ _ _ _ _)
      | (with_reducible exact ih2 _ _ _)
      | (with_reducible exact ih3 _ _ _ _ _ _)
      | (with_reducible exact ih4 _ _ _ _)
      | (with_reducible exact ih5 _ _ _ _ _ _)
      | (with_reducible exact ih6 _ _ _ _ _ _ _)
      | (with_reducible exact ih7 _ _ _ _)
      | (with_reducible exact ih8 _ _ _ _ _)
      | (with_reducible exact podestaref15_Digits.mono _ _)
      | (with_reducible exact podestaref15_Word.mono _ _)
      | (with_reducible exact LeO.refl _)
      | (with_reducible exact LeO.none _)
      | (with_reducible refine LeO.ite ?_ ?_)
      | (with_reducible refine LeO.bind ?_ (fun _ => ?_))
      | exact ih0 _ _ _
      | exact ih1 _ _ _ _ _
      | exact ih2 _ _ _
      | exact ih3 _ _ _ _ _ _
      | exact ih4 _ _ _ _
      | exact ih5 _ _ _ _ _ _
      | exact ih6 _ _ _ _ _ _ _
      | exact ih7 _ _ _ _
      | exact ih8 _ _ _ _ _
      | exact podestaref15_Digits.mono _ _
      | exact podestaref15_Word.mono _ _
      | exact LeO.none _
      | refine LeO.ite ?_ ?_
      | refine LeO.bind ?_ (fun _ => ?_)
    · intro y0 y1 y2 y3
      unfold podestaref15_Scan.j5
      repeat' first
      | (with_reducible exact ih0 _ _ _)
      | (with_reducible exact ih1 _ _ _ _ _)
      | (with_reducible exact ih2 _ _ _)
      | (with_reducible exact ih3 _ _ _ _ _ _)
      | (with_reducible exact ih4 _ _ _ _)
      | (with_reducible exact ih5 _ _ _ _ _ _)
      | (with_reducible exact ih6 _ _ _ _ _ _ _)
      | (with_reducible exact ih7 _ _ _ _)
      | (with_reducible exact ih8 _ _ _ _ _)
      | (with_reducible exact podestaref15_Digits.mono _ _)
      | (with_reducible exact podestaref15_Word.mono _ _)
      | (with_reducible exact LeO.refl _)
      | (with_reducible exact LeO.none _)
      | (with_reducible refine LeO.ite ?_ ?_)
      | (with_reducible refine LeO.bind ?_ (fun _ => ?_))
      | exact ih0 _ _ _
      | exact ih1 _ _ _ _ _
      | exact ih2 _ _ _
      | exact ih3 _ _ _ _ _ _
      | exact ih4 _ _ _ _
      | exact ih5 _ _ _ _ _ _
      | exact ih6 _ _ _ _ _ _ _
      | exact ih7 _ _ _ _
      | exact ih8 _ _ _ _ _
      | exact podestaref15_Digits.mono _ _
      | exact podestaref15_Word.mono _ _
      | exact LeO.none _
      | refine LeO.ite ?_ ?_
      | refine LeO.bind ?_ (fun _ => ?_)
    · intro y0 y1 y2 y3 y4
      unfold podestaref15_Scan.l2
      repeat' first
      | (with_reducible exact ih0 _ _ _)
      | (with_reducible exact ih1 _ _ _ _ _)
      | (with_reducible exact ih2 _ _ _)
      | (with_reducible exact ih3 _ _ _ _ _ _)
      | (with_reducible exact ih4 _ _ _ _)
      | (with_reducible exact ih5 _ _ _ _ _ _)
      | (with_reducible exact ih6 _ _ _ _ _ _ _)
      | (with_reducible exact ih7 _ _ _ _)
      | (with_reducible exact ih8 _ _ _ _ _)
      | (with_reducible exact podestaref15_Digits.mono _ _)
      | (with_reducible exact podestaref15_Word.mono _ _)
      | (with_reducible exact LeO.refl _)
      | (with_reducible exact LeO.none _)
      | (with_reducible refine LeO.ite ?_ ?_)
      | (with_reducible refine LeO.bind ?_ (fun _ => ?_))
      | exact ih0 _ _ _
      | exact ih1 _ _ _ _ _
      | exact ih2 _ _ _
      | exact ih3 _ _ _ _ _ _
      | exact ih4 _ _ _ _
      | exact ih5 _ _ _ _ _ _
      | exact ih6 _ _ _ _ _ _ _
      | exact ih7 _ _ _ _
      | exact ih8 _ _ _ _ _
      | exact podestaref15_Digits.mono _ _
      | exact podestaref15_Word.mono _ _
      | exact LeO.none _
      | refine LeO.ite ?_ ?_
      | refine LeO.bind ?_ (fun _ => ?_)
theorem podestaref15_Scan.mono : ∀ a0 k, LeO (podestaref15_Scan.f k a0) (podestaref15_Scan.f (k + 1) a0) := by
  intro a0 k
  obtain ⟨ih0, ih1, ih2, ih3, ih4, ih5, ih6, ih7, ih8⟩ := podestaref15_Scan.mono_l k
  unfold podestaref15_Scan.f
  repeat' first
      | (with_reducible exact ih0 _ _ _)
      | (with_reducible exact ih1 _ _ _ _ _)
      | (with_reducible exact ih2 _ _ _)
      | (with_reducible exact ih3 _ _ _ _ _ _)
      | (with_reducible exact ih4 _ _ _ _)
      | (with_reducible exact ih5 _ _ _ _ _ _)
      | (with_reducible exact ih6 _ _ _ _ _ _ _)
      | (with_reducible exact ih7 _ _ _ _)
      | (with_reducible exact ih8 _ _ _ _ _)
      | (with_reducible exact podestaref15_Digits.mono _ _)
      | (with_reducible exact podestaref15_Word.mono _ _)
      | (with_reducible exact LeO.refl _)
      | (with_reducible exact LeO.none _)
      | (with_reducible refine LeO.ite ?_ ?_)
      | (with_reducible refine LeO.bind ?_ (fun _ => ?_))
      | exact ih0 _ _ _
      | exact ih1 _ _ _ _ _
      | exact ih2 _ _ _
      | exact ih3 _ _ _ _ _ _
      | exact ih4 _ _ _ _
      | exact ih5 _ _ _ _ _ _
      | exact ih6 _ _ _ _ _ _ _
      | exact ih7 _ _ _ _
      | exact ih8 _ _ _ _ _
      | exact podestaref15_Digits.mono _ _
      | exact podestaref15_Word.mono _ _
      | exact LeO.none _
      | refine LeO.ite ?_ ?_
      | refine LeO.bind ?_ (fun _ => ?_)
set_option maxHeartbeats 8000000 in
set_option maxRecDepth 100000 in
theorem podestaref15_Scan.calls (k : Nat) (a0 : ByteArray) (r1 : List (S112)) (r2 : Int) (r3 : Int) (w : World) (h : podestaref15_Scan.f k a0 = some (r1, r2, r3)) :
    Calls Try.prog 31 #[.string a0] w fun e w' => ∃ v0_ : Value, e = .returned (.tuple #[v0_, .agg #[.int .i64 r2, .int .i64 r3]]) ∧ Kd.R k112 112 w' w.heap.size (fun _ => True) v0_ r1 ∧ Below w.heap.size w w' := by
  have hu32 := Try.underlying32
  have hu112 := Try.underlying112
  have HB := Aside0.mk (Below.refl w.heap.size w)
  have H : (if (a0.size : Int) > 16384 then (some (([] : List (S112)), 13, 16384)) else (podestaref15_Scan.l0 k a0 ([] : List (S112)) 0)) = some (r1, r2, r3) := h
  clear h
  by_cases c2 : (a0.size : Int) > 16384
  · rw [if_pos c2] at H
    have c2b0 : decide (16384 < (a0.size : Int)) = true := decide_eq_true c2
    have c2b1 : decide (16384 < a0.size) = true := decide_eq_true (by omega)
    clear c2
    simp only [Option.some.injEq, Prod.mk.injEq] at H
    obtain ⟨rfl, rfl, rfl⟩ := H
    go_enter Try.func31, Try.ntmps31
    go_wp2_with (first | ((with_reducible refine gate_dst (N := 3) rfl ?_); (try (refine gate_guard (by rfl) ?_; dsimp only)); refine box_event ?hg (N := 3) ?hd (cs := #[.int .i64 0, .int .i64 0]) (t := 32) ?hr ?_; (case hd => rfl); (case hg => rfl); (case hr => first | (go_simp; done) | (go_simp; rfl)); intro gb111 hg w3 hbox hb; have n0_ := Aside0.mk (below_step (by repeat (first | (with_reducible first | exact HB.out | apply below_alloc | apply pw_below_drewN | apply below_drew1) | exact HB.out)) hb); have n1_ := Aside0.mk (hbox); have n2_ := Aside0.mk ((by rw [hg]; exact (below_size (by repeat (first | (with_reducible first | exact HB.out | apply below_alloc | apply pw_below_drewN | apply below_drew1) | exact HB.out))) : w.heap.size ≤ gb111)); have n3_ := Aside0.mk ((by rw [hg]; exact (below_size (by repeat (first | (with_reducible first | exact HB.out | apply below_alloc | apply pw_below_drewN | apply below_drew1) | exact HB.out))) : w.heap.size ≤ gb111)); clear HB; have HB := n0_; have BK111 := n1_; have GW111 := n2_; have GE111 := n3_; clear n0_ n1_ n2_ n3_; clear hb hbox hg; have hcz4_0 : w3.cell? ⟨gb111, 0, none⟩ = some (.int .i64 0) := (blk_cell BK111.out 0).trans rfl; have hcz4_1 : w3.cell? ⟨gb111, 1, none⟩ = some (.int .i64 0) := (blk_cell BK111.out 1).trans rfl; have hfz4_0 := blk_frozen BK111.out 0; have hfz4_1 := blk_frozen BK111.out 1))
    repeat (go_quiet (first | ((with_reducible refine gate_dst (N := 3) rfl ?_); (try (refine gate_guard (by rfl) ?_; dsimp only)); refine box_event ?hg (N := 3) ?hd (cs := #[.int .i64 0, .int .i64 0]) (t := 32) ?hr ?_; (case hd => rfl); (case hg => rfl); (case hr => first | (go_simp; done) | (go_simp; rfl)); intro gb111 hg w3 hbox hb; have n0_ := Aside0.mk (below_step (by repeat (first | (with_reducible first | exact HB.out | apply below_alloc | apply pw_below_drewN | apply below_drew1) | exact HB.out)) hb); have n1_ := Aside0.mk (hbox); have n2_ := Aside0.mk ((by rw [hg]; exact (below_size (by repeat (first | (with_reducible first | exact HB.out | apply below_alloc | apply pw_below_drewN | apply below_drew1) | exact HB.out))) : w.heap.size ≤ gb111)); have n3_ := Aside0.mk ((by rw [hg]; exact (below_size (by repeat (first | (with_reducible first | exact HB.out | apply below_alloc | apply pw_below_drewN | apply below_drew1) | exact HB.out))) : w.heap.size ≤ gb111)); clear HB; have HB := n0_; have BK111 := n1_; have GW111 := n2_; have GE111 := n3_; clear n0_ n1_ n2_ n3_; clear hb hbox hg; have hcz4_0 : w3.cell? ⟨gb111, 0, none⟩ = some (.int .i64 0) := (blk_cell BK111.out 0).trans rfl; have hcz4_1 : w3.cell? ⟨gb111, 1, none⟩ = some (.int .i64 0) := (blk_cell BK111.out 1).trans rfl; have hfz4_0 := blk_frozen BK111.out 0; have hfz4_1 := blk_frozen BK111.out 1)); try go_wp2_with (first | ((with_reducible refine gate_dst (N := 3) rfl ?_); (try (refine gate_guard (by rfl) ?_; dsimp only)); refine box_event ?hg (N := 3) ?hd (cs := #[.int .i64 0, .int .i64 0]) (t := 32) ?hr ?_; (case hd => rfl); (case hg => rfl); (case hr => first | (go_simp; done) | (go_simp; rfl)); intro gb111 hg w3 hbox hb; have n0_ := Aside0.mk (below_step (by repeat (first | (with_reducible first | exact HB.out | apply below_alloc | apply pw_below_drewN | apply below_drew1) | exact HB.out)) hb); have n1_ := Aside0.mk (hbox); have n2_ := Aside0.mk ((by rw [hg]; exact (below_size (by repeat (first | (with_reducible first | exact HB.out | apply below_alloc | apply pw_below_drewN | apply below_drew1) | exact HB.out))) : w.heap.size ≤ gb111)); have n3_ := Aside0.mk ((by rw [hg]; exact (below_size (by repeat (first | (with_reducible first | exact HB.out | apply below_alloc | apply pw_below_drewN | apply below_drew1) | exact HB.out))) : w.heap.size ≤ gb111)); clear HB; have HB := n0_; have BK111 := n1_; have GW111 := n2_; have GE111 := n3_; clear n0_ n1_ n2_ n3_; clear hb hbox hg; have hcz4_0 : w3.cell? ⟨gb111, 0, none⟩ = some (.int .i64 0) := (blk_cell BK111.out 0).trans rfl; have hcz4_1 : w3.cell? ⟨gb111, 1, none⟩ = some (.int .i64 0) := (blk_cell BK111.out 1).trans rfl; have hfz4_0 := blk_frozen BK111.out 0; have hfz4_1 := blk_frozen BK111.out 1)))
    refine bodyPost_ret (results_tc rfl _ _ gb111 32 #[.int .i64 13, .int .i64 16384] (0, 0) _ rfl (by (with_reducible repeat (first | refine blk_drewN ?_ _ | refine blk_drew ?_ | refine blk_alloc ?_ _)); refine blk_put (cs := #[.int .i64 13, .int .i64 0]) ?_ 1 _ rfl; (with_reducible repeat (first | refine blk_drewN ?_ _ | refine blk_drew ?_ | refine blk_alloc ?_ _)); refine blk_put (cs := #[.int .i64 0, .int .i64 0]) ?_ 0 _ rfl; (with_reducible repeat (first | refine blk_drewN ?_ _ | refine blk_drew ?_ | refine blk_alloc ?_ _)); exact BK111.out) Try.underlying32 rfl (by kernel_rfl)) rfl ?_
    exact ⟨_, by first | rfl | (simp [errW_none, errW_some] <;> rfl) | (simp [*, errW_none, errW_some] <;> rfl), by first | exact Kd.R_nil _ _ _ _ _ | exact Kd.N_nil _ _ _ _ _ | exact Kd.V_nil _ _ _ _ _ | exact Kd.Q_nil _ _ _ _ _ | exact Kd.S_nil _ _ _ _ _, by repeat (first | (with_reducible first | exact HB.out | apply below_alloc | apply pw_below_drewN | apply below_drew1 | refine below_set ?_ GE111.out) | exact HB.out)⟩
  · rw [if_neg c2] at H
    have c2b0 : decide (16384 < (a0.size : Int)) = false := decide_eq_false c2
    have c2b1 : decide (16384 < a0.size) = false := decide_eq_false (by omega)
    clear c2
    have H' := Aside0.mk H
    clear H
    go_enter Try.func31, Try.ntmps31
    go_wp2_with (first | ((with_reducible refine gate_dst (N := 3) rfl ?_); (try (refine gate_guard (by rfl) ?_; dsimp only)); refine box_event ?hg (N := 3) ?hd (cs := #[.int .i64 0, .int .i64 0]) (t := 32) ?hr ?_; (case hd => rfl); (case hg => rfl); (case hr => first | (go_simp; done) | (go_simp; rfl)); intro gb111 hg w5 hbox hb; have n0_ := Aside0.mk (below_step (by repeat (first | (with_reducible first | exact HB.out | apply below_alloc | apply pw_below_drewN | apply below_drew1) | exact HB.out)) hb); have n1_ := Aside0.mk (hbox); have n2_ := Aside0.mk ((by rw [hg]; exact (below_size (by repeat (first | (with_reducible first | exact HB.out | apply below_alloc | apply pw_below_drewN | apply below_drew1) | exact HB.out))) : w.heap.size ≤ gb111)); have n3_ := Aside0.mk ((by rw [hg]; exact (below_size (by repeat (first | (with_reducible first | exact HB.out | apply below_alloc | apply pw_below_drewN | apply below_drew1) | exact HB.out))) : w.heap.size ≤ gb111)); clear HB; have HB := n0_; have BK111 := n1_; have GW111 := n2_; have GE111 := n3_; clear n0_ n1_ n2_ n3_; clear hb hbox hg))
    repeat (go_quiet (first | ((with_reducible refine gate_dst (N := 3) rfl ?_); (try (refine gate_guard (by rfl) ?_; dsimp only)); refine box_event ?hg (N := 3) ?hd (cs := #[.int .i64 0, .int .i64 0]) (t := 32) ?hr ?_; (case hd => rfl); (case hg => rfl); (case hr => first | (go_simp; done) | (go_simp; rfl)); intro gb111 hg w5 hbox hb; have n0_ := Aside0.mk (below_step (by repeat (first | (with_reducible first | exact HB.out | apply below_alloc | apply pw_below_drewN | apply below_drew1) | exact HB.out)) hb); have n1_ := Aside0.mk (hbox); have n2_ := Aside0.mk ((by rw [hg]; exact (below_size (by repeat (first | (with_reducible first | exact HB.out | apply below_alloc | apply pw_below_drewN | apply below_drew1) | exact HB.out))) : w.heap.size ≤ gb111)); have n3_ := Aside0.mk ((by rw [hg]; exact (below_size (by repeat (first | (with_reducible first | exact HB.out | apply below_alloc | apply pw_below_drewN | apply below_drew1) | exact HB.out))) : w.heap.size ≤ gb111)); clear HB; have HB := n0_; have BK111 := n1_; have GW111 := n2_; have GE111 := n3_; clear n0_ n1_ n2_ n3_; clear hb hbox hg)); try go_wp2_with (first | ((with_reducible refine gate_dst (N := 3) rfl ?_); (try (refine gate_guard (by rfl) ?_; dsimp only)); refine box_event ?hg (N := 3) ?hd (cs := #[.int .i64 0, .int .i64 0]) (t := 32) ?hr ?_; (case hd => rfl); (case hg => rfl); (case hr => first | (go_simp; done) | (go_simp; rfl)); intro gb111 hg w5 hbox hb; have n0_ := Aside0.mk (below_step (by repeat (first | (with_reducible first | exact HB.out | apply below_alloc | apply pw_below_drewN | apply below_drew1) | exact HB.out)) hb); have n1_ := Aside0.mk (hbox); have n2_ := Aside0.mk ((by rw [hg]; exact (below_size (by repeat (first | (with_reducible first | exact HB.out | apply below_alloc | apply pw_below_drewN | apply below_drew1) | exact HB.out))) : w.heap.size ≤ gb111)); have n3_ := Aside0.mk ((by rw [hg]; exact (below_size (by repeat (first | (with_reducible first | exact HB.out | apply below_alloc | apply pw_below_drewN | apply below_drew1) | exact HB.out))) : w.heap.size ≤ gb111)); clear HB; have HB := n0_; have BK111 := n1_; have GW111 := n2_; have GE111 := n3_; clear n0_ n1_ n2_ n3_; clear hb hbox hg)))
    go_loopg [4, 5] k (fun kq v4 v5 w' => ∃ (x4_1 : List (S112)) (x5_1 : Int) (x112000_1 : Int) (x112001_1 : Int), v5 = .int .i64 x5_1 ∧ Aside0 (podestaref15_Scan.l0 kq a0 x4_1 x5_1 = some (r1, r2, r3)) ∧ Aside0 (kq ≤ k) ∧ Aside0 (Kd.R k112 112 w' w.heap.size (fun _ => True) v4 x4_1) ∧ Aside0 (w'.heap[gb111]? = some (.cells #[.int .i64 x112000_1, .int .i64 x112001_1] 32 (0, 0))) ∧ Aside0 (Below w.heap.size w w'))
    case atStart => exact ⟨(([] : List (S112))), (0), (0), (0), (by first | rfl | (simp; done) | (simp [*]; done)), H', ⟨Nat.le_refl _⟩, ⟨by first | exact Kd.R_nil _ _ _ _ _ | exact Kd.N_nil _ _ _ _ _ | exact Kd.V_nil _ _ _ _ _ | exact Kd.Q_nil _ _ _ _ _ | exact Kd.S_nil _ _ _ _ _⟩, ⟨by (with_reducible repeat (first | refine blk_drewN ?_ _ | refine blk_drew ?_ | refine blk_alloc ?_ _)); exact BK111.out⟩, ⟨by repeat (first | (with_reducible first | exact HB.out | apply below_alloc | apply pw_below_drewN | apply below_drew1 | refine below_set ?_ GE111.out) | exact HB.out)⟩⟩
    case round =>
      clear H'
      try clear c2
      try clear c2b0
      try clear c2b1
      try clear p2
      try clear c3
      try clear hcz4_0
      try clear hcz4_1
      try clear hfz4_0
      try clear hfz4_1
      obtain ⟨x4_1, x5_1, x112000_1, x112001_1, rfl, HA, HK1, HO_4, BK111, HB⟩ := hrel
      cases gk with
      | zero => exact absurd HA.out (by simp [podestaref15_Scan.l0])
      | succ k1 =>
        have H := HA.out
        clear HA
        simp only [podestaref15_Scan.l0] at H
        by_cases c6 : x5_1 < (a0.size : Int)
        · rw [if_pos c6] at H
          have c6b0 : decide (x5_1 < (a0.size : Int)) = true := decide_eq_true c6
          clear c6
          by_cases c7 : 0 ≤ x5_1
          · rw [if_pos c7] at H
            have c7b0 : decide (0 ≤ x5_1) = true := decide_eq_true c7
            clear c7
            have HC9 := Aside0.mk H
            clear H
            have p8 : 0 ≤ (x5_1 : Int) := of_decide_eq_true (by first | (with_reducible assumption) | assumption)
            have q8 : x5_1 < (a0.size : Int) := of_decide_eq_true (by first | (with_reducible assumption) | assumption)
            have hx8 := bt_at a0 x5_1
            replace p8 := eq_true p8
            replace q8 := eq_true q8
            go_upto_region 7 with (fail)
            repeat (go_quiet (fail); go_upto_region 7 with (fail))
            go_cut [35] (fun v35 wc => ∃ (kq : Nat) (x35_8 : Bool), v35 = .bool x35_8 ∧ Aside0 (podestaref15_Scan.j1 kq a0 x4_1 x5_1 (bt a0 x5_1) x35_8 = some (r1, r2, r3)) ∧ Aside0 (kq ≤ k1) ∧ Aside0 (Kd.R k112 112 wc w.heap.size (fun _ => True) u4 x4_1) ∧ Aside0 (wc.heap[gb111]? = some (.cells #[.int .i64 x112000_1, .int .i64 x112001_1] 32 (0, 0))) ∧ Aside0 (Below w.heap.size w wc))
            case first =>
              have H := HC9.out
              clear HC9
              by_cases c10 : (bt a0 x5_1) = 32
              · rw [if_pos c10] at H
                have c10b0 : ((bt a0 x5_1) == 32) = true := beq_iff_eq.mpr c10
                have c10b1 : ((bt a0 x5_1) != 32) = false := bne_eq_false_iff_eq.mpr c10
                clear c10
                (first | rw [c10b0] | (simp only [i64_w, i32_w]; rw [c10b0]) | skip)
                have H' := Aside0.mk H
                clear H
                go_wp2
                repeat (go_quiet (fail); try go_wp2)
                go_meet
                case rel => exact ⟨_, (true), (by first | rfl | (simp; done) | (simp [*]; done)), H', ⟨by have := HK1.out; first | omega | exact Nat.le_refl _⟩, ⟨by (with_reducible repeat (first | apply Kd.R_alloc | apply Kd.R_drewN | apply Kd.R_drew)); exact HO_4.out⟩, ⟨by (with_reducible repeat (first | refine blk_drewN ?_ _ | refine blk_drew ?_ | refine blk_alloc ?_ _)); exact BK111.out⟩, ⟨by repeat (first | (with_reducible first | exact HB.out | apply below_alloc | apply pw_below_drewN | apply below_drew1 | refine below_set ?_ GE111.out) | exact HB.out)⟩⟩
              · rw [if_neg c10] at H
                have c10b0 : ((bt a0 x5_1) == 32) = false := beq_eq_false_iff_ne.mpr c10
                have c10b1 : ((bt a0 x5_1) != 32) = true := bne_iff_ne.mpr c10
                (first | rw [c10b0] | (simp only [i64_w, i32_w]; rw [c10b0]) | skip)
                by_cases c11 : (bt a0 x5_1) = 9
                · rw [if_pos c11] at H
                  have c11b0 : ((bt a0 x5_1) == 9) = true := beq_iff_eq.mpr c11
                  have c11b1 : ((bt a0 x5_1) != 9) = false := bne_eq_false_iff_eq.mpr c11
                  clear c11
                  have H' := Aside0.mk H
                  clear H
                  go_wp2
                  repeat (go_quiet (fail); try go_wp2)
                  go_meet
                  case rel => exact ⟨_, (true), (by first | rfl | (simp; done) | (simp [*]; done)), H', ⟨by have := HK1.out; first | omega | exact Nat.le_refl _⟩, ⟨by (with_reducible repeat (first | apply Kd.R_alloc | apply Kd.R_drewN | apply Kd.R_drew)); exact HO_4.out⟩, ⟨by (with_reducible repeat (first | refine blk_drewN ?_ _ | refine blk_drew ?_ | refine blk_alloc ?_ _)); exact BK111.out⟩, ⟨by repeat (first | (with_reducible first | exact HB.out | apply below_alloc | apply pw_below_drewN | apply below_drew1 | refine below_set ?_ GE111.out) | exact HB.out)⟩⟩
                · rw [if_neg c11] at H
                  have c11b0 : ((bt a0 x5_1) == 9) = false := beq_eq_false_iff_ne.mpr c11
                  have c11b1 : ((bt a0 x5_1) != 9) = true := bne_iff_ne.mpr c11
                  by_cases c12 : (bt a0 x5_1) = 10
                  · rw [if_pos c12] at H
                    have c12b0 : ((bt a0 x5_1) == 10) = true := beq_iff_eq.mpr c12
                    have c12b1 : ((bt a0 x5_1) != 10) = false := bne_eq_false_iff_eq.mpr c12
                    clear c12
                    have H' := Aside0.mk H
                    clear H
                    go_wp2
                    repeat (go_quiet (fail); try go_wp2)
                    go_meet
                    case rel => exact ⟨_, (true), (by first | rfl | (simp; done) | (simp [*]; done)), H', ⟨by have := HK1.out; first | omega | exact Nat.le_refl _⟩, ⟨by (with_reducible repeat (first | apply Kd.R_alloc | apply Kd.R_drewN | apply Kd.R_drew)); exact HO_4.out⟩, ⟨by (with_reducible repeat (first | refine blk_drewN ?_ _ | refine blk_drew ?_ | refine blk_alloc ?_ _)); exact BK111.out⟩, ⟨by repeat (first | (with_reducible first | exact HB.out | apply below_alloc | apply pw_below_drewN | apply below_drew1 | refine below_set ?_ GE111.out) | exact HB.out)⟩⟩
                  · rw [if_neg c12] at H
                    have c12b0 : ((bt a0 x5_1) == 10) = false := beq_eq_false_iff_ne.mpr c12
                    have c12b1 : ((bt a0 x5_1) != 10) = true := bne_iff_ne.mpr c12
                    have H' := Aside0.mk H
                    clear H
                    go_wp2
                    repeat (go_quiet (fail); try go_wp2)
                    go_meet
                    case rel => exact ⟨_, (((bt a0 x5_1) == 13)), (by first | rfl | (simp; done) | (simp [*]; done)), H', ⟨by have := HK1.out; first | omega | exact Nat.le_refl _⟩, ⟨by (with_reducible repeat (first | apply Kd.R_alloc | apply Kd.R_drewN | apply Kd.R_drew)); exact HO_4.out⟩, ⟨by (with_reducible repeat (first | refine blk_drewN ?_ _ | refine blk_drew ?_ | refine blk_alloc ?_ _)); exact BK111.out⟩, ⟨by repeat (first | (with_reducible first | exact HB.out | apply below_alloc | apply pw_below_drewN | apply below_drew1 | refine below_set ?_ GE111.out) | exact HB.out)⟩⟩
            case rest =>
              clear HC9
              try clear c1
              try clear c2
              try clear c2b0
              try clear c2b1
              try clear p2
              try clear c3
              try clear c6
              try clear c6b0
              try clear c7
              try clear c7b0
              try clear p8
              try clear q8
              try clear hx8
              try clear c10
              try clear c10b0
              try clear c10b1
              try clear c11
              try clear c11b0
              try clear c11b1
              try clear c12
              try clear c12b0
              try clear c12b1
              try clear hcz4_0
              try clear hcz4_1
              try clear hfz4_0
              try clear hfz4_1
              try clear p2
              try clear p8
              try clear q8
              obtain ⟨kq, x35_8, rfl, HA, HJ8, HO_4, BK111, HB⟩ := hcut
              cases kq with
              | zero => exact absurd HA.out (by simp [podestaref15_Scan.j1])
              | succ kj8 =>
                have H := HA.out
                clear HA
                simp only [podestaref15_Scan.j1] at H
                by_cases c13 : x35_8 = true
                · subst c13
                  have H1 : (podestaref15_Scan.l0 kj8 a0 x4_1 (wrap64 (x5_1 + 1))) = some (r1, r2, r3) := by rw [if_pos rfl] at H; exact H
                  clear H
                  have H := H1
                  clear H1
                  have H' := Aside0.mk H
                  clear H
                  go_wp2
                  repeat (go_quiet (fail); try go_wp2)
                  go_roundg kj8
                  case measure => have := HK1.out; have := HJ8.out; omega
                  case rel => exact ⟨(x4_1), (wrap64 (x5_1 + 1)), (x112000_1), (x112001_1), (by first | rfl | (simp; done) | (simp [*]; done)), H', ⟨by have := HK1.out; have := HJ8.out; omega⟩, ⟨by (with_reducible repeat (first | apply Kd.R_alloc | apply Kd.R_drewN | apply Kd.R_drew)); exact HO_4.out⟩, ⟨by (with_reducible repeat (first | refine blk_drewN ?_ _ | refine blk_drew ?_ | refine blk_alloc ?_ _)); exact BK111.out⟩, ⟨by repeat (first | (with_reducible first | exact HB.out | apply below_alloc | apply pw_below_drewN | apply below_drew1 | refine below_set ?_ GE111.out) | exact HB.out)⟩⟩
                · replace c13 := Bool.eq_false_iff.mpr c13
                  subst c13
                  have H1 : (if (bt a0 x5_1) = 35 then (podestaref15_Scan.l1 kj8 a0 x4_1 x5_1) else ((podestaref15_letter.f (bt a0 x5_1)).bind fun t112 => (if t112 = true then (podestaref15_Scan.j3 kj8 a0 x4_1 x5_1 (bt a0 x5_1) 0 true) else ((podestaref15_digit.f (bt a0 x5_1)).bind fun t113 => (podestaref15_Scan.j3 kj8 a0 x4_1 x5_1 (bt a0 x5_1) 0 t113))))) = some (r1, r2, r3) := by rw [if_neg (show ¬ (false = true) by decide)] at H; exact H
                  clear H
                  have H := H1
                  clear H1
                  by_cases c14 : (bt a0 x5_1) = 35
                  · rw [if_pos c14] at H
                    have c14b0 : ((bt a0 x5_1) == 35) = true := beq_iff_eq.mpr c14
                    have c14b1 : ((bt a0 x5_1) != 35) = false := bne_eq_false_iff_eq.mpr c14
                    clear c14
                    have H' := Aside0.mk H
                    clear H
                    go_wp2
                    repeat (go_quiet (fail); try go_wp2)
                    go_loopg [5] kj8 (fun kq v5 w' => ∃ (x5_3 : Int), v5 = .int .i64 x5_3 ∧ Aside0 (podestaref15_Scan.l1 kq a0 x4_1 x5_3 = some (r1, r2, r3)) ∧ Aside0 (kq ≤ kj8) ∧ Aside0 (Kd.R k112 112 w' w.heap.size (fun _ => True) u4 x4_1) ∧ Aside0 (w'.heap[gb111]? = some (.cells #[.int .i64 x112000_1, .int .i64 x112001_1] 32 (0, 0))) ∧ Aside0 (Below w.heap.size w w'))
                    case atStart => exact ⟨(x5_1), (by first | rfl | (simp; done) | (simp [*]; done)), H', ⟨Nat.le_refl _⟩, ⟨by (with_reducible repeat (first | apply Kd.R_alloc | apply Kd.R_drewN | apply Kd.R_drew)); exact HO_4.out⟩, ⟨by (with_reducible repeat (first | refine blk_drewN ?_ _ | refine blk_drew ?_ | refine blk_alloc ?_ _)); exact BK111.out⟩, ⟨by repeat (first | (with_reducible first | exact HB.out | apply below_alloc | apply pw_below_drewN | apply below_drew1 | refine below_set ?_ GE111.out) | exact HB.out)⟩⟩
                    case round =>
                      clear H'
                      try clear c1
                      try clear c2
                      try clear c2b0
                      try clear c2b1
                      try clear p2
                      try clear c3
                      try clear c6
                      try clear c6b0
                      try clear p6
                      try clear c7
                      try clear c7b0
                      try clear p8
                      try clear q8
                      try clear hx8
                      try clear c10
                      try clear c10b0
                      try clear c10b1
                      try clear c11
                      try clear c11b0
                      try clear c11b1
                      try clear c12
                      try clear c12b0
                      try clear c12b1
                      try clear c13
                      try clear c14
                      try clear c14b0
                      try clear c14b1
                      try clear hcz4_0
                      try clear hcz4_1
                      try clear hfz4_0
                      try clear hfz4_1
                      try clear p2
                      try clear p8
                      try clear q8
                      obtain ⟨x5_3, rfl, HA, HK3, HO_4, BK111, HB⟩ := hrel
                      cases gk with
                      | zero => exact absurd HA.out (by simp [podestaref15_Scan.l1])
                      | succ k3 =>
                        have H := HA.out
                        clear HA
                        simp only [podestaref15_Scan.l1] at H
                        by_cases c15 : x5_3 < (a0.size : Int)
                        · rw [if_pos c15] at H
                          have c15b0 : decide (x5_3 < (a0.size : Int)) = true := decide_eq_true c15
                          clear c15
                          by_cases c16 : 0 ≤ x5_3
                          · rw [if_pos c16] at H
                            have c16b0 : decide (0 ≤ x5_3) = true := decide_eq_true c16
                            clear c16
                            by_cases c18 : (bt a0 x5_3) = 10
                            · rw [if_pos c18] at H
                              have c18b0 : ((bt a0 x5_3) == 10) = true := beq_iff_eq.mpr c18
                              have c18b1 : ((bt a0 x5_3) != 10) = false := bne_eq_false_iff_eq.mpr c18
                              clear c18
                              have H' := Aside0.mk H
                              clear H
                              have p17 : 0 ≤ (x5_3 : Int) := of_decide_eq_true (by first | (with_reducible assumption) | assumption)
                              have q17 : x5_3 < (a0.size : Int) := of_decide_eq_true (by first | (with_reducible assumption) | assumption)
                              have hx17 := bt_at a0 x5_3
                              replace p17 := eq_true p17
                              replace q17 := eq_true q17
                              go_wp2
                              repeat (go_quiet (fail); try go_wp2)
                              go_roundg k3
                              case measure => have := HK1.out; have := HJ8.out; have := HK3.out; omega
                              case rel => exact ⟨(x4_1), (x5_3), (x112000_1), (x112001_1), (by first | rfl | (simp; done) | (simp [*]; done)), H', ⟨by have := HK1.out; have := HJ8.out; have := HK3.out; omega⟩, ⟨by (with_reducible repeat (first | apply Kd.R_alloc | apply Kd.R_drewN | apply Kd.R_drew)); exact HO_4.out⟩, ⟨by (with_reducible repeat (first | refine blk_drewN ?_ _ | refine blk_drew ?_ | refine blk_alloc ?_ _)); exact BK111.out⟩, ⟨by repeat (first | (with_reducible first | exact HB.out | apply below_alloc | apply pw_below_drewN | apply below_drew1 | refine below_set ?_ GE111.out) | exact HB.out)⟩⟩
                            · rw [if_neg c18] at H
                              have c18b0 : ((bt a0 x5_3) == 10) = false := beq_eq_false_iff_ne.mpr c18
                              have c18b1 : ((bt a0 x5_3) != 10) = true := bne_iff_ne.mpr c18
                              have H' := Aside0.mk H
                              clear H
                              have p17 : 0 ≤ (x5_3 : Int) := of_decide_eq_true (by first | (with_reducible assumption) | assumption)
                              have q17 : x5_3 < (a0.size : Int) := of_decide_eq_true (by first | (with_reducible assumption) | assumption)
                              have hx17 := bt_at a0 x5_3
                              replace p17 := eq_true p17
                              replace q17 := eq_true q17
                              go_wp2
                              repeat (go_quiet (fail); try go_wp2)
                              go_roundg k3
                              case measure => have := HK1.out; have := HJ8.out; have := HK3.out; omega
                              case rel => exact ⟨(wrap64 (x5_3 + 1)), (by first | rfl | (simp; done) | (simp [*]; done)), H', ⟨by have := HK1.out; have := HJ8.out; have := HK3.out; omega⟩, ⟨by (with_reducible repeat (first | apply Kd.R_alloc | apply Kd.R_drewN | apply Kd.R_drew)); exact HO_4.out⟩, ⟨by (with_reducible repeat (first | refine blk_drewN ?_ _ | refine blk_drew ?_ | refine blk_alloc ?_ _)); exact BK111.out⟩, ⟨by repeat (first | (with_reducible first | exact HB.out | apply below_alloc | apply pw_below_drewN | apply below_drew1 | refine below_set ?_ GE111.out) | exact HB.out)⟩⟩
                          · rw [if_neg c16] at H
                            exact absurd H (by simp)
                        · rw [if_neg c15] at H
                          have c15b0 : decide (x5_3 < (a0.size : Int)) = false := decide_eq_false c15
                          clear c15
                          have H' := Aside0.mk H
                          clear H
                          go_wp2
                          repeat (go_quiet (fail); try go_wp2)
                          go_roundg k3
                          case measure => have := HK1.out; have := HJ8.out; have := HK3.out; omega
                          case rel => exact ⟨(x4_1), (x5_3), (x112000_1), (x112001_1), (by first | rfl | (simp; done) | (simp [*]; done)), H', ⟨by have := HK1.out; have := HJ8.out; have := HK3.out; omega⟩, ⟨by (with_reducible repeat (first | apply Kd.R_alloc | apply Kd.R_drewN | apply Kd.R_drew)); exact HO_4.out⟩, ⟨by (with_reducible repeat (first | refine blk_drewN ?_ _ | refine blk_drew ?_ | refine blk_alloc ?_ _)); exact BK111.out⟩, ⟨by repeat (first | (with_reducible first | exact HB.out | apply below_alloc | apply pw_below_drewN | apply below_drew1 | refine below_set ?_ GE111.out) | exact HB.out)⟩⟩
                  · rw [if_neg c14] at H
                    have c14b0 : ((bt a0 x5_1) == 35) = false := beq_eq_false_iff_ne.mpr c14
                    have c14b1 : ((bt a0 x5_1) != 35) = true := bne_iff_ne.mpr c14
                    have HC19 := Aside0.mk H
                    clear H
                    go_upto_region 13 with (fail)
                    repeat (go_quiet (fail); go_upto_region 13 with (fail))
                    go_cut [57] (fun v57 wc => ∃ (kq : Nat) (x57_18 : Bool), v57 = .bool x57_18 ∧ Aside0 (podestaref15_Scan.j3 kq a0 x4_1 x5_1 (bt a0 x5_1) 0 x57_18 = some (r1, r2, r3)) ∧ Aside0 (kq ≤ kj8) ∧ Aside0 (Kd.R k112 112 wc w.heap.size (fun _ => True) u4 x4_1) ∧ Aside0 (wc.heap[gb111]? = some (.cells #[.int .i64 x112000_1, .int .i64 x112001_1] 32 (0, 0))) ∧ Aside0 (Below w.heap.size w wc))
                    case first =>
                      have H := HC19.out
                      clear HC19
                      replace H := Option.bind_eq_some_iff.mp H
                      obtain ⟨t112, A200, H⟩ := H
                      replace H : (if t112 = true then (podestaref15_Scan.j3 kj8 a0 x4_1 x5_1 (bt a0 x5_1) 0 true) else ((podestaref15_digit.f (bt a0 x5_1)).bind fun t113 => (podestaref15_Scan.j3 kj8 a0 x4_1 x5_1 (bt a0 x5_1) 0 t113))) = some (r1, r2, r3) := H
                      have A20 := Aside0.mk A200
                      clear A200
                      by_cases c21 : t112 = true
                      · subst c21
                        have H1 : (podestaref15_Scan.j3 kj8 a0 x4_1 x5_1 (bt a0 x5_1) 0 true) = some (r1, r2, r3) := by rw [if_pos rfl] at H; exact H
                        clear H
                        have H := H1
                        clear H1
                        have H' := Aside0.mk H
                        clear H
                        go_wp2_with (first | (go_at_call 52; (with_reducible refine (podestaref15_letter.calls (bt a0 x5_1) true _ A20.out).mono ?_); rintro e w' ⟨rfl, ⟨nd, rfl⟩⟩; (try first | exact ⟨rfl, _, World.drewN_drewN _ _ _⟩ | exact ⟨rfl, _, Eq.trans (World.drewN_drewN _ _ _) (congrArg (World.drewN _) (Nat.add_assoc _ _ _))⟩)))
                        repeat (go_quiet (first | (go_at_call 52; (with_reducible refine (podestaref15_letter.calls (bt a0 x5_1) true _ A20.out).mono ?_); rintro e w' ⟨rfl, ⟨nd, rfl⟩⟩; (try first | exact ⟨rfl, _, World.drewN_drewN _ _ _⟩ | exact ⟨rfl, _, Eq.trans (World.drewN_drewN _ _ _) (congrArg (World.drewN _) (Nat.add_assoc _ _ _))⟩))); try go_wp2_with (first | (go_at_call 52; (with_reducible refine (podestaref15_letter.calls (bt a0 x5_1) true _ A20.out).mono ?_); rintro e w' ⟨rfl, ⟨nd, rfl⟩⟩; (try first | exact ⟨rfl, _, World.drewN_drewN _ _ _⟩ | exact ⟨rfl, _, Eq.trans (World.drewN_drewN _ _ _) (congrArg (World.drewN _) (Nat.add_assoc _ _ _))⟩))))
                        go_meet
                        case rel => exact ⟨_, (true), (by first | rfl | (simp; done) | (simp [*]; done)), H', ⟨by have := HK1.out; have := HJ8.out; first | omega | exact Nat.le_refl _⟩, ⟨by (with_reducible repeat (first | apply Kd.R_alloc | apply Kd.R_drewN | apply Kd.R_drew)); exact HO_4.out⟩, ⟨by (with_reducible repeat (first | refine blk_drewN ?_ _ | refine blk_drew ?_ | refine blk_alloc ?_ _)); exact BK111.out⟩, ⟨by repeat (first | (with_reducible first | exact HB.out | apply below_alloc | apply pw_below_drewN | apply below_drew1 | refine below_set ?_ GE111.out) | exact HB.out)⟩⟩
                      · replace c21 := Bool.eq_false_iff.mpr c21
                        subst c21
                        have H1 : ((podestaref15_digit.f (bt a0 x5_1)).bind fun t113 => (podestaref15_Scan.j3 kj8 a0 x4_1 x5_1 (bt a0 x5_1) 0 t113)) = some (r1, r2, r3) := by rw [if_neg (show ¬ (false = true) by decide)] at H; exact H
                        clear H
                        have H := H1
                        clear H1
                        replace H := Option.bind_eq_some_iff.mp H
                        obtain ⟨t113, A220, H⟩ := H
                        replace H : (podestaref15_Scan.j3 kj8 a0 x4_1 x5_1 (bt a0 x5_1) 0 t113) = some (r1, r2, r3) := H
                        have A22 := Aside0.mk A220
                        clear A220
                        have H' := Aside0.mk H
                        clear H
                        go_wp2_with (first | (go_at_call 52; (with_reducible refine (podestaref15_letter.calls (bt a0 x5_1) false _ A20.out).mono ?_); rintro e w' ⟨rfl, ⟨nd, rfl⟩⟩; (try first | exact ⟨rfl, _, World.drewN_drewN _ _ _⟩ | exact ⟨rfl, _, Eq.trans (World.drewN_drewN _ _ _) (congrArg (World.drewN _) (Nat.add_assoc _ _ _))⟩)) | (go_at_call 53; (with_reducible refine (podestaref15_digit.calls (bt a0 x5_1) t113 _ A22.out).mono ?_); rintro e w' ⟨rfl, ⟨nd, rfl⟩⟩; (try first | exact ⟨rfl, _, World.drewN_drewN _ _ _⟩ | exact ⟨rfl, _, Eq.trans (World.drewN_drewN _ _ _) (congrArg (World.drewN _) (Nat.add_assoc _ _ _))⟩)))
                        repeat (go_quiet (first | (go_at_call 52; (with_reducible refine (podestaref15_letter.calls (bt a0 x5_1) false _ A20.out).mono ?_); rintro e w' ⟨rfl, ⟨nd, rfl⟩⟩; (try first | exact ⟨rfl, _, World.drewN_drewN _ _ _⟩ | exact ⟨rfl, _, Eq.trans (World.drewN_drewN _ _ _) (congrArg (World.drewN _) (Nat.add_assoc _ _ _))⟩)) | (go_at_call 53; (with_reducible refine (podestaref15_digit.calls (bt a0 x5_1) t113 _ A22.out).mono ?_); rintro e w' ⟨rfl, ⟨nd, rfl⟩⟩; (try first | exact ⟨rfl, _, World.drewN_drewN _ _ _⟩ | exact ⟨rfl, _, Eq.trans (World.drewN_drewN _ _ _) (congrArg (World.drewN _) (Nat.add_assoc _ _ _))⟩))); try go_wp2_with (first | (go_at_call 52; (with_reducible refine (podestaref15_letter.calls (bt a0 x5_1) false _ A20.out).mono ?_); rintro e w' ⟨rfl, ⟨nd, rfl⟩⟩; (try first | exact ⟨rfl, _, World.drewN_drewN _ _ _⟩ | exact ⟨rfl, _, Eq.trans (World.drewN_drewN _ _ _) (congrArg (World.drewN _) (Nat.add_assoc _ _ _))⟩)) | (go_at_call 53; (with_reducible refine (podestaref15_digit.calls (bt a0 x5_1) t113 _ A22.out).mono ?_); rintro e w' ⟨rfl, ⟨nd, rfl⟩⟩; (try first | exact ⟨rfl, _, World.drewN_drewN _ _ _⟩ | exact ⟨rfl, _, Eq.trans (World.drewN_drewN _ _ _) (congrArg (World.drewN _) (Nat.add_assoc _ _ _))⟩))))
                        go_meet
                        case rel => exact ⟨_, (t113), (by first | rfl | (simp; done) | (simp [*]; done)), H', ⟨by have := HK1.out; have := HJ8.out; first | omega | exact Nat.le_refl _⟩, ⟨by (with_reducible repeat (first | apply Kd.R_alloc | apply Kd.R_drewN | apply Kd.R_drew)); exact HO_4.out⟩, ⟨by (with_reducible repeat (first | refine blk_drewN ?_ _ | refine blk_drew ?_ | refine blk_alloc ?_ _)); exact BK111.out⟩, ⟨by repeat (first | (with_reducible first | exact HB.out | apply below_alloc | apply pw_below_drewN | apply below_drew1 | refine below_set ?_ GE111.out) | exact HB.out)⟩⟩
                    case rest =>
                      clear HC19
                      try clear c1
                      try clear p1
                      try clear q1
                      try clear hx1
                      try clear c2
                      try clear c2b0
                      try clear c2b1
                      try clear p2
                      try clear c3
                      try clear c6
                      try clear c6b0
                      try clear p6
                      try clear c7
                      try clear c7b0
                      try clear p8
                      try clear q8
                      try clear hx8
                      try clear c10
                      try clear c10b0
                      try clear c10b1
                      try clear c11
                      try clear c11b0
                      try clear c11b1
                      try clear c12
                      try clear c12b0
                      try clear c12b1
                      try clear c13
                      try clear c14
                      try clear c14b0
                      try clear c14b1
                      try clear c15
                      try clear c15b0
                      try clear c16
                      try clear c16b0
                      try clear p17
                      try clear q17
                      try clear hx17
                      try clear c18
                      try clear c18b0
                      try clear c18b1
                      try clear c21
                      try clear hcz4_0
                      try clear hcz4_1
                      try clear hfz4_0
                      try clear hfz4_1
                      try clear p17
                      try clear p2
                      try clear p6
                      try clear p8
                      try clear q17
                      try clear q8
                      obtain ⟨kq, x57_18, rfl, HA, HJ18, HO_4, BK111, HB⟩ := hcut
                      cases kq with
                      | zero => exact absurd HA.out (by simp [podestaref15_Scan.j3])
                      | succ kj18 =>
                        have H := HA.out
                        clear HA
                        simp only [podestaref15_Scan.j3] at H
                        have HC23 := Aside0.mk H
                        clear H
                        go_upto_if 57 with (fail)
                        repeat (go_quiet (fail); go_upto_if 57 with (fail))
                        go_cut [7] (fun v7 wc => ∃ (kq : Nat) (x7_22 : Int) (x112000_22 : Int) (x112001_22 : Int), v7 = .int .i64 x7_22 ∧ Aside0 (podestaref15_Scan.j6 kq a0 x4_1 x5_1 x7_22 = some (r1, r2, r3)) ∧ Aside0 (kq ≤ kj18) ∧ Aside0 (Kd.R k112 112 wc w.heap.size (fun _ => True) u4 x4_1) ∧ Aside0 (wc.heap[gb111]? = some (.cells #[.int .i64 x112000_22, .int .i64 x112001_22] 32 (0, 0))) ∧ Aside0 (Below w.heap.size w wc))
                        case first =>
                          have H := HC23.out
                          clear HC23
                          by_cases c24 : x57_18 = true
                          · subst c24
                            have H1 : (podestaref15_Scan.l2 kj18 a0 x4_1 x5_1 (bt a0 x5_1) 0) = some (r1, r2, r3) := by rw [if_pos rfl] at H; exact H
                            clear H
                            have H := H1
                            clear H1
                            have HC25 := Aside0.mk H
                            clear H
                            go_upto_block 4 with (fail)
                            repeat (go_quiet (fail); go_upto_block 4 with (fail))
                            go_cut [7] (fun v7 wc => ∃ (kq : Nat) (x7_24 : Int), v7 = .int .i64 x7_24 ∧ Aside0 (podestaref15_Scan.j5 kq a0 x4_1 x5_1 x7_24 = some (r1, r2, r3)) ∧ Aside0 (kq ≤ kj18) ∧ Aside0 (Kd.R k112 112 wc w.heap.size (fun _ => True) u4 x4_1) ∧ Aside0 (wc.heap[gb111]? = some (.cells #[.int .i64 x112000_1, .int .i64 x112001_1] 32 (0, 0))) ∧ Aside0 (Below w.heap.size w wc))
                            case first =>
                              have H := HC25.out
                              clear HC25
                              have H' := Aside0.mk H
                              clear H
                              go_wp2
                              repeat (go_quiet (fail); try go_wp2)
                              go_loopg [7] kj18 (fun kq v7 w' => ∃ (x7_4 : Int), v7 = .int .i64 x7_4 ∧ Aside0 (podestaref15_Scan.l2 kq a0 x4_1 x5_1 (bt a0 x5_1) x7_4 = some (r1, r2, r3)) ∧ Aside0 (kq ≤ kj18) ∧ Aside0 (Kd.R k112 112 w' w.heap.size (fun _ => True) u4 x4_1) ∧ Aside0 (w'.heap[gb111]? = some (.cells #[.int .i64 x112000_1, .int .i64 x112001_1] 32 (0, 0))) ∧ Aside0 (Below w.heap.size w w'))
                              case atStart => exact ⟨(0), (by first | rfl | (simp; done) | (simp [*]; done)), H', ⟨Nat.le_refl _⟩, ⟨by (with_reducible repeat (first | apply Kd.R_alloc | apply Kd.R_drewN | apply Kd.R_drew)); exact HO_4.out⟩, ⟨by (with_reducible repeat (first | refine blk_drewN ?_ _ | refine blk_drew ?_ | refine blk_alloc ?_ _)); exact BK111.out⟩, ⟨by repeat (first | (with_reducible first | exact HB.out | apply below_alloc | apply pw_below_drewN | apply below_drew1 | refine below_set ?_ GE111.out) | exact HB.out)⟩⟩
                              case round =>
                                clear H'
                                try clear c1
                                try clear p1
                                try clear q1
                                try clear hx1
                                try clear c2
                                try clear c2b0
                                try clear c2b1
                                try clear p2
                                try clear c3
                                try clear c6
                                try clear c6b0
                                try clear p6
                                try clear c7
                                try clear c7b0
                                try clear p8
                                try clear q8
                                try clear hx8
                                try clear c10
                                try clear c10b0
                                try clear c10b1
                                try clear c11
                                try clear c11b0
                                try clear c11b1
                                try clear c12
                                try clear c12b0
                                try clear c12b1
                                try clear c13
                                try clear c14
                                try clear c14b0
                                try clear c14b1
                                try clear c15
                                try clear c15b0
                                try clear c16
                                try clear c16b0
                                try clear p17
                                try clear q17
                                try clear hx17
                                try clear c18
                                try clear c18b0
                                try clear c18b1
                                try clear c21
                                try clear c24
                                try clear hcz4_0
                                try clear hcz4_1
                                try clear hfz4_0
                                try clear hfz4_1
                                try clear p1
                                try clear p17
                                try clear p2
                                try clear p6
                                try clear p8
                                try clear q1
                                try clear q17
                                try clear q8
                                obtain ⟨x7_4, rfl, HA, HK4, HO_4, BK111, HB⟩ := hrel
                                cases gk with
                                | zero => exact absurd HA.out (by simp [podestaref15_Scan.l2])
                                | succ k4 =>
                                  have H := HA.out
                                  clear HA
                                  simp only [podestaref15_Scan.l2] at H
                                  by_cases c26 : (wrap64 (x5_1 + x7_4)) < (a0.size : Int)
                                  · rw [if_pos c26] at H
                                    have c26b0 : decide ((wrap64 (x5_1 + x7_4)) < (a0.size : Int)) = true := decide_eq_true c26
                                    clear c26
                                    (first | rw [c26b0] | (simp only [i64_w, i32_w]; rw [c26b0]) | skip)
                                    obtain ⟨ji27, hji27⟩ : ∃ j_ : Int, (wrap64 (x5_1 + x7_4)) = j_ := ⟨_, rfl⟩
                                    replace H : (if 0 ≤ (ji27) then ((podestaref15_digit.f (bt a0 (ji27))).bind fun t114 => (if t114 = true then (podestaref15_Scan.l2 k4 a0 x4_1 x5_1 (bt a0 x5_1) (wrap64 (x7_4 + 1))) else ((podestaref15_letter.f (bt a0 x5_1)).bind fun t115 => (if t115 = true then ((podestaref15_letter.f (bt a0 (ji27))).bind fun t116 => (if t116 = true then (podestaref15_Scan.l2 k4 a0 x4_1 x5_1 (bt a0 x5_1) (wrap64 (x7_4 + 1))) else (podestaref15_Scan.j5 k4 a0 x4_1 x5_1 x7_4))) else (podestaref15_Scan.j5 k4 a0 x4_1 x5_1 x7_4))))) else (none)) = some (r1, r2, r3) := by first | (rw [hji27] at H; exact H) | (simp only [hji27] at H ⊢; exact H)
                                    (try rw [hji27] at c26b0)
                                    have hji27w : (IntKind.i64.wrap (x5_1 + x7_4)) = ji27 := (i64_w _).trans hji27
                                    by_cases c28 : 0 ≤ (ji27)
                                    · rw [if_pos c28] at H
                                      have c28b0 : decide (0 ≤ (ji27)) = true := decide_eq_true c28
                                      clear c28
                                      replace H := Option.bind_eq_some_iff.mp H
                                      obtain ⟨t114, A300, H⟩ := H
                                      replace H : (if t114 = true then (podestaref15_Scan.l2 k4 a0 x4_1 x5_1 (bt a0 x5_1) (wrap64 (x7_4 + 1))) else ((podestaref15_letter.f (bt a0 x5_1)).bind fun t115 => (if t115 = true then ((podestaref15_letter.f (bt a0 (ji27))).bind fun t116 => (if t116 = true then (podestaref15_Scan.l2 k4 a0 x4_1 x5_1 (bt a0 x5_1) (wrap64 (x7_4 + 1))) else (podestaref15_Scan.j5 k4 a0 x4_1 x5_1 x7_4))) else (podestaref15_Scan.j5 k4 a0 x4_1 x5_1 x7_4)))) = some (r1, r2, r3) := H
                                      have A30 := Aside0.mk A300
                                      clear A300
                                      by_cases c31 : t114 = true
                                      · subst c31
                                        have H1 : (podestaref15_Scan.l2 k4 a0 x4_1 x5_1 (bt a0 x5_1) (wrap64 (x7_4 + 1))) = some (r1, r2, r3) := by rw [if_pos rfl] at H; exact H
                                        clear H
                                        have H := H1
                                        clear H1
                                        have H' := Aside0.mk H
                                        clear H
                                        have p29 : 0 ≤ ((ji27) : Int) := of_decide_eq_true (by first | (with_reducible assumption) | assumption)
                                        have q29 : (ji27) < (a0.size : Int) := of_decide_eq_true (by first | (with_reducible assumption) | assumption)
                                        have hx29 := bt_at a0 (ji27)
                                        replace p29 := eq_true p29
                                        replace q29 := eq_true q29
                                        go_wp2_with (first | (go_at_call 53; (with_reducible refine (podestaref15_digit.calls (bt a0 (ji27)) true _ A30.out).mono ?_); rintro e w' ⟨rfl, ⟨nd, rfl⟩⟩; (try first | exact ⟨rfl, _, World.drewN_drewN _ _ _⟩ | exact ⟨rfl, _, Eq.trans (World.drewN_drewN _ _ _) (congrArg (World.drewN _) (Nat.add_assoc _ _ _))⟩)))
                                        repeat (go_quiet (first | (go_at_call 53; (with_reducible refine (podestaref15_digit.calls (bt a0 (ji27)) true _ A30.out).mono ?_); rintro e w' ⟨rfl, ⟨nd, rfl⟩⟩; (try first | exact ⟨rfl, _, World.drewN_drewN _ _ _⟩ | exact ⟨rfl, _, Eq.trans (World.drewN_drewN _ _ _) (congrArg (World.drewN _) (Nat.add_assoc _ _ _))⟩))); try go_wp2_with (first | (go_at_call 53; (with_reducible refine (podestaref15_digit.calls (bt a0 (ji27)) true _ A30.out).mono ?_); rintro e w' ⟨rfl, ⟨nd, rfl⟩⟩; (try first | exact ⟨rfl, _, World.drewN_drewN _ _ _⟩ | exact ⟨rfl, _, Eq.trans (World.drewN_drewN _ _ _) (congrArg (World.drewN _) (Nat.add_assoc _ _ _))⟩))))
                                        go_roundg k4
                                        case measure => have := HK1.out; have := HJ8.out; have := HJ18.out; have := HK4.out; omega
                                        case rel => exact ⟨(wrap64 (x7_4 + 1)), (by first | rfl | (simp; done) | (simp [*]; done)), H', ⟨by have := HK1.out; have := HJ8.out; have := HJ18.out; have := HK4.out; omega⟩, ⟨by (with_reducible repeat (first | apply Kd.R_alloc | apply Kd.R_drewN | apply Kd.R_drew)); exact HO_4.out⟩, ⟨by (with_reducible repeat (first | refine blk_drewN ?_ _ | refine blk_drew ?_ | refine blk_alloc ?_ _)); exact BK111.out⟩, ⟨by repeat (first | (with_reducible first | exact HB.out | apply below_alloc | apply pw_below_drewN | apply below_drew1 | refine below_set ?_ GE111.out) | exact HB.out)⟩⟩
                                      · replace c31 := Bool.eq_false_iff.mpr c31
                                        subst c31
                                        have H1 : ((podestaref15_letter.f (bt a0 x5_1)).bind fun t115 => (if t115 = true then ((podestaref15_letter.f (bt a0 (ji27))).bind fun t116 => (if t116 = true then (podestaref15_Scan.l2 k4 a0 x4_1 x5_1 (bt a0 x5_1) (wrap64 (x7_4 + 1))) else (podestaref15_Scan.j5 k4 a0 x4_1 x5_1 x7_4))) else (podestaref15_Scan.j5 k4 a0 x4_1 x5_1 x7_4))) = some (r1, r2, r3) := by rw [if_neg (show ¬ (false = true) by decide)] at H; exact H
                                        clear H
                                        have H := H1
                                        clear H1
                                        replace H := Option.bind_eq_some_iff.mp H
                                        obtain ⟨t115, A320, H⟩ := H
                                        replace H : (if t115 = true then ((podestaref15_letter.f (bt a0 (ji27))).bind fun t116 => (if t116 = true then (podestaref15_Scan.l2 k4 a0 x4_1 x5_1 (bt a0 x5_1) (wrap64 (x7_4 + 1))) else (podestaref15_Scan.j5 k4 a0 x4_1 x5_1 x7_4))) else (podestaref15_Scan.j5 k4 a0 x4_1 x5_1 x7_4)) = some (r1, r2, r3) := H
                                        have A32 := Aside0.mk A320
                                        clear A320
                                        by_cases c33 : t115 = true
                                        · subst c33
                                          have H1 : ((podestaref15_letter.f (bt a0 (ji27))).bind fun t116 => (if t116 = true then (podestaref15_Scan.l2 k4 a0 x4_1 x5_1 (bt a0 x5_1) (wrap64 (x7_4 + 1))) else (podestaref15_Scan.j5 k4 a0 x4_1 x5_1 x7_4))) = some (r1, r2, r3) := by rw [if_pos rfl] at H; exact H
                                          clear H
                                          have H := H1
                                          clear H1
                                          replace H := Option.bind_eq_some_iff.mp H
                                          obtain ⟨t116, A350, H⟩ := H
                                          replace H : (if t116 = true then (podestaref15_Scan.l2 k4 a0 x4_1 x5_1 (bt a0 x5_1) (wrap64 (x7_4 + 1))) else (podestaref15_Scan.j5 k4 a0 x4_1 x5_1 x7_4)) = some (r1, r2, r3) := H
                                          have A35 := Aside0.mk A350
                                          clear A350
                                          by_cases c36 : t116 = true
                                          · subst c36
                                            have H1 : (podestaref15_Scan.l2 k4 a0 x4_1 x5_1 (bt a0 x5_1) (wrap64 (x7_4 + 1))) = some (r1, r2, r3) := by rw [if_pos rfl] at H; exact H
                                            clear H
                                            have H := H1
                                            clear H1
                                            have H' := Aside0.mk H
                                            clear H
                                            have p29 : 0 ≤ ((ji27) : Int) := of_decide_eq_true (by first | (with_reducible assumption) | assumption)
                                            have q29 : (ji27) < (a0.size : Int) := of_decide_eq_true (by first | (with_reducible assumption) | assumption)
                                            have hx29 := bt_at a0 (ji27)
                                            replace p29 := eq_true p29
                                            replace q29 := eq_true q29
                                            go_wp2_with (first | (go_at_call 53; (with_reducible refine (podestaref15_digit.calls (bt a0 (ji27)) false _ A30.out).mono ?_); rintro e w' ⟨rfl, ⟨nd, rfl⟩⟩; (try first | exact ⟨rfl, _, World.drewN_drewN _ _ _⟩ | exact ⟨rfl, _, Eq.trans (World.drewN_drewN _ _ _) (congrArg (World.drewN _) (Nat.add_assoc _ _ _))⟩)) | (go_at_call 52; (with_reducible refine (podestaref15_letter.calls (bt a0 x5_1) true _ A32.out).mono ?_); rintro e w' ⟨rfl, ⟨nd, rfl⟩⟩; (try first | exact ⟨rfl, _, World.drewN_drewN _ _ _⟩ | exact ⟨rfl, _, Eq.trans (World.drewN_drewN _ _ _) (congrArg (World.drewN _) (Nat.add_assoc _ _ _))⟩); have p34 : 0 ≤ ((ji27) : Int) := of_decide_eq_true (by first | (with_reducible assumption) | assumption); have q34 : (ji27) < (a0.size : Int) := of_decide_eq_true (by first | (with_reducible assumption) | assumption); have hx34 := bt_at a0 (ji27); replace p34 := eq_true p34; replace q34 := eq_true q34) | (go_at_call 52; (with_reducible refine (podestaref15_letter.calls (bt a0 (ji27)) true _ A35.out).mono ?_); rintro e w' ⟨rfl, ⟨nd, rfl⟩⟩; (try first | exact ⟨rfl, _, World.drewN_drewN _ _ _⟩ | exact ⟨rfl, _, Eq.trans (World.drewN_drewN _ _ _) (congrArg (World.drewN _) (Nat.add_assoc _ _ _))⟩)))
                                            repeat (go_quiet (first | (go_at_call 53; (with_reducible refine (podestaref15_digit.calls (bt a0 (ji27)) false _ A30.out).mono ?_); rintro e w' ⟨rfl, ⟨nd, rfl⟩⟩; (try first | exact ⟨rfl, _, World.drewN_drewN _ _ _⟩ | exact ⟨rfl, _, Eq.trans (World.drewN_drewN _ _ _) (congrArg (World.drewN _) (Nat.add_assoc _ _ _))⟩)) | (go_at_call 52; (with_reducible refine (podestaref15_letter.calls (bt a0 x5_1) true _ A32.out).mono ?_); rintro e w' ⟨rfl, ⟨nd, rfl⟩⟩; (try first | exact ⟨rfl, _, World.drewN_drewN _ _ _⟩ | exact ⟨rfl, _, Eq.trans (World.drewN_drewN _ _ _) (congrArg (World.drewN _) (Nat.add_assoc _ _ _))⟩); have p34 : 0 ≤ ((ji27) : Int) := of_decide_eq_true (by first | (with_reducible assumption) | assumption); have q34 : (ji27) < (a0.size : Int) := of_decide_eq_true (by first | (with_reducible assumption) | assumption); have hx34 := bt_at a0 (ji27); replace p34 := eq_true p34; replace q34 := eq_true q34) | (go_at_call 52; (with_reducible refine (podestaref15_letter.calls (bt a0 (ji27)) true _ A35.out).mono ?_); rintro e w' ⟨rfl, ⟨nd, rfl⟩⟩; (try first | exact ⟨rfl, _, World.drewN_drewN _ _ _⟩ | exact ⟨rfl, _, Eq.trans (World.drewN_drewN _ _ _) (congrArg (World.drewN _) (Nat.add_assoc _ _ _))⟩))); try go_wp2_with (first | (go_at_call 53; (with_reducible refine (podestaref15_digit.calls (bt a0 (ji27)) false _ A30.out).mono ?_); rintro e w' ⟨rfl, ⟨nd, rfl⟩⟩; (try first | exact ⟨rfl, _, World.drewN_drewN _ _ _⟩ | exact ⟨rfl, _, Eq.trans (World.drewN_drewN _ _ _) (congrArg (World.drewN _) (Nat.add_assoc _ _ _))⟩)) | (go_at_call 52; (with_reducible refine (podestaref15_letter.calls (bt a0 x5_1) true _ A32.out).mono ?_); rintro e w' ⟨rfl, ⟨nd, rfl⟩⟩; (try first | exact ⟨rfl, _, World.drewN_drewN _ _ _⟩ | exact ⟨rfl, _, Eq.trans (World.drewN_drewN _ _ _) (congrArg (World.drewN _) (Nat.add_assoc _ _ _))⟩); have p34 : 0 ≤ ((ji27) : Int) := of_decide_eq_true (by first | (with_reducible assumption) | assumption); have q34 : (ji27) < (a0.size : Int) := of_decide_eq_true (by first | (with_reducible assumption) | assumption); have hx34 := bt_at a0 (ji27); replace p34 := eq_true p34; replace q34 := eq_true q34) | (go_at_call 52; (with_reducible refine (podestaref15_letter.calls (bt a0 (ji27)) true _ A35.out).mono ?_); rintro e w' ⟨rfl, ⟨nd, rfl⟩⟩; (try first | exact ⟨rfl, _, World.drewN_drewN _ _ _⟩ | exact ⟨rfl, _, Eq.trans (World.drewN_drewN _ _ _) (congrArg (World.drewN _) (Nat.add_assoc _ _ _))⟩))))
                                            go_roundg k4
                                            case measure => have := HK1.out; have := HJ8.out; have := HJ18.out; have := HK4.out; omega
                                            case rel => exact ⟨(wrap64 (x7_4 + 1)), (by first | rfl | (simp; done) | (simp [*]; done)), H', ⟨by have := HK1.out; have := HJ8.out; have := HJ18.out; have := HK4.out; omega⟩, ⟨by (with_reducible repeat (first | apply Kd.R_alloc | apply Kd.R_drewN | apply Kd.R_drew)); exact HO_4.out⟩, ⟨by (with_reducible repeat (first | refine blk_drewN ?_ _ | refine blk_drew ?_ | refine blk_alloc ?_ _)); exact BK111.out⟩, ⟨by repeat (first | (with_reducible first | exact HB.out | apply below_alloc | apply pw_below_drewN | apply below_drew1 | refine below_set ?_ GE111.out) | exact HB.out)⟩⟩
                                          · replace c36 := Bool.eq_false_iff.mpr c36
                                            subst c36
                                            have H1 : (podestaref15_Scan.j5 k4 a0 x4_1 x5_1 x7_4) = some (r1, r2, r3) := by rw [if_neg (show ¬ (false = true) by decide)] at H; exact H
                                            clear H
                                            have H := H1
                                            clear H1
                                            have H' := Aside0.mk H
                                            clear H
                                            have p29 : 0 ≤ ((ji27) : Int) := of_decide_eq_true (by first | (with_reducible assumption) | assumption)
                                            have q29 : (ji27) < (a0.size : Int) := of_decide_eq_true (by first | (with_reducible assumption) | assumption)
                                            have hx29 := bt_at a0 (ji27)
                                            replace p29 := eq_true p29
                                            replace q29 := eq_true q29
                                            go_wp2_with (first | (go_at_call 53; (with_reducible refine (podestaref15_digit.calls (bt a0 (ji27)) false _ A30.out).mono ?_); rintro e w' ⟨rfl, ⟨nd, rfl⟩⟩; (try first | exact ⟨rfl, _, World.drewN_drewN _ _ _⟩ | exact ⟨rfl, _, Eq.trans (World.drewN_drewN _ _ _) (congrArg (World.drewN _) (Nat.add_assoc _ _ _))⟩)) | (go_at_call 52; (with_reducible refine (podestaref15_letter.calls (bt a0 x5_1) true _ A32.out).mono ?_); rintro e w' ⟨rfl, ⟨nd, rfl⟩⟩; (try first | exact ⟨rfl, _, World.drewN_drewN _ _ _⟩ | exact ⟨rfl, _, Eq.trans (World.drewN_drewN _ _ _) (congrArg (World.drewN _) (Nat.add_assoc _ _ _))⟩); have p34 : 0 ≤ ((ji27) : Int) := of_decide_eq_true (by first | (with_reducible assumption) | assumption); have q34 : (ji27) < (a0.size : Int) := of_decide_eq_true (by first | (with_reducible assumption) | assumption); have hx34 := bt_at a0 (ji27); replace p34 := eq_true p34; replace q34 := eq_true q34) | (go_at_call 52; (with_reducible refine (podestaref15_letter.calls (bt a0 (ji27)) false _ A35.out).mono ?_); rintro e w' ⟨rfl, ⟨nd, rfl⟩⟩; (try first | exact ⟨rfl, _, World.drewN_drewN _ _ _⟩ | exact ⟨rfl, _, Eq.trans (World.drewN_drewN _ _ _) (congrArg (World.drewN _) (Nat.add_assoc _ _ _))⟩)))
                                            repeat (go_quiet (first | (go_at_call 53; (with_reducible refine (podestaref15_digit.calls (bt a0 (ji27)) false _ A30.out).mono ?_); rintro e w' ⟨rfl, ⟨nd, rfl⟩⟩; (try first | exact ⟨rfl, _, World.drewN_drewN _ _ _⟩ | exact ⟨rfl, _, Eq.trans (World.drewN_drewN _ _ _) (congrArg (World.drewN _) (Nat.add_assoc _ _ _))⟩)) | (go_at_call 52; (with_reducible refine (podestaref15_letter.calls (bt a0 x5_1) true _ A32.out).mono ?_); rintro e w' ⟨rfl, ⟨nd, rfl⟩⟩; (try first | exact ⟨rfl, _, World.drewN_drewN _ _ _⟩ | exact ⟨rfl, _, Eq.trans (World.drewN_drewN _ _ _) (congrArg (World.drewN _) (Nat.add_assoc _ _ _))⟩); have p34 : 0 ≤ ((ji27) : Int) := of_decide_eq_true (by first | (with_reducible assumption) | assumption); have q34 : (ji27) < (a0.size : Int) := of_decide_eq_true (by first | (with_reducible assumption) | assumption); have hx34 := bt_at a0 (ji27); replace p34 := eq_true p34; replace q34 := eq_true q34) | (go_at_call 52; (with_reducible refine (podestaref15_letter.calls (bt a0 (ji27)) false _ A35.out).mono ?_); rintro e w' ⟨rfl, ⟨nd, rfl⟩⟩; (try first | exact ⟨rfl, _, World.drewN_drewN _ _ _⟩ | exact ⟨rfl, _, Eq.trans (World.drewN_drewN _ _ _) (congrArg (World.drewN _) (Nat.add_assoc _ _ _))⟩))); try go_wp2_with (first | (go_at_call 53; (with_reducible refine (podestaref15_digit.calls (bt a0 (ji27)) false _ A30.out).mono ?_); rintro e w' ⟨rfl, ⟨nd, rfl⟩⟩; (try first | exact ⟨rfl, _, World.drewN_drewN _ _ _⟩ | exact ⟨rfl, _, Eq.trans (World.drewN_drewN _ _ _) (congrArg (World.drewN _) (Nat.add_assoc _ _ _))⟩)) | (go_at_call 52; (with_reducible refine (podestaref15_letter.calls (bt a0 x5_1) true _ A32.out).mono ?_); rintro e w' ⟨rfl, ⟨nd, rfl⟩⟩; (try first | exact ⟨rfl, _, World.drewN_drewN _ _ _⟩ | exact ⟨rfl, _, Eq.trans (World.drewN_drewN _ _ _) (congrArg (World.drewN _) (Nat.add_assoc _ _ _))⟩); have p34 : 0 ≤ ((ji27) : Int) := of_decide_eq_true (by first | (with_reducible assumption) | assumption); have q34 : (ji27) < (a0.size : Int) := of_decide_eq_true (by first | (with_reducible assumption) | assumption); have hx34 := bt_at a0 (ji27); replace p34 := eq_true p34; replace q34 := eq_true q34) | (go_at_call 52; (with_reducible refine (podestaref15_letter.calls (bt a0 (ji27)) false _ A35.out).mono ?_); rintro e w' ⟨rfl, ⟨nd, rfl⟩⟩; (try first | exact ⟨rfl, _, World.drewN_drewN _ _ _⟩ | exact ⟨rfl, _, Eq.trans (World.drewN_drewN _ _ _) (congrArg (World.drewN _) (Nat.add_assoc _ _ _))⟩))))
                                            go_meet
                                            case rel => exact ⟨_, (x7_4), (by first | rfl | (simp; done) | (simp [*]; done)), H', ⟨by have := HK1.out; have := HJ8.out; have := HJ18.out; have := HK4.out; first | omega | exact Nat.le_refl _⟩, ⟨by (with_reducible repeat (first | apply Kd.R_alloc | apply Kd.R_drewN | apply Kd.R_drew)); exact HO_4.out⟩, ⟨by (with_reducible repeat (first | refine blk_drewN ?_ _ | refine blk_drew ?_ | refine blk_alloc ?_ _)); exact BK111.out⟩, ⟨by repeat (first | (with_reducible first | exact HB.out | apply below_alloc | apply pw_below_drewN | apply below_drew1 | refine below_set ?_ GE111.out) | exact HB.out)⟩⟩
                                        · replace c33 := Bool.eq_false_iff.mpr c33
                                          subst c33
                                          have H1 : (podestaref15_Scan.j5 k4 a0 x4_1 x5_1 x7_4) = some (r1, r2, r3) := by rw [if_neg (show ¬ (false = true) by decide)] at H; exact H
                                          clear H
                                          have H := H1
                                          clear H1
                                          have H' := Aside0.mk H
                                          clear H
                                          have p29 : 0 ≤ ((ji27) : Int) := of_decide_eq_true (by first | (with_reducible assumption) | assumption)
                                          have q29 : (ji27) < (a0.size : Int) := of_decide_eq_true (by first | (with_reducible assumption) | assumption)
                                          have hx29 := bt_at a0 (ji27)
                                          replace p29 := eq_true p29
                                          replace q29 := eq_true q29
                                          go_wp2_with (first | (go_at_call 53; (with_reducible refine (podestaref15_digit.calls (bt a0 (ji27)) false _ A30.out).mono ?_); rintro e w' ⟨rfl, ⟨nd, rfl⟩⟩; (try first | exact ⟨rfl, _, World.drewN_drewN _ _ _⟩ | exact ⟨rfl, _, Eq.trans (World.drewN_drewN _ _ _) (congrArg (World.drewN _) (Nat.add_assoc _ _ _))⟩)) | (go_at_call 52; (with_reducible refine (podestaref15_letter.calls (bt a0 x5_1) false _ A32.out).mono ?_); rintro e w' ⟨rfl, ⟨nd, rfl⟩⟩; (try first | exact ⟨rfl, _, World.drewN_drewN _ _ _⟩ | exact ⟨rfl, _, Eq.trans (World.drewN_drewN _ _ _) (congrArg (World.drewN _) (Nat.add_assoc _ _ _))⟩)))
                                          repeat (go_quiet (first | (go_at_call 53; (with_reducible refine (podestaref15_digit.calls (bt a0 (ji27)) false _ A30.out).mono ?_); rintro e w' ⟨rfl, ⟨nd, rfl⟩⟩; (try first | exact ⟨rfl, _, World.drewN_drewN _ _ _⟩ | exact ⟨rfl, _, Eq.trans (World.drewN_drewN _ _ _) (congrArg (World.drewN _) (Nat.add_assoc _ _ _))⟩)) | (go_at_call 52; (with_reducible refine (podestaref15_letter.calls (bt a0 x5_1) false _ A32.out).mono ?_); rintro e w' ⟨rfl, ⟨nd, rfl⟩⟩; (try first | exact ⟨rfl, _, World.drewN_drewN _ _ _⟩ | exact ⟨rfl, _, Eq.trans (World.drewN_drewN _ _ _) (congrArg (World.drewN _) (Nat.add_assoc _ _ _))⟩))); try go_wp2_with (first | (go_at_call 53; (with_reducible refine (podestaref15_digit.calls (bt a0 (ji27)) false _ A30.out).mono ?_); rintro e w' ⟨rfl, ⟨nd, rfl⟩⟩; (try first | exact ⟨rfl, _, World.drewN_drewN _ _ _⟩ | exact ⟨rfl, _, Eq.trans (World.drewN_drewN _ _ _) (congrArg (World.drewN _) (Nat.add_assoc _ _ _))⟩)) | (go_at_call 52; (with_reducible refine (podestaref15_letter.calls (bt a0 x5_1) false _ A32.out).mono ?_); rintro e w' ⟨rfl, ⟨nd, rfl⟩⟩; (try first | exact ⟨rfl, _, World.drewN_drewN _ _ _⟩ | exact ⟨rfl, _, Eq.trans (World.drewN_drewN _ _ _) (congrArg (World.drewN _) (Nat.add_assoc _ _ _))⟩))))
                                          go_meet
                                          case rel => exact ⟨_, (x7_4), (by first | rfl | (simp; done) | (simp [*]; done)), H', ⟨by have := HK1.out; have := HJ8.out; have := HJ18.out; have := HK4.out; first | omega | exact Nat.le_refl _⟩, ⟨by (with_reducible repeat (first | apply Kd.R_alloc | apply Kd.R_drewN | apply Kd.R_drew)); exact HO_4.out⟩, ⟨by (with_reducible repeat (first | refine blk_drewN ?_ _ | refine blk_drew ?_ | refine blk_alloc ?_ _)); exact BK111.out⟩, ⟨by repeat (first | (with_reducible first | exact HB.out | apply below_alloc | apply pw_below_drewN | apply below_drew1 | refine below_set ?_ GE111.out) | exact HB.out)⟩⟩
                                    · rw [if_neg c28] at H
                                      exact absurd H (by simp)
                                  · rw [if_neg c26] at H
                                    have c26b0 : decide ((wrap64 (x5_1 + x7_4)) < (a0.size : Int)) = false := decide_eq_false c26
                                    clear c26
                                    (first | rw [c26b0] | (simp only [i64_w, i32_w]; rw [c26b0]) | skip)
                                    have H' := Aside0.mk H
                                    clear H
                                    go_wp2
                                    repeat (go_quiet (fail); try go_wp2)
                                    go_meet
                                    case rel => exact ⟨_, (x7_4), (by first | rfl | (simp; done) | (simp [*]; done)), H', ⟨by have := HK1.out; have := HJ8.out; have := HJ18.out; have := HK4.out; first | omega | exact Nat.le_refl _⟩, ⟨by (with_reducible repeat (first | apply Kd.R_alloc | apply Kd.R_drewN | apply Kd.R_drew)); exact HO_4.out⟩, ⟨by (with_reducible repeat (first | refine blk_drewN ?_ _ | refine blk_drew ?_ | refine blk_alloc ?_ _)); exact BK111.out⟩, ⟨by repeat (first | (with_reducible first | exact HB.out | apply below_alloc | apply pw_below_drewN | apply below_drew1 | refine below_set ?_ GE111.out) | exact HB.out)⟩⟩
                            case rest =>
                              clear HC25
                              try clear c1
                              try clear p1
                              try clear q1
                              try clear hx1
                              try clear c2
                              try clear c2b0
                              try clear c2b1
                              try clear p2
                              try clear q2
                              try clear hx2
                              try clear c3
                              try clear p3
                              try clear q3
                              try clear hx3
                              try clear c6
                              try clear c6b0
                              try clear p6
                              try clear c7
                              try clear c7b0
                              try clear p8
                              try clear q8
                              try clear hx8
                              try clear c10
                              try clear c10b0
                              try clear c10b1
                              try clear c11
                              try clear c11b0
                              try clear c11b1
                              try clear c12
                              try clear c12b0
                              try clear c12b1
                              try clear c13
                              try clear c14
                              try clear c14b0
                              try clear c14b1
                              try clear c15
                              try clear c15b0
                              try clear c16
                              try clear c16b0
                              try clear p17
                              try clear q17
                              try clear hx17
                              try clear c18
                              try clear c18b0
                              try clear c18b1
                              try clear c21
                              try clear c24
                              try clear c26
                              try clear c26b0
                              try clear c28
                              try clear c28b0
                              try clear p29
                              try clear q29
                              try clear hx29
                              try clear c31
                              try clear c33
                              try clear p34
                              try clear q34
                              try clear hx34
                              try clear c36
                              try clear hcz4_0
                              try clear hcz4_1
                              try clear hfz4_0
                              try clear hfz4_1
                              try clear p1
                              try clear p17
                              try clear p2
                              try clear p29
                              try clear p34
                              try clear p6
                              try clear p8
                              try clear q1
                              try clear q17
                              try clear q29
                              try clear q34
                              try clear q8
                              obtain ⟨kq, x7_24, rfl, HA, HJ24, HO_4, BK111, HB⟩ := hcut
                              cases kq with
                              | zero => exact absurd HA.out (by simp [podestaref15_Scan.j5])
                              | succ kj24 =>
                                have H := HA.out
                                clear HA
                                simp only [podestaref15_Scan.j5] at H
                                by_cases c37 : 0 ≤ x5_1
                                · rw [if_pos c37] at H
                                  have c37b0 := eq_true c37
                                  have c37b1 : decide (0 ≤ x5_1) = true := decide_eq_true c37
                                  clear c37
                                  by_cases c38 : x5_1 ≤ (wrap64 (x5_1 + x7_24))
                                  · rw [if_pos c38] at H
                                    have c38b0 := eq_true c38
                                    have c38b1 : decide (x5_1 ≤ (wrap64 (x5_1 + x7_24))) = true := decide_eq_true c38
                                    by_cases c39 : (wrap64 (x5_1 + x7_24)) ≤ (a0.size : Int)
                                    · rw [if_pos c39] at H
                                      have c39b0 := eq_true c39
                                      have c39b1 : decide ((wrap64 (x5_1 + x7_24)) ≤ (a0.size : Int)) = true := decide_eq_true c39
                                      replace H := Option.bind_eq_some_iff.mp H
                                      obtain ⟨t117, A400, H⟩ := H
                                      replace H : (if t117 = true then (podestaref15_Scan.j6 kj24 a0 x4_1 x5_1 x7_24) else ((podestaref15_Digits.f kj24 (a0.extract (x5_1 : Int).toNat ((wrap64 (x5_1 + x7_24)) : Int).toNat)).bind fun t118 => (if t118 = true then (podestaref15_Scan.j6 kj24 a0 x4_1 x5_1 x7_24) else (some (([] : List (S112)), 15, x5_1))))) = some (r1, r2, r3) := H
                                      have A40 := Aside0.mk A400
                                      clear A400
                                      by_cases c41 : t117 = true
                                      · subst c41
                                        have H1 : (podestaref15_Scan.j6 kj24 a0 x4_1 x5_1 x7_24) = some (r1, r2, r3) := by rw [if_pos rfl] at H; exact H
                                        clear H
                                        have H := H1
                                        clear H1
                                        have H' := Aside0.mk H
                                        clear H
                                        go_wp2_with (first | (go_at_call 54; (with_reducible refine (podestaref15_Word.calls kj24 (a0.extract (x5_1 : Int).toNat ((wrap64 (x5_1 + x7_24)) : Int).toNat) true _ A40.out).mono ?_); rintro e w' ⟨rfl, ⟨nd, rfl⟩⟩; (try first | exact ⟨rfl, _, World.drewN_drewN _ _ _⟩ | exact ⟨rfl, _, Eq.trans (World.drewN_drewN _ _ _) (congrArg (World.drewN _) (Nat.add_assoc _ _ _))⟩)))
                                        repeat (go_quiet (first | (go_at_call 54; (with_reducible refine (podestaref15_Word.calls kj24 (a0.extract (x5_1 : Int).toNat ((wrap64 (x5_1 + x7_24)) : Int).toNat) true _ A40.out).mono ?_); rintro e w' ⟨rfl, ⟨nd, rfl⟩⟩; (try first | exact ⟨rfl, _, World.drewN_drewN _ _ _⟩ | exact ⟨rfl, _, Eq.trans (World.drewN_drewN _ _ _) (congrArg (World.drewN _) (Nat.add_assoc _ _ _))⟩))); try go_wp2_with (first | (go_at_call 54; (with_reducible refine (podestaref15_Word.calls kj24 (a0.extract (x5_1 : Int).toNat ((wrap64 (x5_1 + x7_24)) : Int).toNat) true _ A40.out).mono ?_); rintro e w' ⟨rfl, ⟨nd, rfl⟩⟩; (try first | exact ⟨rfl, _, World.drewN_drewN _ _ _⟩ | exact ⟨rfl, _, Eq.trans (World.drewN_drewN _ _ _) (congrArg (World.drewN _) (Nat.add_assoc _ _ _))⟩))))
                                        go_meet
                                        case rel => exact ⟨_, (x7_24), (x112000_1), (x112001_1), (by first | rfl | (simp; done) | (simp [*]; done)), H', ⟨by have := HK1.out; have := HJ8.out; have := HJ18.out; have := HJ24.out; first | omega | exact Nat.le_refl _⟩, ⟨by (with_reducible repeat (first | apply Kd.R_alloc | apply Kd.R_drewN | apply Kd.R_drew)); exact HO_4.out⟩, ⟨by (with_reducible repeat (first | refine blk_drewN ?_ _ | refine blk_drew ?_ | refine blk_alloc ?_ _)); exact BK111.out⟩, ⟨by repeat (first | (with_reducible first | exact HB.out | apply below_alloc | apply pw_below_drewN | apply below_drew1 | refine below_set ?_ GE111.out) | exact HB.out)⟩⟩
                                      · replace c41 := Bool.eq_false_iff.mpr c41
                                        subst c41
                                        have H1 : ((podestaref15_Digits.f kj24 (a0.extract (x5_1 : Int).toNat ((wrap64 (x5_1 + x7_24)) : Int).toNat)).bind fun t118 => (if t118 = true then (podestaref15_Scan.j6 kj24 a0 x4_1 x5_1 x7_24) else (some (([] : List (S112)), 15, x5_1)))) = some (r1, r2, r3) := by rw [if_neg (show ¬ (false = true) by decide)] at H; exact H
                                        clear H
                                        have H := H1
                                        clear H1
                                        replace H := Option.bind_eq_some_iff.mp H
                                        obtain ⟨t118, A420, H⟩ := H
                                        replace H : (if t118 = true then (podestaref15_Scan.j6 kj24 a0 x4_1 x5_1 x7_24) else (some (([] : List (S112)), 15, x5_1))) = some (r1, r2, r3) := H
                                        have A42 := Aside0.mk A420
                                        clear A420
                                        by_cases c43 : t118 = true
                                        · subst c43
                                          have H1 : (podestaref15_Scan.j6 kj24 a0 x4_1 x5_1 x7_24) = some (r1, r2, r3) := by rw [if_pos rfl] at H; exact H
                                          clear H
                                          have H := H1
                                          clear H1
                                          have H' := Aside0.mk H
                                          clear H
                                          go_wp2_with (first | (go_at_call 54; (with_reducible refine (podestaref15_Word.calls kj24 (a0.extract (x5_1 : Int).toNat ((wrap64 (x5_1 + x7_24)) : Int).toNat) false _ A40.out).mono ?_); rintro e w' ⟨rfl, ⟨nd, rfl⟩⟩; (try first | exact ⟨rfl, _, World.drewN_drewN _ _ _⟩ | exact ⟨rfl, _, Eq.trans (World.drewN_drewN _ _ _) (congrArg (World.drewN _) (Nat.add_assoc _ _ _))⟩)) | (go_at_call 55; (with_reducible refine (podestaref15_Digits.calls kj24 (a0.extract (x5_1 : Int).toNat ((wrap64 (x5_1 + x7_24)) : Int).toNat) true _ A42.out).mono ?_); rintro e w' ⟨rfl, ⟨nd, rfl⟩⟩; (try first | exact ⟨rfl, _, World.drewN_drewN _ _ _⟩ | exact ⟨rfl, _, Eq.trans (World.drewN_drewN _ _ _) (congrArg (World.drewN _) (Nat.add_assoc _ _ _))⟩)))
                                          repeat (go_quiet (first | (go_at_call 54; (with_reducible refine (podestaref15_Word.calls kj24 (a0.extract (x5_1 : Int).toNat ((wrap64 (x5_1 + x7_24)) : Int).toNat) false _ A40.out).mono ?_); rintro e w' ⟨rfl, ⟨nd, rfl⟩⟩; (try first | exact ⟨rfl, _, World.drewN_drewN _ _ _⟩ | exact ⟨rfl, _, Eq.trans (World.drewN_drewN _ _ _) (congrArg (World.drewN _) (Nat.add_assoc _ _ _))⟩)) | (go_at_call 55; (with_reducible refine (podestaref15_Digits.calls kj24 (a0.extract (x5_1 : Int).toNat ((wrap64 (x5_1 + x7_24)) : Int).toNat) true _ A42.out).mono ?_); rintro e w' ⟨rfl, ⟨nd, rfl⟩⟩; (try first | exact ⟨rfl, _, World.drewN_drewN _ _ _⟩ | exact ⟨rfl, _, Eq.trans (World.drewN_drewN _ _ _) (congrArg (World.drewN _) (Nat.add_assoc _ _ _))⟩))); try go_wp2_with (first | (go_at_call 54; (with_reducible refine (podestaref15_Word.calls kj24 (a0.extract (x5_1 : Int).toNat ((wrap64 (x5_1 + x7_24)) : Int).toNat) false _ A40.out).mono ?_); rintro e w' ⟨rfl, ⟨nd, rfl⟩⟩; (try first | exact ⟨rfl, _, World.drewN_drewN _ _ _⟩ | exact ⟨rfl, _, Eq.trans (World.drewN_drewN _ _ _) (congrArg (World.drewN _) (Nat.add_assoc _ _ _))⟩)) | (go_at_call 55; (with_reducible refine (podestaref15_Digits.calls kj24 (a0.extract (x5_1 : Int).toNat ((wrap64 (x5_1 + x7_24)) : Int).toNat) true _ A42.out).mono ?_); rintro e w' ⟨rfl, ⟨nd, rfl⟩⟩; (try first | exact ⟨rfl, _, World.drewN_drewN _ _ _⟩ | exact ⟨rfl, _, Eq.trans (World.drewN_drewN _ _ _) (congrArg (World.drewN _) (Nat.add_assoc _ _ _))⟩))))
                                          go_meet
                                          case rel => exact ⟨_, (x7_24), (x112000_1), (x112001_1), (by first | rfl | (simp; done) | (simp [*]; done)), H', ⟨by have := HK1.out; have := HJ8.out; have := HJ18.out; have := HJ24.out; first | omega | exact Nat.le_refl _⟩, ⟨by (with_reducible repeat (first | apply Kd.R_alloc | apply Kd.R_drewN | apply Kd.R_drew)); exact HO_4.out⟩, ⟨by (with_reducible repeat (first | refine blk_drewN ?_ _ | refine blk_drew ?_ | refine blk_alloc ?_ _)); exact BK111.out⟩, ⟨by repeat (first | (with_reducible first | exact HB.out | apply below_alloc | apply pw_below_drewN | apply below_drew1 | refine below_set ?_ GE111.out) | exact HB.out)⟩⟩
                                        · replace c43 := Bool.eq_false_iff.mpr c43
                                          subst c43
                                          have H1 : (some (([] : List (S112)), 15, x5_1)) = some (r1, r2, r3) := by rw [if_neg (show ¬ (false = true) by decide)] at H; exact H
                                          clear H
                                          have H := H1
                                          clear H1
                                          simp only [Option.some.injEq, Prod.mk.injEq] at H
                                          obtain ⟨rfl, rfl, rfl⟩ := H
                                          go_wp2_with (first | (go_at_call 54; (with_reducible refine (podestaref15_Word.calls kj24 (a0.extract (x5_1 : Int).toNat ((wrap64 (x5_1 + x7_24)) : Int).toNat) false _ A40.out).mono ?_); rintro e w' ⟨rfl, ⟨nd, rfl⟩⟩; (try first | exact ⟨rfl, _, World.drewN_drewN _ _ _⟩ | exact ⟨rfl, _, Eq.trans (World.drewN_drewN _ _ _) (congrArg (World.drewN _) (Nat.add_assoc _ _ _))⟩)) | (go_at_call 55; (with_reducible refine (podestaref15_Digits.calls kj24 (a0.extract (x5_1 : Int).toNat ((wrap64 (x5_1 + x7_24)) : Int).toNat) false _ A42.out).mono ?_); rintro e w' ⟨rfl, ⟨nd, rfl⟩⟩; (try first | exact ⟨rfl, _, World.drewN_drewN _ _ _⟩ | exact ⟨rfl, _, Eq.trans (World.drewN_drewN _ _ _) (congrArg (World.drewN _) (Nat.add_assoc _ _ _))⟩); have hcz44_0 : wc.cell? ⟨gb111, 0, none⟩ = some (.int .i64 x112000_1) := (blk_cell BK111.out 0).trans rfl; have hcz44_1 : wc.cell? ⟨gb111, 1, none⟩ = some (.int .i64 x112001_1) := (blk_cell BK111.out 1).trans rfl; have hfz44_0 := blk_frozen BK111.out 0; have hfz44_1 := blk_frozen BK111.out 1))
                                          repeat (go_quiet (first | (go_at_call 54; (with_reducible refine (podestaref15_Word.calls kj24 (a0.extract (x5_1 : Int).toNat ((wrap64 (x5_1 + x7_24)) : Int).toNat) false _ A40.out).mono ?_); rintro e w' ⟨rfl, ⟨nd, rfl⟩⟩; (try first | exact ⟨rfl, _, World.drewN_drewN _ _ _⟩ | exact ⟨rfl, _, Eq.trans (World.drewN_drewN _ _ _) (congrArg (World.drewN _) (Nat.add_assoc _ _ _))⟩)) | (go_at_call 55; (with_reducible refine (podestaref15_Digits.calls kj24 (a0.extract (x5_1 : Int).toNat ((wrap64 (x5_1 + x7_24)) : Int).toNat) false _ A42.out).mono ?_); rintro e w' ⟨rfl, ⟨nd, rfl⟩⟩; (try first | exact ⟨rfl, _, World.drewN_drewN _ _ _⟩ | exact ⟨rfl, _, Eq.trans (World.drewN_drewN _ _ _) (congrArg (World.drewN _) (Nat.add_assoc _ _ _))⟩); have hcz44_0 : wc.cell? ⟨gb111, 0, none⟩ = some (.int .i64 x112000_1) := (blk_cell BK111.out 0).trans rfl; have hcz44_1 : wc.cell? ⟨gb111, 1, none⟩ = some (.int .i64 x112001_1) := (blk_cell BK111.out 1).trans rfl; have hfz44_0 := blk_frozen BK111.out 0; have hfz44_1 := blk_frozen BK111.out 1)); try go_wp2_with (first | (go_at_call 54; (with_reducible refine (podestaref15_Word.calls kj24 (a0.extract (x5_1 : Int).toNat ((wrap64 (x5_1 + x7_24)) : Int).toNat) false _ A40.out).mono ?_); rintro e w' ⟨rfl, ⟨nd, rfl⟩⟩; (try first | exact ⟨rfl, _, World.drewN_drewN _ _ _⟩ | exact ⟨rfl, _, Eq.trans (World.drewN_drewN _ _ _) (congrArg (World.drewN _) (Nat.add_assoc _ _ _))⟩)) | (go_at_call 55; (with_reducible refine (podestaref15_Digits.calls kj24 (a0.extract (x5_1 : Int).toNat ((wrap64 (x5_1 + x7_24)) : Int).toNat) false _ A42.out).mono ?_); rintro e w' ⟨rfl, ⟨nd, rfl⟩⟩; (try first | exact ⟨rfl, _, World.drewN_drewN _ _ _⟩ | exact ⟨rfl, _, Eq.trans (World.drewN_drewN _ _ _) (congrArg (World.drewN _) (Nat.add_assoc _ _ _))⟩); have hcz44_0 : wc.cell? ⟨gb111, 0, none⟩ = some (.int .i64 x112000_1) := (blk_cell BK111.out 0).trans rfl; have hcz44_1 : wc.cell? ⟨gb111, 1, none⟩ = some (.int .i64 x112001_1) := (blk_cell BK111.out 1).trans rfl; have hfz44_0 := blk_frozen BK111.out 0; have hfz44_1 := blk_frozen BK111.out 1)))
                                          refine bodyPost_ret (results_tc rfl _ _ gb111 32 #[.int .i64 15, .int .i64 x5_1] (0, 0) _ rfl (by (with_reducible repeat (first | refine blk_drewN ?_ _ | refine blk_drew ?_ | refine blk_alloc ?_ _)); refine blk_put (cs := #[.int .i64 15, .int .i64 x112001_1]) ?_ 1 _ rfl; (with_reducible repeat (first | refine blk_drewN ?_ _ | refine blk_drew ?_ | refine blk_alloc ?_ _)); refine blk_put (cs := #[.int .i64 x112000_1, .int .i64 x112001_1]) ?_ 0 _ rfl; (with_reducible repeat (first | refine blk_drewN ?_ _ | refine blk_drew ?_ | refine blk_alloc ?_ _)); exact BK111.out) Try.underlying32 rfl (by kernel_rfl)) rfl ?_
                                          exact ⟨_, by first | rfl | (simp [errW_none, errW_some] <;> rfl) | (simp [*, errW_none, errW_some] <;> rfl), by first | exact Kd.R_nil _ _ _ _ _ | exact Kd.N_nil _ _ _ _ _ | exact Kd.V_nil _ _ _ _ _ | exact Kd.Q_nil _ _ _ _ _ | exact Kd.S_nil _ _ _ _ _, by repeat (first | (with_reducible first | exact HB.out | apply below_alloc | apply pw_below_drewN | apply below_drew1 | refine below_set ?_ GE111.out) | exact HB.out)⟩
                                    · rw [if_neg c39] at H
                                      exact absurd H (by simp)
                                  · rw [if_neg c38] at H
                                    exact absurd H (by simp)
                                · rw [if_neg c37] at H
                                  exact absurd H (by simp)
                          · replace c24 := Bool.eq_false_iff.mpr c24
                            subst c24
                            have H1 : (podestaref15_Scan.j6 kj18 a0 x4_1 x5_1 0) = some (r1, r2, r3) := by rw [if_neg (show ¬ (false = true) by decide)] at H; exact H
                            clear H
                            have H := H1
                            clear H1
                            have H' := Aside0.mk H
                            clear H
                            go_wp2
                            repeat (go_quiet (fail); try go_wp2)
                            go_meet
                            case rel => exact ⟨_, (0), (x112000_1), (x112001_1), (by first | rfl | (simp; done) | (simp [*]; done)), H', ⟨by have := HK1.out; have := HJ8.out; have := HJ18.out; first | omega | exact Nat.le_refl _⟩, ⟨by (with_reducible repeat (first | apply Kd.R_alloc | apply Kd.R_drewN | apply Kd.R_drew)); exact HO_4.out⟩, ⟨by (with_reducible repeat (first | refine blk_drewN ?_ _ | refine blk_drew ?_ | refine blk_alloc ?_ _)); exact BK111.out⟩, ⟨by repeat (first | (with_reducible first | exact HB.out | apply below_alloc | apply pw_below_drewN | apply below_drew1 | refine below_set ?_ GE111.out) | exact HB.out)⟩⟩
                        case rest =>
                          clear HC23
                          try clear c1
                          try clear p1
                          try clear q1
                          try clear hx1
                          try clear c2
                          try clear c2b0
                          try clear c2b1
                          try clear p2
                          try clear q2
                          try clear hx2
                          try clear c3
                          try clear p3
                          try clear q3
                          try clear hx3
                          try clear c4
                          try clear c6
                          try clear c6b0
                          try clear p6
                          try clear c7
                          try clear c7b0
                          try clear p8
                          try clear q8
                          try clear hx8
                          try clear c10
                          try clear c10b0
                          try clear c10b1
                          try clear c11
                          try clear c11b0
                          try clear c11b1
                          try clear c12
                          try clear c12b0
                          try clear c12b1
                          try clear c13
                          try clear c14
                          try clear c14b0
                          try clear c14b1
                          try clear c15
                          try clear c15b0
                          try clear c16
                          try clear c16b0
                          try clear p17
                          try clear q17
                          try clear hx17
                          try clear c18
                          try clear c18b0
                          try clear c18b1
                          try clear c21
                          try clear c24
                          try clear c26
                          try clear c26b0
                          try clear c28
                          try clear c28b0
                          try clear p29
                          try clear q29
                          try clear hx29
                          try clear c31
                          try clear c33
                          try clear p34
                          try clear q34
                          try clear hx34
                          try clear c36
                          try clear c37
                          try clear c37b0
                          try clear c37b1
                          try clear c38
                          try clear c38b0
                          try clear c38b1
                          try clear c39
                          try clear c39b0
                          try clear c39b1
                          try clear c41
                          try clear c43
                          try clear hcz44_0
                          try clear hcz44_1
                          try clear hcz4_0
                          try clear hcz4_1
                          try clear hfz44_0
                          try clear hfz44_1
                          try clear hfz4_0
                          try clear hfz4_1
                          try clear p1
                          try clear p17
                          try clear p2
                          try clear p29
                          try clear p3
                          try clear p34
                          try clear p6
                          try clear p8
                          try clear q1
                          try clear q17
                          try clear q2
                          try clear q29
                          try clear q3
                          try clear q34
                          try clear q8
                          obtain ⟨kq, x7_22, x112000_22, x112001_22, rfl, HA, HJ22, HO_4, BK111, HB⟩ := hcut
                          cases kq with
                          | zero => exact absurd HA.out (by simp [podestaref15_Scan.j6])
                          | succ kj22 =>
                            have H := HA.out
                            clear HA
                            simp only [podestaref15_Scan.j6] at H
                            replace H := Option.bind_eq_some_iff.mp H
                            obtain ⟨t119, A450, H⟩ := H
                            replace H : (podestaref15_Scan.l3 kj22 a0 x4_1 x5_1 x7_22 t119 0) = some (r1, r2, r3) := H
                            have A45 := Aside0.mk A450
                            clear A450
                            have H' := Aside0.mk H
                            clear H
                            go_wp2_with (first | (go_at_call 56; (with_reducible refine (podestaref15_signs.calls  t119 _ A45.out).mono ?_); rintro e w46 ⟨v120, rfl, ho0, hb⟩; have n0_ := Aside0.mk (Kd.R_below (by (with_reducible repeat (first | apply Kd.R_alloc | apply Kd.R_drewN | apply Kd.R_drew)); exact HO_4.out) hb); have n1_ := Aside0.mk (Kd.R_lower ho0 (below_size (by repeat (first | (with_reducible first | exact HB.out | apply below_alloc | apply pw_below_drewN | apply below_drew1 | refine below_set ?_ GE111.out) | exact HB.out)))); have n2_ := Aside0.mk (blk_below (g := gb111) (o := .cells #[.int .i64 x112000_22, .int .i64 x112001_22] 32 (0, 0)) (by (with_reducible repeat (first | refine blk_drewN ?_ _ | refine blk_drew ?_ | refine blk_alloc ?_ _)); exact BK111.out) hb); have n3_ := Aside0.mk (below_step (by repeat (first | (with_reducible first | exact HB.out | apply below_alloc | apply pw_below_drewN | apply below_drew1 | refine below_set ?_ GE111.out) | exact HB.out)) hb); clear HO_4; clear BK111; clear HB; have HO_4 := n0_; have HO121 := n1_; have BK111 := n2_; have HB := n3_; clear n0_ n1_ n2_ n3_; (try clear hb); (try clear hb2); (try clear hk); (try clear hi); (try clear ho0)))
                            repeat (go_quiet (first | (go_at_call 56; (with_reducible refine (podestaref15_signs.calls  t119 _ A45.out).mono ?_); rintro e w46 ⟨v120, rfl, ho0, hb⟩; have n0_ := Aside0.mk (Kd.R_below (by (with_reducible repeat (first | apply Kd.R_alloc | apply Kd.R_drewN | apply Kd.R_drew)); exact HO_4.out) hb); have n1_ := Aside0.mk (Kd.R_lower ho0 (below_size (by repeat (first | (with_reducible first | exact HB.out | apply below_alloc | apply pw_below_drewN | apply below_drew1 | refine below_set ?_ GE111.out) | exact HB.out)))); have n2_ := Aside0.mk (blk_below (g := gb111) (o := .cells #[.int .i64 x112000_22, .int .i64 x112001_22] 32 (0, 0)) (by (with_reducible repeat (first | refine blk_drewN ?_ _ | refine blk_drew ?_ | refine blk_alloc ?_ _)); exact BK111.out) hb); have n3_ := Aside0.mk (below_step (by repeat (first | (with_reducible first | exact HB.out | apply below_alloc | apply pw_below_drewN | apply below_drew1 | refine below_set ?_ GE111.out) | exact HB.out)) hb); clear HO_4; clear BK111; clear HB; have HO_4 := n0_; have HO121 := n1_; have BK111 := n2_; have HB := n3_; clear n0_ n1_ n2_ n3_; (try clear hb); (try clear hb2); (try clear hk); (try clear hi); (try clear ho0))); try go_wp2_with (first | (go_at_call 56; (with_reducible refine (podestaref15_signs.calls  t119 _ A45.out).mono ?_); rintro e w46 ⟨v120, rfl, ho0, hb⟩; have n0_ := Aside0.mk (Kd.R_below (by (with_reducible repeat (first | apply Kd.R_alloc | apply Kd.R_drewN | apply Kd.R_drew)); exact HO_4.out) hb); have n1_ := Aside0.mk (Kd.R_lower ho0 (below_size (by repeat (first | (with_reducible first | exact HB.out | apply below_alloc | apply pw_below_drewN | apply below_drew1 | refine below_set ?_ GE111.out) | exact HB.out)))); have n2_ := Aside0.mk (blk_below (g := gb111) (o := .cells #[.int .i64 x112000_22, .int .i64 x112001_22] 32 (0, 0)) (by (with_reducible repeat (first | refine blk_drewN ?_ _ | refine blk_drew ?_ | refine blk_alloc ?_ _)); exact BK111.out) hb); have n3_ := Aside0.mk (below_step (by repeat (first | (with_reducible first | exact HB.out | apply below_alloc | apply pw_below_drewN | apply below_drew1 | refine below_set ?_ GE111.out) | exact HB.out)) hb); clear HO_4; clear BK111; clear HB; have HO_4 := n0_; have HO121 := n1_; have BK111 := n2_; have HB := n3_; clear n0_ n1_ n2_ n3_; (try clear hb); (try clear hb2); (try clear hk); (try clear hi); (try clear ho0))))
                            go_loopg [7, 10] kj22 (fun kq v7 v10 w' => ∃ (x7_5 : Int) (x10_5 : Int), v7 = .int .i64 x7_5 ∧ v10 = .int .i64 x10_5 ∧ Aside0 (podestaref15_Scan.l3 kq a0 x4_1 x5_1 x7_5 t119 x10_5 = some (r1, r2, r3)) ∧ Aside0 (kq ≤ kj22) ∧ Aside0 (Kd.R k112 112 w' w.heap.size (fun _ => True) u4 x4_1) ∧ Aside0 (Kd.R Kd.string 9 w' w.heap.size (fun _ => True) v120 t119) ∧ Aside0 (w'.heap[gb111]? = some (.cells #[.int .i64 x112000_22, .int .i64 x112001_22] 32 (0, 0))) ∧ Aside0 (Below w.heap.size w w'))
                            case atStart => exact ⟨(x7_22), (0), (by first | rfl | (simp; done) | (simp [*]; done)), (by first | rfl | (simp; done) | (simp [*]; done)), H', ⟨Nat.le_refl _⟩, ⟨by (with_reducible repeat (first | apply Kd.R_alloc | apply Kd.R_drewN | apply Kd.R_drew)); exact HO_4.out⟩, ⟨by (with_reducible repeat (first | apply Kd.R_alloc | apply Kd.R_drewN | apply Kd.R_drew)); exact HO121.out⟩, ⟨by (with_reducible repeat (first | refine blk_drewN ?_ _ | refine blk_drew ?_ | refine blk_alloc ?_ _)); exact BK111.out⟩, ⟨by repeat (first | (with_reducible first | exact HB.out | apply below_alloc | apply pw_below_drewN | apply below_drew1 | refine below_set ?_ GE111.out) | exact HB.out)⟩⟩
                            case round =>
                              clear H'
                              try clear c1
                              try clear p1
                              try clear q1
                              try clear hx1
                              try clear c2
                              try clear c2b0
                              try clear c2b1
                              try clear p2
                              try clear q2
                              try clear hx2
                              try clear c3
                              try clear p3
                              try clear q3
                              try clear hx3
                              try clear c4
                              try clear c6
                              try clear c6b0
                              try clear p6
                              try clear c7
                              try clear c7b0
                              try clear p8
                              try clear q8
                              try clear hx8
                              try clear c10
                              try clear c10b0
                              try clear c10b1
                              try clear c11
                              try clear c11b0
                              try clear c11b1
                              try clear c12
                              try clear c12b0
                              try clear c12b1
                              try clear c13
                              try clear c14
                              try clear c14b0
                              try clear c14b1
                              try clear c15
                              try clear c15b0
                              try clear c16
                              try clear c16b0
                              try clear p17
                              try clear q17
                              try clear hx17
                              try clear c18
                              try clear c18b0
                              try clear c18b1
                              try clear c21
                              try clear c24
                              try clear c26
                              try clear c26b0
                              try clear c28
                              try clear c28b0
                              try clear p29
                              try clear q29
                              try clear hx29
                              try clear c31
                              try clear c33
                              try clear p34
                              try clear q34
                              try clear hx34
                              try clear c36
                              try clear c37
                              try clear c37b0
                              try clear c37b1
                              try clear c38
                              try clear c38b0
                              try clear c38b1
                              try clear c39
                              try clear c39b0
                              try clear c39b1
                              try clear c41
                              try clear c43
                              try clear hcz44_0
                              try clear hcz44_1
                              try clear hcz4_0
                              try clear hcz4_1
                              try clear hfz44_0
                              try clear hfz44_1
                              try clear hfz4_0
                              try clear hfz4_1
                              try clear p1
                              try clear p17
                              try clear p2
                              try clear p29
                              try clear p3
                              try clear p34
                              try clear p6
                              try clear p8
                              try clear q1
                              try clear q17
                              try clear q2
                              try clear q29
                              try clear q3
                              try clear q34
                              try clear q8
                              obtain ⟨x7_5, x10_5, rfl, rfl, HA, HK5, HO_4, HO_9, BK111, HB⟩ := hrel
                              cases gk with
                              | zero => exact absurd HA.out (by simp [podestaref15_Scan.l3])
                              | succ k5 =>
                                have H := HA.out
                                clear HA
                                simp only [podestaref15_Scan.l3] at H
                                have HC47 := Aside0.mk H
                                clear H
                                go_upto_region 21 with (fail)
                                repeat (go_quiet (fail); go_upto_region 21 with (fail))
                                go_cut [110] (fun v110 wc => ∃ (kq : Nat) (x110_46 : Bool), v110 = .bool x110_46 ∧ Aside0 (podestaref15_Scan.j8 kq a0 x4_1 x5_1 x7_5 t119 x10_5 x110_46 = some (r1, r2, r3)) ∧ Aside0 (kq ≤ k5) ∧ Aside0 (Kd.R k112 112 wc w.heap.size (fun _ => True) u4 x4_1) ∧ Aside0 (Kd.R Kd.string 9 wc w.heap.size (fun _ => True) v120 t119) ∧ Aside0 (wc.heap[gb111]? = some (.cells #[.int .i64 x112000_22, .int .i64 x112001_22] 32 (0, 0))) ∧ Aside0 (Below w.heap.size w wc))
                                case first =>
                                  have H := HC47.out
                                  clear HC47
                                  by_cases c48 : x10_5 < (t119.length : Int)
                                  · rw [if_pos c48] at H
                                    have c48b0 : decide (x10_5 < (t119.length : Int)) = true := decide_eq_true c48
                                    clear c48
                                    (first | rw [c48b0] | (simp only [i64_w, i32_w]; rw [c48b0]) | skip)
                                    have H' := Aside0.mk H
                                    clear H
                                    obtain ⟨Ao49, co49, eo49⟩ := Kd.R_slice HO_9.out
                                    subst eo49
                                    go_wp2
                                    repeat (go_quiet (fail); try go_wp2)
                                    go_meet
                                    case rel => exact ⟨_, ((x7_5 == 0)), (by first | rfl | (simp; done) | (simp [*]; done)), H', ⟨by have := HK1.out; have := HJ8.out; have := HJ18.out; have := HJ22.out; have := HK5.out; first | omega | exact Nat.le_refl _⟩, ⟨by (with_reducible repeat (first | apply Kd.R_alloc | apply Kd.R_drewN | apply Kd.R_drew)); exact HO_4.out⟩, ⟨by (with_reducible repeat (first | apply Kd.R_alloc | apply Kd.R_drewN | apply Kd.R_drew)); exact HO_9.out⟩, ⟨by (with_reducible repeat (first | refine blk_drewN ?_ _ | refine blk_drew ?_ | refine blk_alloc ?_ _)); exact BK111.out⟩, ⟨by repeat (first | (with_reducible first | exact HB.out | apply below_alloc | apply pw_below_drewN | apply below_drew1 | refine below_set ?_ GE111.out) | exact HB.out)⟩⟩
                                  · rw [if_neg c48] at H
                                    have c48b0 : decide (x10_5 < (t119.length : Int)) = false := decide_eq_false c48
                                    clear c48
                                    (first | rw [c48b0] | (simp only [i64_w, i32_w]; rw [c48b0]) | skip)
                                    have H' := Aside0.mk H
                                    clear H
                                    obtain ⟨Ao50, co50, eo50⟩ := Kd.R_slice HO_9.out
                                    subst eo50
                                    go_wp2
                                    repeat (go_quiet (fail); try go_wp2)
                                    go_meet
                                    case rel => exact ⟨_, (false), (by first | rfl | (simp; done) | (simp [*]; done)), H', ⟨by have := HK1.out; have := HJ8.out; have := HJ18.out; have := HJ22.out; have := HK5.out; first | omega | exact Nat.le_refl _⟩, ⟨by (with_reducible repeat (first | apply Kd.R_alloc | apply Kd.R_drewN | apply Kd.R_drew)); exact HO_4.out⟩, ⟨by (with_reducible repeat (first | apply Kd.R_alloc | apply Kd.R_drewN | apply Kd.R_drew)); exact HO_9.out⟩, ⟨by (with_reducible repeat (first | refine blk_drewN ?_ _ | refine blk_drew ?_ | refine blk_alloc ?_ _)); exact BK111.out⟩, ⟨by repeat (first | (with_reducible first | exact HB.out | apply below_alloc | apply pw_below_drewN | apply below_drew1 | refine below_set ?_ GE111.out) | exact HB.out)⟩⟩
                                case rest =>
                                  clear HC47
                                  try clear c1
                                  try clear p1
                                  try clear q1
                                  try clear hx1
                                  try clear c2
                                  try clear c2b0
                                  try clear c2b1
                                  try clear p2
                                  try clear q2
                                  try clear hx2
                                  try clear c3
                                  try clear p3
                                  try clear q3
                                  try clear hx3
                                  try clear c4
                                  try clear c6
                                  try clear c6b0
                                  try clear p6
                                  try clear c7
                                  try clear c7b0
                                  try clear p8
                                  try clear q8
                                  try clear hx8
                                  try clear c10
                                  try clear c10b0
                                  try clear c10b1
                                  try clear c11
                                  try clear c11b0
                                  try clear c11b1
                                  try clear c12
                                  try clear c12b0
                                  try clear c12b1
                                  try clear c13
                                  try clear c14
                                  try clear c14b0
                                  try clear c14b1
                                  try clear c15
                                  try clear c15b0
                                  try clear c16
                                  try clear c16b0
                                  try clear p17
                                  try clear q17
                                  try clear hx17
                                  try clear c18
                                  try clear c18b0
                                  try clear c18b1
                                  try clear c21
                                  try clear c24
                                  try clear c26
                                  try clear c26b0
                                  try clear c28
                                  try clear c28b0
                                  try clear p29
                                  try clear q29
                                  try clear hx29
                                  try clear c31
                                  try clear c33
                                  try clear p34
                                  try clear q34
                                  try clear hx34
                                  try clear c36
                                  try clear c37
                                  try clear c37b0
                                  try clear c37b1
                                  try clear c38
                                  try clear c38b0
                                  try clear c38b1
                                  try clear c39
                                  try clear c39b0
                                  try clear c39b1
                                  try clear c41
                                  try clear c43
                                  try clear c48
                                  try clear c48b0
                                  try clear hcz44_0
                                  try clear hcz44_1
                                  try clear hcz4_0
                                  try clear hcz4_1
                                  try clear hfz44_0
                                  try clear hfz44_1
                                  try clear hfz4_0
                                  try clear hfz4_1
                                  try clear p1
                                  try clear p17
                                  try clear p2
                                  try clear p29
                                  try clear p3
                                  try clear p34
                                  try clear p6
                                  try clear p8
                                  try clear q1
                                  try clear q17
                                  try clear q2
                                  try clear q29
                                  try clear q3
                                  try clear q34
                                  try clear q8
                                  obtain ⟨kq, x110_46, rfl, HA, HJ46, HO_4, HO_9, BK111, HB⟩ := hcut
                                  cases kq with
                                  | zero => exact absurd HA.out (by simp [podestaref15_Scan.j8])
                                  | succ kj46 =>
                                    have H := HA.out
                                    clear HA
                                    simp only [podestaref15_Scan.j8] at H
                                    by_cases c51 : x110_46 = true
                                    · subst c51
                                      have H1 : (if 0 ≤ x10_5 then (if x10_5 < (t119.length : Int) then (if (wrap64 (x5_1 + ((rdOf ByteArray.empty t119 x10_5).size : Int))) ≤ (a0.size : Int) then (if 0 ≤ x5_1 then (if x5_1 ≤ (wrap64 (x5_1 + ((rdOf ByteArray.empty t119 x10_5).size : Int))) then (if (a0.extract (x5_1 : Int).toNat ((wrap64 (x5_1 + ((rdOf ByteArray.empty t119 x10_5).size : Int))) : Int).toNat).toList = (rdOf ByteArray.empty t119 x10_5).toList then (podestaref15_Scan.l3 kj46 a0 x4_1 x5_1 ((rdOf ByteArray.empty t119 x10_5).size : Int) t119 (wrap64 (x10_5 + 1))) else (podestaref15_Scan.l3 kj46 a0 x4_1 x5_1 x7_5 t119 (wrap64 (x10_5 + 1)))) else (none)) else (none)) else (podestaref15_Scan.l3 kj46 a0 x4_1 x5_1 x7_5 t119 (wrap64 (x10_5 + 1)))) else (none)) else (none)) = some (r1, r2, r3) := by rw [if_pos rfl] at H; exact H
                                      clear H
                                      have H := H1
                                      clear H1
                                      by_cases c52 : 0 ≤ x10_5
                                      · rw [if_pos c52] at H
                                        have c52b0 : decide (0 ≤ x10_5) = true := decide_eq_true c52
                                        clear c52
                                        by_cases c53 : x10_5 < (t119.length : Int)
                                        · rw [if_pos c53] at H
                                          have c53b0 : decide (x10_5 < (t119.length : Int)) = true := decide_eq_true c53
                                          clear c53
                                          by_cases c54 : (wrap64 (x5_1 + ((rdOf ByteArray.empty t119 x10_5).size : Int))) ≤ (a0.size : Int)
                                          · rw [if_pos c54] at H
                                            have c54b0 : decide ((wrap64 (x5_1 + ((rdOf ByteArray.empty t119 x10_5).size : Int))) ≤ (a0.size : Int)) = true := decide_eq_true c54
                                            clear c54
                                            by_cases c55 : 0 ≤ x5_1
                                            · rw [if_pos c55] at H
                                              have c55b0 := eq_true c55
                                              have c55b1 : decide (0 ≤ x5_1) = true := decide_eq_true c55
                                              clear c55
                                              by_cases c56 : x5_1 ≤ (wrap64 (x5_1 + ((rdOf ByteArray.empty t119 x10_5).size : Int)))
                                              · rw [if_pos c56] at H
                                                have c56b0 := eq_true c56
                                                have c56b1 : decide (x5_1 ≤ (wrap64 (x5_1 + ((rdOf ByteArray.empty t119 x10_5).size : Int)))) = true := decide_eq_true c56
                                                have c57b0 := eq_true (of_decide_eq_true (by first | (with_reducible assumption) | assumption) : (wrap64 (x5_1 + ((rdOf ByteArray.empty t119 x10_5).size : Int))) ≤ (a0.size : Int))
                                                by_cases c58 : (a0.extract (x5_1 : Int).toNat ((wrap64 (x5_1 + ((rdOf ByteArray.empty t119 x10_5).size : Int))) : Int).toNat).toList = (rdOf ByteArray.empty t119 x10_5).toList
                                                · rw [if_pos c58] at H
                                                  have c58b0 : ((a0.extract (x5_1 : Int).toNat ((wrap64 (x5_1 + ((rdOf ByteArray.empty t119 x10_5).size : Int))) : Int).toNat).toList == (rdOf ByteArray.empty t119 x10_5).toList) = true := beq_iff_eq.mpr c58
                                                  have c58b1 : ((a0.extract (x5_1 : Int).toNat ((wrap64 (x5_1 + ((rdOf ByteArray.empty t119 x10_5).size : Int))) : Int).toNat).toList != (rdOf ByteArray.empty t119 x10_5).toList) = false := bne_eq_false_iff_eq.mpr c58
                                                  clear c58
                                                  have H' := Aside0.mk H
                                                  clear H
                                                  obtain ⟨Ao59, co59, eo59⟩ := Kd.R_slice HO_9.out
                                                  subst eo59
                                                  have p122 : 0 ≤ (x10_5 : Int) := of_decide_eq_true (by first | (with_reducible assumption) | assumption)
                                                  have q122 : x10_5 < (t119.length : Int) := of_decide_eq_true (by first | (with_reducible assumption) | assumption)
                                                  obtain ⟨ad122, e122, hx122_0⟩ := Kd.at_string (Kd.R_reads' HO_9.out).2.2 x10_5 p122 q122
                                                  cases e122
                                                  replace p122 := eq_true p122
                                                  replace q122 := eq_true q122
                                                  have p123 : 0 ≤ (x10_5 : Int) := of_decide_eq_true (by first | (with_reducible assumption) | assumption)
                                                  have q123 : x10_5 < (t119.length : Int) := of_decide_eq_true (by first | (with_reducible assumption) | assumption)
                                                  obtain ⟨ad123, e123, hx123_0⟩ := Kd.at_string (Kd.R_reads' HO_9.out).2.2 x10_5 p123 q123
                                                  obtain rfl : ad122 = ad123 := (by injection e123)
                                                  replace p123 := eq_true p123
                                                  replace q123 := eq_true q123
                                                  have p124 : 0 ≤ (x10_5 : Int) := of_decide_eq_true (by first | (with_reducible assumption) | assumption)
                                                  have q124 : x10_5 < (t119.length : Int) := of_decide_eq_true (by first | (with_reducible assumption) | assumption)
                                                  obtain ⟨ad124, e124, hx124_0⟩ := Kd.at_string (Kd.R_reads' HO_9.out).2.2 x10_5 p124 q124
                                                  obtain rfl : ad122 = ad124 := (by injection e124)
                                                  replace p124 := eq_true p124
                                                  replace q124 := eq_true q124
                                                  have p125 : 0 ≤ (x10_5 : Int) := of_decide_eq_true (by first | (with_reducible assumption) | assumption)
                                                  have q125 : x10_5 < (t119.length : Int) := of_decide_eq_true (by first | (with_reducible assumption) | assumption)
                                                  obtain ⟨ad125, e125, hx125_0⟩ := Kd.at_string (Kd.R_reads' HO_9.out).2.2 x10_5 p125 q125
                                                  obtain rfl : ad122 = ad125 := (by injection e125)
                                                  replace p125 := eq_true p125
                                                  replace q125 := eq_true q125
                                                  go_wp2
                                                  repeat (go_quiet (fail); try go_wp2)
                                                  go_roundg kj46
                                                  case measure => have := HK1.out; have := HJ8.out; have := HJ18.out; have := HJ22.out; have := HK5.out; have := HJ46.out; omega
                                                  case rel => exact ⟨(((rdOf ByteArray.empty t119 x10_5).size : Int)), (wrap64 (x10_5 + 1)), (by first | rfl | (simp; done) | (simp [*]; done)), (by first | rfl | (simp; done) | (simp [*]; done)), H', ⟨by have := HK1.out; have := HJ8.out; have := HJ18.out; have := HJ22.out; have := HK5.out; have := HJ46.out; omega⟩, ⟨by (with_reducible repeat (first | apply Kd.R_alloc | apply Kd.R_drewN | apply Kd.R_drew)); exact HO_4.out⟩, ⟨by (with_reducible repeat (first | apply Kd.R_alloc | apply Kd.R_drewN | apply Kd.R_drew)); exact HO_9.out⟩, ⟨by (with_reducible repeat (first | refine blk_drewN ?_ _ | refine blk_drew ?_ | refine blk_alloc ?_ _)); exact BK111.out⟩, ⟨by repeat (first | (with_reducible first | exact HB.out | apply below_alloc | apply pw_below_drewN | apply below_drew1 | refine below_set ?_ GE111.out) | exact HB.out)⟩⟩
                                                · rw [if_neg c58] at H
                                                  have c58b0 : ((a0.extract (x5_1 : Int).toNat ((wrap64 (x5_1 + ((rdOf ByteArray.empty t119 x10_5).size : Int))) : Int).toNat).toList == (rdOf ByteArray.empty t119 x10_5).toList) = false := beq_eq_false_iff_ne.mpr c58
                                                  have c58b1 : ((a0.extract (x5_1 : Int).toNat ((wrap64 (x5_1 + ((rdOf ByteArray.empty t119 x10_5).size : Int))) : Int).toNat).toList != (rdOf ByteArray.empty t119 x10_5).toList) = true := bne_iff_ne.mpr c58
                                                  have H' := Aside0.mk H
                                                  clear H
                                                  obtain ⟨Ao60, co60, eo60⟩ := Kd.R_slice HO_9.out
                                                  subst eo60
                                                  have p122 : 0 ≤ (x10_5 : Int) := of_decide_eq_true (by first | (with_reducible assumption) | assumption)
                                                  have q122 : x10_5 < (t119.length : Int) := of_decide_eq_true (by first | (with_reducible assumption) | assumption)
                                                  obtain ⟨ad122, e122, hx122_0⟩ := Kd.at_string (Kd.R_reads' HO_9.out).2.2 x10_5 p122 q122
                                                  cases e122
                                                  replace p122 := eq_true p122
                                                  replace q122 := eq_true q122
                                                  have p123 : 0 ≤ (x10_5 : Int) := of_decide_eq_true (by first | (with_reducible assumption) | assumption)
                                                  have q123 : x10_5 < (t119.length : Int) := of_decide_eq_true (by first | (with_reducible assumption) | assumption)
                                                  obtain ⟨ad123, e123, hx123_0⟩ := Kd.at_string (Kd.R_reads' HO_9.out).2.2 x10_5 p123 q123
                                                  obtain rfl : ad122 = ad123 := (by injection e123)
                                                  replace p123 := eq_true p123
                                                  replace q123 := eq_true q123
                                                  have p124 : 0 ≤ (x10_5 : Int) := of_decide_eq_true (by first | (with_reducible assumption) | assumption)
                                                  have q124 : x10_5 < (t119.length : Int) := of_decide_eq_true (by first | (with_reducible assumption) | assumption)
                                                  obtain ⟨ad124, e124, hx124_0⟩ := Kd.at_string (Kd.R_reads' HO_9.out).2.2 x10_5 p124 q124
                                                  obtain rfl : ad122 = ad124 := (by injection e124)
                                                  replace p124 := eq_true p124
                                                  replace q124 := eq_true q124
                                                  go_wp2
                                                  repeat (go_quiet (fail); try go_wp2)
                                                  go_roundg kj46
                                                  case measure => have := HK1.out; have := HJ8.out; have := HJ18.out; have := HJ22.out; have := HK5.out; have := HJ46.out; omega
                                                  case rel => exact ⟨(x7_5), (wrap64 (x10_5 + 1)), (by first | rfl | (simp; done) | (simp [*]; done)), (by first | rfl | (simp; done) | (simp [*]; done)), H', ⟨by have := HK1.out; have := HJ8.out; have := HJ18.out; have := HJ22.out; have := HK5.out; have := HJ46.out; omega⟩, ⟨by (with_reducible repeat (first | apply Kd.R_alloc | apply Kd.R_drewN | apply Kd.R_drew)); exact HO_4.out⟩, ⟨by (with_reducible repeat (first | apply Kd.R_alloc | apply Kd.R_drewN | apply Kd.R_drew)); exact HO_9.out⟩, ⟨by (with_reducible repeat (first | refine blk_drewN ?_ _ | refine blk_drew ?_ | refine blk_alloc ?_ _)); exact BK111.out⟩, ⟨by repeat (first | (with_reducible first | exact HB.out | apply below_alloc | apply pw_below_drewN | apply below_drew1 | refine below_set ?_ GE111.out) | exact HB.out)⟩⟩
                                              · rw [if_neg c56] at H
                                                exact absurd H (by simp)
                                            · rw [if_neg c55] at H
                                              exact absurd H (by simp)
                                          · rw [if_neg c54] at H
                                            have c54b0 : decide ((wrap64 (x5_1 + ((rdOf ByteArray.empty t119 x10_5).size : Int))) ≤ (a0.size : Int)) = false := decide_eq_false c54
                                            clear c54
                                            have H' := Aside0.mk H
                                            clear H
                                            obtain ⟨Ao61, co61, eo61⟩ := Kd.R_slice HO_9.out
                                            subst eo61
                                            have p122 : 0 ≤ (x10_5 : Int) := of_decide_eq_true (by first | (with_reducible assumption) | assumption)
                                            have q122 : x10_5 < (t119.length : Int) := of_decide_eq_true (by first | (with_reducible assumption) | assumption)
                                            obtain ⟨ad122, e122, hx122_0⟩ := Kd.at_string (Kd.R_reads' HO_9.out).2.2 x10_5 p122 q122
                                            cases e122
                                            replace p122 := eq_true p122
                                            replace q122 := eq_true q122
                                            go_wp2
                                            repeat (go_quiet (fail); try go_wp2)
                                            go_roundg kj46
                                            case measure => have := HK1.out; have := HJ8.out; have := HJ18.out; have := HJ22.out; have := HK5.out; have := HJ46.out; omega
                                            case rel => exact ⟨(x7_5), (wrap64 (x10_5 + 1)), (by first | rfl | (simp; done) | (simp [*]; done)), (by first | rfl | (simp; done) | (simp [*]; done)), H', ⟨by have := HK1.out; have := HJ8.out; have := HJ18.out; have := HJ22.out; have := HK5.out; have := HJ46.out; omega⟩, ⟨by (with_reducible repeat (first | apply Kd.R_alloc | apply Kd.R_drewN | apply Kd.R_drew)); exact HO_4.out⟩, ⟨by (with_reducible repeat (first | apply Kd.R_alloc | apply Kd.R_drewN | apply Kd.R_drew)); exact HO_9.out⟩, ⟨by (with_reducible repeat (first | refine blk_drewN ?_ _ | refine blk_drew ?_ | refine blk_alloc ?_ _)); exact BK111.out⟩, ⟨by repeat (first | (with_reducible first | exact HB.out | apply below_alloc | apply pw_below_drewN | apply below_drew1 | refine below_set ?_ GE111.out) | exact HB.out)⟩⟩
                                        · rw [if_neg c53] at H
                                          exact absurd H (by simp)
                                      · rw [if_neg c52] at H
                                        exact absurd H (by simp)
                                    · replace c51 := Bool.eq_false_iff.mpr c51
                                      subst c51
                                      have H1 : (if x7_5 = 0 then (some (([] : List (S112)), 15, x5_1)) else (if 0 ≤ x5_1 then (if x5_1 ≤ (wrap64 (x5_1 + x7_5)) then (if (wrap64 (x5_1 + x7_5)) ≤ (a0.size : Int) then (if x4_1.length < 5864062014805 then (podestaref15_Scan.l0 kj46 a0 (x4_1 ++ [(⟨a0.extract (x5_1 : Int).toNat ((wrap64 (x5_1 + x7_5)) : Int).toNat, x5_1⟩ : S112)]) (wrap64 (x5_1 + x7_5))) else (none)) else (none)) else (none)) else (none))) = some (r1, r2, r3) := by rw [if_neg (show ¬ (false = true) by decide)] at H; exact H
                                      clear H
                                      have H := H1
                                      clear H1
                                      by_cases c62 : x7_5 = 0
                                      · rw [if_pos c62] at H
                                        have c62b0 : (x7_5 == 0) = true := beq_iff_eq.mpr c62
                                        have c62b1 : (x7_5 != 0) = false := bne_eq_false_iff_eq.mpr c62
                                        clear c62
                                        simp only [Option.some.injEq, Prod.mk.injEq] at H
                                        obtain ⟨rfl, rfl, rfl⟩ := H
                                        have hcz63_0 : wc.cell? ⟨gb111, 0, none⟩ = some (.int .i64 x112000_22) := (blk_cell BK111.out 0).trans rfl
                                        have hcz63_1 : wc.cell? ⟨gb111, 1, none⟩ = some (.int .i64 x112001_22) := (blk_cell BK111.out 1).trans rfl
                                        have hfz63_0 := blk_frozen BK111.out 0
                                        have hfz63_1 := blk_frozen BK111.out 1
                                        go_wp2
                                        repeat (go_quiet (fail); try go_wp2)
                                        refine bodyPost_ret (results_tc rfl _ _ gb111 32 #[.int .i64 15, .int .i64 x5_1] (0, 0) _ rfl (by (with_reducible repeat (first | refine blk_drewN ?_ _ | refine blk_drew ?_ | refine blk_alloc ?_ _)); refine blk_put (cs := #[.int .i64 15, .int .i64 x112001_22]) ?_ 1 _ rfl; (with_reducible repeat (first | refine blk_drewN ?_ _ | refine blk_drew ?_ | refine blk_alloc ?_ _)); refine blk_put (cs := #[.int .i64 x112000_22, .int .i64 x112001_22]) ?_ 0 _ rfl; (with_reducible repeat (first | refine blk_drewN ?_ _ | refine blk_drew ?_ | refine blk_alloc ?_ _)); exact BK111.out) Try.underlying32 rfl (by kernel_rfl)) rfl ?_
                                        exact ⟨_, by first | rfl | (simp [errW_none, errW_some] <;> rfl) | (simp [*, errW_none, errW_some] <;> rfl), by first | exact Kd.R_nil _ _ _ _ _ | exact Kd.N_nil _ _ _ _ _ | exact Kd.V_nil _ _ _ _ _ | exact Kd.Q_nil _ _ _ _ _ | exact Kd.S_nil _ _ _ _ _, by repeat (first | (with_reducible first | exact HB.out | apply below_alloc | apply pw_below_drewN | apply below_drew1 | refine below_set ?_ GE111.out) | exact HB.out)⟩
                                      · rw [if_neg c62] at H
                                        have c62b0 : (x7_5 == 0) = false := beq_eq_false_iff_ne.mpr c62
                                        have c62b1 : (x7_5 != 0) = true := bne_iff_ne.mpr c62
                                        by_cases c64 : 0 ≤ x5_1
                                        · rw [if_pos c64] at H
                                          have c64b0 := eq_true c64
                                          have c64b1 : decide (0 ≤ x5_1) = true := decide_eq_true c64
                                          clear c64
                                          by_cases c65 : x5_1 ≤ (wrap64 (x5_1 + x7_5))
                                          · rw [if_pos c65] at H
                                            have c65b0 := eq_true c65
                                            have c65b1 : decide (x5_1 ≤ (wrap64 (x5_1 + x7_5))) = true := decide_eq_true c65
                                            by_cases c66 : (wrap64 (x5_1 + x7_5)) ≤ (a0.size : Int)
                                            · rw [if_pos c66] at H
                                              have c66b0 := eq_true c66
                                              have c66b1 : decide ((wrap64 (x5_1 + x7_5)) ≤ (a0.size : Int)) = true := decide_eq_true c66
                                              by_cases c67 : x4_1.length < 5864062014805
                                              · rw [if_pos c67] at H
                                                have LMc67 := Aside0.mk c67
                                                clear c67
                                                obtain ⟨y126, hy126⟩ : ∃ y_ : List (S112), y_ = (x4_1 ++ [(⟨a0.extract (x5_1 : Int).toNat ((wrap64 (x5_1 + x7_5)) : Int).toNat, x5_1⟩ : S112)]) := ⟨_, rfl⟩
                                                replace H : (podestaref15_Scan.l0 kj46 a0 y126 (wrap64 (x5_1 + x7_5))) = some (r1, r2, r3) := by first | (rw [hy126]; with_reducible exact H) | (have H2_ := (Option.bind_some _ _).symm.trans H; rw [hy126]; with_reducible exact H2_) | (have H2_ := (Option.bind_some _ _).symm.trans H; with_reducible exact H2_) | with_reducible exact H | (rw [hy126]; exact H) | exact H
                                                have Ny126 := Aside0.mk hy126
                                                clear hy126
                                                have H' := Aside0.mk H
                                                clear H
                                                go_wp2_with (first | ((with_reducible refine gate_builtin (b := .append) (xs := #[.tmp 149, .tmp 158]) rfl ?_); (try (refine gate_guard (by rfl) ?_; dsimp only)); at_builtin; refine Kd.R_append k112 (w0 := w) w.heap.size rfl (.tmp 149) (.tmp 158) 74 112 (.agg #[(.string ⟨#[]⟩), (.int .i64 0)]) 24 rfl Try.underlying74 info112 rfl (by decide) (by omega) u4 x4_1 (⟨a0.extract (x5_1 : Int).toNat ((wrap64 (x5_1 + x7_5)) : Int).toNat, x5_1⟩ : S112) [.string (a0.extract (x5_1 : Int).toNat ((wrap64 (x5_1 + x7_5)) : Int).toNat), .int .i64 x5_1] (fun _ => True) (fun _ => False) rfl rfl ?aP (fun _ hk => hk.elim) ?aF ?aO ?aB ?aS ?aL ?_; (case aP => exact k112_mkM _ _ _ (⟨a0.extract (x5_1 : Int).toNat ((wrap64 (x5_1 + x7_5)) : Int).toNat, x5_1⟩ : S112)); (case aB => exact (by repeat (first | (with_reducible first | exact HB.out | apply below_alloc | apply pw_below_drewN | apply below_drew1 | refine below_set ?_ GE111.out) | exact HB.out))); (case aF => exact (fun _ _ => trivial)); (case aO => exact (by (with_reducible repeat (first | apply Kd.R_alloc | apply Kd.R_drewN | apply Kd.R_drew)); exact HO_4.out)); (case aS => exact (below_size (by repeat (first | (with_reducible first | exact HB.out | apply below_alloc | apply pw_below_drewN | apply below_drew1 | refine below_set ?_ GE111.out) | exact HB.out)))); (case aL => have := LMc67.out; omega); intro v127 w68 ho hb hg hat; rw [← Ny126.out] at ho; have n0_ := Aside0.mk (Kd.R_over' (by (with_reducible repeat (first | apply Kd.R_alloc | apply Kd.R_drewN | apply Kd.R_drew)); exact HO_9.out) (Kd.R_typed (by (with_reducible repeat (first | apply Kd.R_alloc | apply Kd.R_drewN | apply Kd.R_drew)); exact HO_4.out)) (by decide) hg); have n1_ := Aside0.mk (blk_grown (g := gb111) (o := .cells #[.int .i64 x112000_22, .int .i64 x112001_22] 32 (0, 0)) (by (with_reducible repeat (first | refine blk_drewN ?_ _ | refine blk_drew ?_ | refine blk_alloc ?_ _)); exact BK111.out) hg (Kd.R_ne HO_4.out BK111.out (by decide))); have n2_ := Aside0.mk (hb); have n3_ := Aside0.mk (ho); clear HO_9; clear BK111; clear HB; clear HO_4; have HO_9 := n0_; have BK111 := n1_; have HB := n2_; have HO128 := n3_; clear n0_ n1_ n2_ n3_; clear ho hb hg hat))
                                                repeat (go_quiet (first | ((with_reducible refine gate_builtin (b := .append) (xs := #[.tmp 149, .tmp 158]) rfl ?_); (try (refine gate_guard (by rfl) ?_; dsimp only)); at_builtin; refine Kd.R_append k112 (w0 := w) w.heap.size rfl (.tmp 149) (.tmp 158) 74 112 (.agg #[(.string ⟨#[]⟩), (.int .i64 0)]) 24 rfl Try.underlying74 info112 rfl (by decide) (by omega) u4 x4_1 (⟨a0.extract (x5_1 : Int).toNat ((wrap64 (x5_1 + x7_5)) : Int).toNat, x5_1⟩ : S112) [.string (a0.extract (x5_1 : Int).toNat ((wrap64 (x5_1 + x7_5)) : Int).toNat), .int .i64 x5_1] (fun _ => True) (fun _ => False) rfl rfl ?aP (fun _ hk => hk.elim) ?aF ?aO ?aB ?aS ?aL ?_; (case aP => exact k112_mkM _ _ _ (⟨a0.extract (x5_1 : Int).toNat ((wrap64 (x5_1 + x7_5)) : Int).toNat, x5_1⟩ : S112)); (case aB => exact (by repeat (first | (with_reducible first | exact HB.out | apply below_alloc | apply pw_below_drewN | apply below_drew1 | refine below_set ?_ GE111.out) | exact HB.out))); (case aF => exact (fun _ _ => trivial)); (case aO => exact (by (with_reducible repeat (first | apply Kd.R_alloc | apply Kd.R_drewN | apply Kd.R_drew)); exact HO_4.out)); (case aS => exact (below_size (by repeat (first | (with_reducible first | exact HB.out | apply below_alloc | apply pw_below_drewN | apply below_drew1 | refine below_set ?_ GE111.out) | exact HB.out)))); (case aL => have := LMc67.out; omega); intro v127 w68 ho hb hg hat; rw [← Ny126.out] at ho; have n0_ := Aside0.mk (Kd.R_over' (by (with_reducible repeat (first | apply Kd.R_alloc | apply Kd.R_drewN | apply Kd.R_drew)); exact HO_9.out) (Kd.R_typed (by (with_reducible repeat (first | apply Kd.R_alloc | apply Kd.R_drewN | apply Kd.R_drew)); exact HO_4.out)) (by decide) hg); have n1_ := Aside0.mk (blk_grown (g := gb111) (o := .cells #[.int .i64 x112000_22, .int .i64 x112001_22] 32 (0, 0)) (by (with_reducible repeat (first | refine blk_drewN ?_ _ | refine blk_drew ?_ | refine blk_alloc ?_ _)); exact BK111.out) hg (Kd.R_ne HO_4.out BK111.out (by decide))); have n2_ := Aside0.mk (hb); have n3_ := Aside0.mk (ho); clear HO_9; clear BK111; clear HB; clear HO_4; have HO_9 := n0_; have BK111 := n1_; have HB := n2_; have HO128 := n3_; clear n0_ n1_ n2_ n3_; clear ho hb hg hat)); try go_wp2_with (first | ((with_reducible refine gate_builtin (b := .append) (xs := #[.tmp 149, .tmp 158]) rfl ?_); (try (refine gate_guard (by rfl) ?_; dsimp only)); at_builtin; refine Kd.R_append k112 (w0 := w) w.heap.size rfl (.tmp 149) (.tmp 158) 74 112 (.agg #[(.string ⟨#[]⟩), (.int .i64 0)]) 24 rfl Try.underlying74 info112 rfl (by decide) (by omega) u4 x4_1 (⟨a0.extract (x5_1 : Int).toNat ((wrap64 (x5_1 + x7_5)) : Int).toNat, x5_1⟩ : S112) [.string (a0.extract (x5_1 : Int).toNat ((wrap64 (x5_1 + x7_5)) : Int).toNat), .int .i64 x5_1] (fun _ => True) (fun _ => False) rfl rfl ?aP (fun _ hk => hk.elim) ?aF ?aO ?aB ?aS ?aL ?_; (case aP => exact k112_mkM _ _ _ (⟨a0.extract (x5_1 : Int).toNat ((wrap64 (x5_1 + x7_5)) : Int).toNat, x5_1⟩ : S112)); (case aB => exact (by repeat (first | (with_reducible first | exact HB.out | apply below_alloc | apply pw_below_drewN | apply below_drew1 | refine below_set ?_ GE111.out) | exact HB.out))); (case aF => exact (fun _ _ => trivial)); (case aO => exact (by (with_reducible repeat (first | apply Kd.R_alloc | apply Kd.R_drewN | apply Kd.R_drew)); exact HO_4.out)); (case aS => exact (below_size (by repeat (first | (with_reducible first | exact HB.out | apply below_alloc | apply pw_below_drewN | apply below_drew1 | refine below_set ?_ GE111.out) | exact HB.out)))); (case aL => have := LMc67.out; omega); intro v127 w68 ho hb hg hat; rw [← Ny126.out] at ho; have n0_ := Aside0.mk (Kd.R_over' (by (with_reducible repeat (first | apply Kd.R_alloc | apply Kd.R_drewN | apply Kd.R_drew)); exact HO_9.out) (Kd.R_typed (by (with_reducible repeat (first | apply Kd.R_alloc | apply Kd.R_drewN | apply Kd.R_drew)); exact HO_4.out)) (by decide) hg); have n1_ := Aside0.mk (blk_grown (g := gb111) (o := .cells #[.int .i64 x112000_22, .int .i64 x112001_22] 32 (0, 0)) (by (with_reducible repeat (first | refine blk_drewN ?_ _ | refine blk_drew ?_ | refine blk_alloc ?_ _)); exact BK111.out) hg (Kd.R_ne HO_4.out BK111.out (by decide))); have n2_ := Aside0.mk (hb); have n3_ := Aside0.mk (ho); clear HO_9; clear BK111; clear HB; clear HO_4; have HO_9 := n0_; have BK111 := n1_; have HB := n2_; have HO128 := n3_; clear n0_ n1_ n2_ n3_; clear ho hb hg hat)))
                                                go_roundg kj46
                                                case measure => have := HK1.out; have := HJ8.out; have := HJ18.out; have := HJ22.out; have := HK5.out; have := HJ46.out; omega
                                                case rel => exact ⟨(y126), (wrap64 (x5_1 + x7_5)), (x112000_22), (x112001_22), (by first | rfl | (simp; done) | (simp [*]; done)), H', ⟨by have := HK1.out; have := HJ8.out; have := HJ18.out; have := HJ22.out; have := HK5.out; have := HJ46.out; omega⟩, ⟨by (with_reducible repeat (first | apply Kd.R_alloc | apply Kd.R_drewN | apply Kd.R_drew)); exact HO128.out⟩, ⟨by (with_reducible repeat (first | refine blk_drewN ?_ _ | refine blk_drew ?_ | refine blk_alloc ?_ _)); exact BK111.out⟩, ⟨by repeat (first | (with_reducible first | exact HB.out | apply below_alloc | apply pw_below_drewN | apply below_drew1 | refine below_set ?_ GE111.out) | exact HB.out)⟩⟩
                                              · rw [if_neg c67] at H
                                                exact absurd H (by simp)
                                            · rw [if_neg c66] at H
                                              exact absurd H (by simp)
                                          · rw [if_neg c65] at H
                                            exact absurd H (by simp)
                                        · rw [if_neg c64] at H
                                          exact absurd H (by simp)
          · rw [if_neg c7] at H
            exact absurd H (by simp)
        · rw [if_neg c6] at H
          have c6b0 : decide (x5_1 < (a0.size : Int)) = false := decide_eq_false c6
          clear c6
          simp only [Option.some.injEq, Prod.mk.injEq] at H
          obtain ⟨rfl, rfl, rfl⟩ := H
          have hcz69_0 : wr.cell? ⟨gb111, 0, none⟩ = some (.int .i64 x112000_1) := (blk_cell BK111.out 0).trans rfl
          have hcz69_1 : wr.cell? ⟨gb111, 1, none⟩ = some (.int .i64 x112001_1) := (blk_cell BK111.out 1).trans rfl
          have hfz69_0 := blk_frozen BK111.out 0
          have hfz69_1 := blk_frozen BK111.out 1
          go_wp2
          repeat (go_quiet (fail); try go_wp2)
          refine bodyPost_ret (results_tc rfl _ _ gb111 32 #[.int .i64 0, .int .i64 0] (0, 0) _ rfl (by (with_reducible repeat (first | refine blk_drewN ?_ _ | refine blk_drew ?_ | refine blk_alloc ?_ _)); refine blk_put (cs := #[.int .i64 0, .int .i64 x112001_1]) ?_ 1 _ rfl; (with_reducible repeat (first | refine blk_drewN ?_ _ | refine blk_drew ?_ | refine blk_alloc ?_ _)); refine blk_put (cs := #[.int .i64 x112000_1, .int .i64 x112001_1]) ?_ 0 _ rfl; (with_reducible repeat (first | refine blk_drewN ?_ _ | refine blk_drew ?_ | refine blk_alloc ?_ _)); exact BK111.out) Try.underlying32 rfl (by kernel_rfl)) rfl ?_
          exact ⟨_, by first | rfl | (simp [errW_none, errW_some] <;> rfl) | (simp [*, errW_none, errW_some] <;> rfl), by (with_reducible repeat (first | apply Kd.R_alloc | apply Kd.R_drewN | apply Kd.R_drew)); exact Kd.R_mono (Kd.R_far (p := ⟨gb111, 1, none⟩) (Kd.R_far (p := ⟨gb111, 0, none⟩) (Kd.R_types HO_4.out BK111.out (by decide)) (fun _ hk => hk.2) (.int .i64 0)) (fun _ hk => hk.2) (.int .i64 0)) (fun _ hk => trivial), by repeat (first | (with_reducible first | exact HB.out | apply below_alloc | apply pw_below_drewN | apply below_drew1 | refine below_set ?_ GE111.out) | exact HB.out)⟩
end Go.Proofs.Ytdiadmlgeojefaa.A
namespace Go.Proofs.Ytdiadmlgeojefaa.A
open Go.RowKit Go.Proofs.YtdiadmlgeojefaaW.PrintWords Go.Proofs.YtdiadmlgeojefaaW.PrintLast Go.Proofs.YtdiadmlgeojefaaW.PrintMore
set_option linter.unusedVariables false
set_option linter.unusedSimpArgs false
theorem run_build0 {o : Oper} {a : Act} (ho : o.op = .build 29 #[]) : ∀ w, (execOp a.eval o).run Try.prog w = .ok (.value (.agg (nc z29 (.slice none 0 0)).toArray)) w := by
  intro w
  generalize a.eval = ev
  unfold execOp
  simp only [ho]
  first | (go_simp; done) | (go_simp; rfl)
def aggD (d : TypeDesc) : Bool := match d with | .struct _ | .array _ _ => true | _ => false
theorem run_part_one {P : Program} {e : TypeId} {d : TypeDesc} (hu : P.underlying e = some d) (hd : aggD d = false) {cs : Array Value} {off : Nat} {v : Value} (hv : cs[off]? = some v) (W : World) : (part e cs off).run P W = .ok v W := by
  have hagg : (isAgg e).run P W = .ok false W := by
    unfold isAgg
    rw [Sem.run_bind, run_underlying hu W]
    unfold aggD at hd
    cases d <;> simp_all
  unfold part
  rw [Sem.run_bind, hagg]
  simp [hv]
theorem run_fieldop {P : Program} {s : TypeId} {j : Nat} {fields : Array Go.Field} {f : Go.Field} {d : TypeDesc} (hs : P.underlying s = some (.struct fields)) (hf : fields[j]? = some f) (hu : P.underlying f.type = some d) (hd : aggD d = false)
    {o : Oper} {a : Act} (x : Operand) (ho : o.op = .field s x j) {cs : Array Value} {v : Value} (hx : a.eval x = .agg cs) (hv : cs[f.offset]? = some v) (W : World) : (execOp a.eval o).run P W = .ok (.value v) W := by
  unfold execOp
  simp [ho, hx, Instr.field, Sem.run_bind, run_underlying hs W, hf, asAgg, run_part_one hu hd hv]
theorem ev_kids {ops : Array Oper} {rest : List Oper} {o : Oper} {a : Act} {Q : Exit → Act → World → Prop} {W : World} (hgd : o.guard = none) {N : Tmp} (_hd : o.dst = some N) (x : Operand) (ho : o.op = .field 29 x 3) {z : S29} {v : Value} (hx : a.eval x = .agg (nc z v).toArray) (h : wpList Try.prog ops Q rest (a.put o.dst v) W) : wpList Try.prog ops Q (o :: rest) a W := by
  refine wpList_plain hgd fun K hK => ?_
  have hv : (nc z v).toArray[3]? = some v := by simp [nc]
  have hrun := run_fieldop (P := Try.prog) Try.underlying29 (f := { name := "Kids", type := 27, offset := 3, embedded := false, tag := "", pkgPath := "", byteOffset := 32 }) rfl Try.underlying27 rfl x ho hx hv W
  unfold Oper.wp
  simp only [hrun]
  exact hK _ _ h
theorem VK_cells {W : World} {ok : Nat → Prop} {v : Value} {xs : List S29} (h : VK W ok v xs) : v.cells.toList = [v] := by
  obtain ⟨A, c, rfl, _⟩ := h
  rfl
theorem run_field794 {o : Oper} {a : Act} {x : Operand} (ho : o.op = .fieldAddr 79 x 4) {b : Nat} (hx : a.eval x = .pointer (some ⟨b, 0, none⟩)) : ∀ w, (execOp a.eval o).run Try.prog w = .ok (.value (.pointer (some ⟨b, 4, none⟩))) w := by
  intro w
  unfold execOp
  simp only [ho, hx]
  first | (go_simp; done) | (go_simp; rfl)
def fc (e a : Int) : List Value := [.int .i64 e, .int .i64 a]
theorem info32s : (Try.prog.info? 32).map (·.size) = some 2 := by kernel_rfl
section
variable {ops : Array Oper} {rest : List Oper} {o : Oper} {a : Act} {Q : Exit → Act → World → Prop} {W : World}
theorem ev_alloc32 (hgd : o.guard = none) {N : Tmp} (hd : o.dst = some N) (ho : o.op = .alloc 32)
    (h : ∀ b, b = W.heap.size → ∀ w1, w1.heap[b]? = some (.cells (fc 0 0).toArray 32 (0, 0)) → Below W.heap.size W w1 → wpList Try.prog ops Q rest (a.put o.dst (.pointer (some ⟨b, 0, none⟩))) w1) : wpList Try.prog ops Q (o :: rest) a W := by
  refine Mine.ev_alloc hgd hd ho (fc 0 0) ?_ (fun g hg w1 h1 h2 => h g hg w1 h1 h2)
  unfold execOp
  simp only [ho]
  go_simp
  rfl
theorem ev_store32 (hgd : o.guard = none) (hN : o.dst = none) (p x : Operand) (ho : o.op = .store 32 p x) {b : Nat} {e f e' f' : Int} (hp : a.eval p = .pointer (some ⟨b, 0, none⟩)) (hx : a.eval x = .agg (fc e f).toArray)
    (hh : W.heap[b]? = some (.cells (fc e' f').toArray 32 (0, 0)))
    (h : ∀ w1, w1.heap[b]? = some (.cells (fc e f).toArray 32 (0, 0)) → W.grownBy w1 (some b) → w1.heap.size = W.heap.size → wpList Try.prog ops Q rest a w1) : wpList Try.prog ops Q (o :: rest) a W :=
  Mine.ev_store hgd hN 32 p x ho _ (fc e f) hp hx rfl hh (Nat.le_refl _) info32s (by intro q hq; simp only [fc, List.mem_cons, List.not_mem_nil, or_false] at hq; rcases hq with rfl | rfl <;> rfl) (fun w1 h1 h2 h3 => h w1 h1 h2 h3)
end
theorem run_load32 {o : Oper} {a : Act} {x : Operand} (ho : o.op = .load 32 x) {b j : Nat} (hx : a.eval x = .pointer (some ⟨b, j, none⟩)) {w : World} {cs : List Value} {t : TypeId} {e f : Int} (hh : w.heap[b]? = some (.cells cs.toArray t (0, 0))) (hc : (cs.drop j).take 2 = fc e f) : (execOp a.eval o).run Try.prog w = .ok (.value (.agg (fc e f).toArray)) w := by
  have := Mine.blk_seg hh j 2
  rw [hc] at this
  unfold execOp
  simp only [ho, hx, Instr.loadAt, Instr.sureAddr, Sem.run_bind, Sem.run_pure, Result.andThen_ok, Mine.run_load_cells w ⟨b, j, none⟩ 32 (fc e f) _ this Try.underlying32 rfl info32s]
def parse_ (k m : Nat) (t : ByteArray) : Option (S29 × Int × Int) :=
  (podestaref15_Scan.f k t).bind fun r => if r.2.1 = 0 then (run k r.1 m (.top (nd 1 tk0 0 [] 0)) ⟨0, (t.size : Int), 0, 0, 0⟩).bind fun x => if x.2.e = 0 then some (x.1, 0, 0) else some (z29, x.2.e, x.2.a) else some (z29, r.2.1, r.2.2)
def ParsePost (u : World) (T : S29) (e a : Int) (x : Ending) (w' : World) : Prop :=
  ∃ v, x = .returned (.tuple #[.agg (nc T v).toArray, .agg (fc e a).toArray]) ∧ VK w' (fun q => u.heap.size ≤ q) v T.f3 ∧ Below u.heap.size u w'
structure ret23Chk (ops : Array Oper) : Prop where
  f0 : anyB .any ops #[false, false, false, false, false, false, false] #[true, false, false, false, false, false, false] 0 = true
  f1 : anyB .any ops #[true, false, false, false, false, false, false] #[true, true, false, false, false, false, false] 1 = true
  f2 : anyB .any ops #[true, true, false, false, false, false, false] #[true, true, true, false, false, false, false] 2 = true
  f3 : anyB .any ops #[true, true, true, false, false, false, false] #[true, true, true, true, false, false, false] 3 = true
  f4 : takeB .any ops [6] #[true, true, true, true, false, false, false] #[true, true, true, true, true, false, false] 4 = true
  f5 : readyB .any ops #[true, true, true, true, true, false, false] #[true, true, true, true, true, true, false] 5 = true
  f6 : readyB .any ops #[true, true, true, true, true, true, false] #[true, true, true, true, true, true, true] 6 = true
  f7 : (Region.ready .any ops #[true, true, true, true, true, true, true] == []) = true
set_option maxHeartbeats 1000000 in
theorem ret23 {ops : Array Oper} {id : Nat} {Q : Exit → Act → World → Prop} {a : Act} {W : World} {g p1 p2 : Nat} {cs : List Value} {e f : Int} {y : S29} {v0 : Value} {e0 f0 : Int} (hg0 : W.heap[g]? = some (.cells cs.toArray 79 (0, 0))) (hcs : (cs.drop 4).take 2 = fc e f) (hp1 : W.heap[p1]? = some (.cells (nc y v0).toArray 29 (0, 0))) (hp2 : W.heap[p2]? = some (.cells (fc e0 f0).toArray 32 (0, 0)))
    (n1 : p1 ≠ g) (n2 : p2 ≠ g) (n3 : p1 ≠ p2)
    {o0 o1 o2 o3 o4 o5 o6 : Oper} (hsize : ops.size = 7) (h0 : ops[0]? = some o0) (h1 : ops[1]? = some o1) (h2 : ops[2]? = some o2) (h3 : ops[3]? = some o3) (h4 : ops[4]? = some o4) (h5 : ops[5]? = some o5) (h6 : ops[6]? = some o6)
    (g0 : o0.guard = none ∧ o0.dst = some 86) (g1 : o1.guard = none ∧ o1.dst = some 87) (g2 : o2.guard = none ∧ o2.dst = some 88) (g3 : o3.guard = none ∧ o3.dst = some 89) (g4 : o4.guard = none ∧ o4.dst = some 90) (g5 : o5.guard = none ∧ o5.dst = none) (g6 : o6.guard = none ∧ o6.dst = none)
    (p0 : o0.op = .build 29 #[]) (p1_ : o1.op = .move (.tmp 6)) (p2_ : o2.op = .nilCheck (.tmp 87)) (p3 : o3.op = .fieldAddr 79 (.tmp 88) 4) (p4 : o4.op = .load 32 (.tmp 89)) (p5 : o5.op = .store 29 (.tmp 2) (.tmp 86)) (p6 : o6.op = .store 32 (.tmp 3) (.tmp 90))
    (hsz : a.tmps.size = 93) (v6 : a.eval (.tmp 6) = eyeP g) (v2 : a.eval (.tmp 2) = .pointer (some ⟨p1, 0, none⟩)) (v3 : a.eval (.tmp 3) = .pointer (some ⟨p2, 0, none⟩)) (hc : ret23Chk ops)
    (hQ : ∀ (d : Tmp) v c a w, Q (.panic c) (Act.put a (some d) v) w → Q (.panic c) a w)
    (hpost : ∀ W', W'.heap[p1]? = some (.cells (nc z29 (.slice none 0 0)).toArray 29 (0, 0)) → W'.heap[p2]? = some (.cells (fc e f).toArray 32 (0, 0)) → (∀ B, B ≤ p1 → B ≤ p2 → B ≤ W.heap.size → Below B W W') → Q .normal (((((a.put (some 86) (.agg (nc z29 (.slice none 0 0)).toArray)).put (some 87) (eyeP g)).put (some 88) (eyeP g)).put (some 89) (.pointer (some ⟨g, 4, none⟩))).put (some 90) (.agg (fc e f).toArray)) W') :
    (Code.region id ops true).wp Try.prog Q a W := by
  refine start_ (n := 7) (S := fun w' => w'.heap[g]? = some (.cells cs.toArray 79 (0, 0))) (ds := [6]) #[false, false, false, false, false, false, false] (by kernel_rfl) hsize rfl hg0 (fun hS2 => ?_)
  refine pure_ (i := 0) (N := some 86) (v := (.agg (nc z29 (.slice none 0 0)).toArray)) #[true, false, false, false, false, false, false] h0 g0.2 hc.f0 (fun c a w => by rw [g0.2]; exact hQ _ _ c a w) (Or.inl ⟨by simp [Region.wanted, g0.1], run_build0 p0⟩) rfl ?_
  refine pure_ (i := 1) (N := some 87) (v := (eyeP g)) #[true, true, false, false, false, false, false] h1 g1.2 hc.f1 (fun c a w => by rw [g1.2]; exact hQ _ _ c a w) (Or.inl ⟨by simp [Region.wanted, g1.1], run_move p1_ (by rw [act_ne _ _ (by decide), v6])⟩) rfl ?_
  refine pure_ (i := 2) (N := some 88) (v := (eyeP g)) #[true, true, true, false, false, false, false] h2 g2.2 hc.f2 (fun c a w => by rw [g2.2]; exact hQ _ _ c a w) (Or.inl ⟨by simp [Region.wanted, g2.1], run_nil p2_ (by rw [act_same _ _ _ (by (try simp only [act_size]); rw [hsz]; decide)])⟩) rfl ?_
  refine pure_ (i := 3) (N := some 89) (v := (.pointer (some ⟨g, 4, none⟩))) #[true, true, true, true, false, false, false] h3 g3.2 hc.f3 (fun c a w => by rw [g3.2]; exact hQ _ _ c a w) (Or.inl ⟨by simp [Region.wanted, g3.1], run_field794 p3 (by rw [act_same _ _ _ (by (try simp only [act_size]); rw [hsz]; decide)])⟩) rfl ?_
  refine take_ (i := 4) (N := some 90) (v := (.agg (fc e f).toArray)) #[true, true, true, true, true, false, false] h4 g4.2 hc.f4 (fun c a w => by rw [g4.2]; exact hQ _ _ c a w) (Or.inl ⟨by simp [Region.wanted, g4.1], fun w9 hw9 => run_load32 p4 (by rw [act_same _ _ _ (by (try simp only [act_size]); rw [hsz]; decide)]) hw9 hcs⟩) hS2 rfl ?_
  refine YtdiadmlgeojefaaW.PrintLast.one_ (i := 5) (N := none) #[true, true, true, true, true, true, false] h5 g5.2 hc.f5 (by decide) (fun K hK => step_of g5.1 g5.2 ?_)
  refine ev_store29 g5.1 g5.2 (.tmp 2) (.tmp 86) p5 (b := p1) (z := z29) (v := (.slice none 0 0)) (by rw [act_ne _ _ (by decide), act_ne _ _ (by decide), act_ne _ _ (by decide), act_ne _ _ (by decide), act_ne _ _ (by decide), v2]) (by rw [act_ne _ _ (by decide), act_ne _ _ (by decide), act_ne _ _ (by decide), act_ne _ _ (by decide), act_same _ _ _ (by (try simp only [act_size]); rw [hsz]; decide)]) hp1 rfl ?_
  intro w1 hblk hg hz
  refine hK _ _ (grown_blk hg hg0 (Ne.symm n1)) (fun _ => ?_)
  refine last_ (i := 6) (N := none) #[true, true, true, true, true, true, true] h6 g6.2 hc.f6 (by decide) (fun K hK => step_of g6.1 g6.2 ?_)
  refine ev_store32 g6.1 g6.2 (.tmp 3) (.tmp 90) p6 (b := p2) (e := e) (f := f) (by rw [act_ne _ _ (by decide), act_ne _ _ (by decide), act_ne _ _ (by decide), act_ne _ _ (by decide), act_ne _ _ (by decide), v3]) (by rw [act_same _ _ _ (by (try simp only [act_size]); rw [hsz]; decide)]) (grown_blk hg hp2 (Ne.symm n3)) ?_
  intro w2 hblk2 hg2 hz2
  refine hK _ _ (done_ hc.f7 ?_)
  exact hpost _ (grown_blk hg2 hblk n3) hblk2 (fun B b1 b2 b3 => pw_below_grown (pw_below_grown (below_drew (Below.refl B W)) _ b3 hg (by intro k hk; injection hk with hk; omega)) _ (Nat.le_trans b3 hg.size) hg2 (by intro k hk; injection hk with hk; omega))
structure ret3Chk (ops : Array Oper) : Prop where
  f0 : anyB .any ops #[false, false, false, false] #[true, false, false, false] 0 = true
  f1 : takeB .any ops [3] #[true, false, false, false] #[true, true, false, false] 1 = true
  f2 : readyB .any ops #[true, true, false, false] #[true, true, true, false] 2 = true
  f3 : readyB .any ops #[true, true, true, false] #[true, true, true, true] 3 = true
  f4 : (Region.ready .any ops #[true, true, true, true] == []) = true
set_option maxHeartbeats 1000000 in
theorem ret3 {ops : Array Oper} {id : Nat} {Q : Exit → Act → World → Prop} {a : Act} {W : World} {g q1 q2 : Nat} {cs : List Value} {e f : Int} {y : S29} {v0 : Value} {e0 f0 : Int} (hg0 : W.heap[g]? = some (.cells cs.toArray 32 (0, 0))) (hcs : (cs.drop 0).take 2 = fc e f) (hp1 : W.heap[q1]? = some (.cells (nc y v0).toArray 29 (0, 0))) (hp2 : W.heap[q2]? = some (.cells (fc e0 f0).toArray 32 (0, 0)))
    (n1 : q1 ≠ g) (n2 : q2 ≠ g) (n3 : q1 ≠ q2)
    {o0 o1 o2 o3 : Oper} (hsize : ops.size = 4) (h0 : ops[0]? = some o0) (h1 : ops[1]? = some o1) (h2 : ops[2]? = some o2) (h3 : ops[3]? = some o3)
    (g0 : o0.guard = none ∧ o0.dst = some 18) (g1 : o1.guard = none ∧ o1.dst = some 19) (g2 : o2.guard = none ∧ o2.dst = none) (g3 : o3.guard = none ∧ o3.dst = none)
    (p0 : o0.op = .build 29 #[]) (p1 : o1.op = .load 32 (.tmp 5)) (p2 : o2.op = .store 29 (.tmp 2) (.tmp 18)) (p3 : o3.op = .store 32 (.tmp 3) (.tmp 19))
    (hsz : a.tmps.size = 93) (v5 : a.eval (.tmp 5) = .pointer (some ⟨g, 0, none⟩)) (v2 : a.eval (.tmp 2) = .pointer (some ⟨q1, 0, none⟩)) (v3 : a.eval (.tmp 3) = .pointer (some ⟨q2, 0, none⟩)) (hc : ret3Chk ops)
    (hQ : ∀ (d : Tmp) v c a w, Q (.panic c) (Act.put a (some d) v) w → Q (.panic c) a w)
    (hpost : ∀ W', W'.heap[q1]? = some (.cells (nc z29 (.slice none 0 0)).toArray 29 (0, 0)) → W'.heap[q2]? = some (.cells (fc e f).toArray 32 (0, 0)) → (∀ B, B ≤ q1 → B ≤ q2 → B ≤ W.heap.size → Below B W W') → Q .normal ((a.put (some 18) (.agg (nc z29 (.slice none 0 0)).toArray)).put (some 19) (.agg (fc e f).toArray)) W') :
    (Code.region id ops true).wp Try.prog Q a W := by
  refine start_ (n := 4) (S := fun w' => w'.heap[g]? = some (.cells cs.toArray 32 (0, 0))) (ds := [3]) #[false, false, false, false] (by kernel_rfl) hsize rfl hg0 (fun hS2 => ?_)
  refine pure_ (i := 0) (N := some 18) (v := (.agg (nc z29 (.slice none 0 0)).toArray)) #[true, false, false, false] h0 g0.2 hc.f0 (fun c a w => by rw [g0.2]; exact hQ _ _ c a w) (Or.inl ⟨by simp [Region.wanted, g0.1], run_build0 p0⟩) rfl ?_
  refine take_ (i := 1) (N := some 19) (v := (.agg (fc e f).toArray)) #[true, true, false, false] h1 g1.2 hc.f1 (fun c a w => by rw [g1.2]; exact hQ _ _ c a w) (Or.inl ⟨by simp [Region.wanted, g1.1], fun w9 hw9 => run_load32 p1 (by rw [act_ne _ _ (by decide), v5]) hw9 hcs⟩) hS2 rfl ?_
  refine YtdiadmlgeojefaaW.PrintLast.one_ (i := 2) (N := none) #[true, true, true, false] h2 g2.2 hc.f2 (by decide) (fun K hK => step_of g2.1 g2.2 ?_)
  refine ev_store29 g2.1 g2.2 (.tmp 2) (.tmp 18) p2 (b := q1) (z := z29) (v := (.slice none 0 0)) (by rw [act_ne _ _ (by decide), act_ne _ _ (by decide), v2]) (by rw [act_ne _ _ (by decide), act_same _ _ _ (by (try simp only [act_size]); rw [hsz]; decide)]) hp1 rfl ?_
  intro w1 hblk hg hz
  refine hK _ _ (grown_blk hg hg0 (Ne.symm n1)) (fun _ => ?_)
  refine last_ (i := 3) (N := none) #[true, true, true, true] h3 g3.2 hc.f3 (by decide) (fun K hK => step_of g3.1 g3.2 ?_)
  refine ev_store32 g3.1 g3.2 (.tmp 3) (.tmp 19) p3 (b := q2) (e := e) (f := f) (by rw [act_ne _ _ (by decide), act_ne _ _ (by decide), v3]) (by rw [act_same _ _ _ (by (try simp only [act_size]); rw [hsz]; decide)]) (grown_blk hg hp2 (Ne.symm n3)) ?_
  intro w2 hblk2 hg2 hz2
  refine hK _ _ (done_ hc.f4 ?_)
  exact hpost _ (grown_blk hg2 hblk n3) hblk2 (fun B b1 b2 b3 => pw_below_grown (pw_below_grown (below_drew (Below.refl B W)) _ b3 hg (by intro k hk; injection hk with hk; omega)) _ (Nat.le_trans b3 hg.size) hg2 (by intro k hk; injection hk with hk; omega))
set_option maxHeartbeats 4000000 in
set_option maxRecDepth 100000 in
theorem parse_shows {k m : Nat} (hm : m ≤ 1099511627776) (hR : ∀ L m', m' ≤ m → Shows L (run k L m')) (t : ByteArray) (T : S29) (e a : Int) (u : World) (h : parse_ k m t = some (T, e, a)) : Calls Try.prog 17 #[.string t] u (ParsePost u T e a) := by
  obtain ⟨⟨L, fe, fa⟩, hsc, h⟩ := Option.bind_eq_some_iff.1 h
  simp only at h
  have HM := aK hm
  clear hm
  have HB := aK (Below.refl u.heap.size u)
  by_cases c0 : fe = 0
  · rw [if_pos c0] at h
    have c1 : (fe != 0) = false := bne_eq_false_iff_eq.2 c0
    clear c0
    obtain ⟨⟨T1, s4⟩, hr, h⟩ := Option.bind_eq_some_iff.1 h
    simp only at h
    have HH := aK h
    have HSC := aK (hR L)
    clear h hR
    go_enter Try.func17, Try.ntmps17
    go_wp2_with (first
      | ((with_reducible refine gD 2 rfl ?_); refine ev_alloc29 rfl (N := 2) rfl rfl ?_; intro p1 hbn w1 hblk hbel; have GPp1 := aK (show u.heap.size ≤ p1 by have := HB.out.size; omega); replace HB := aK (below_step HB.out hbel); have BXp1 := aK hblk; clear hblk hbel hbn)
      | ((with_reducible refine gD 3 rfl ?_); refine ev_alloc32 rfl (N := 3) rfl rfl ?_; intro p2 hbn w1 hblk hbel; have GPp2 := aK (show u.heap.size ≤ p2 by have := HB.out.size; omega); have LTp1p2 := aK (show p1 < p2 by have := blk_lt BXp1.out; omega); replace HB := aK (below_step HB.out hbel); replace BXp1 := Zc hbel BXp1; have BXp2 := aK hblk; clear hblk hbel hbn)
      | ((with_reducible refine gD 12 rfl ?_); refine goesL_ (some 12) rfl rfl Try.func31 (by kernel_rfl) rfl #[.string t] rfl (mpT rfl) ?_; refine (podestaref15_Scan.calls k t L fe fa _ hsc).mono ?_; rintro e9 w0 ⟨v0, rfl, hR0, hbel⟩; refine ⟨_, rfl, ?_⟩; have hV0 := Kd.R_V (base' := 0) hR0; obtain ⟨A0, c9, e0⟩ := Kd.V_slice hV0; subst e0; have HC := aK (Kd.V_reads' hV0).2.2; clear hR0 hV0; replace HB := aK (below_step HB.out hbel); replace BXp1 := Zc hbel BXp1; replace BXp2 := Zc hbel BXp2; have HB0 := aK (Below.refl w0.heap.size w0); have HU0 := aK HB.out; clear hbel)
      | ((with_reducible refine gD 5 rfl ?_); refine ev_alloc32 rfl (N := 5) rfl rfl ?_; intro b5 hbn w1 hblk hbel; have GPb5 := aK (show u.heap.size ≤ b5 by have := HB.out.size; omega); have LTp1b5 := aK (show p1 < b5 by have := blk_lt BXp1.out; omega); have LTp2b5 := aK (show p2 < b5 by have := blk_lt BXp2.out; omega); have GWb5 := aK (show w0.heap.size ≤ b5 by have := HB0.out.size; omega); replace HB := aK (below_step HB.out hbel); replace BXp1 := Zc hbel BXp1; replace BXp2 := Zc hbel BXp2; replace HB0 := aK (below_step HB0.out hbel); have BXb5 := aK hblk; clear hblk hbel hbn)
      | ((with_reducible refine gate_ (.store 32 (.tmp 5) (.tmp 14)) rfl ?_); refine ev_store32 rfl rfl (.tmp 5) (.tmp 14) rfl (b := b5) (e := fe) (f := fa) rfl rfl BXb5.out ?_; intro w1 hblk hg hz; replace HB := aK (pw_below_grown HB.out _ HB.out.size hg (by intro k hk; injection hk with hk; have := GPb5.out; omega)); replace HB0 := aK (pw_below_grown HB0.out _ HB0.out.size hg (by intro k hk; injection hk with hk; have := GWb5.out; omega)); replace BXb5 := aK (hblk); replace BXp1 := Zg hg BXp1 LTp1b5; replace BXp2 := Zg hg BXp2 LTp2b5; clear hblk hg hz)
      | ((with_reducible refine gD 16 rfl ?_); refine ev_cell rfl (N := 16) rfl 30 (.tmp 15) rfl ⟨b5, 0, none⟩ rfl (.int .i64 fe) _ ((Mine.blk_cells BXb5.out 0).trans rfl) Try.underlying30 rfl ?_)
      | ((with_reducible refine gD 24 rfl ?_); refine Mine.ev_box rfl (N := 24) rfl (.tmp 23) rfl [.slice A0 L.length c9, .int .i64 0, .int .i64 (t.size : Int), .int .i64 0, .int .i64 0, .int .i64 0] rfl ?_; intro g hgn w hblk hbel; replace HB := aK (below_step HB.out hbel); replace HB0 := aK (below_step HB0.out hbel); replace BXp1 := Zc hbel BXp1; replace BXp2 := Zc hbel BXp2; have HE := aK (show EyeAt w0 w g L ⟨0, (t.size : Int), 0, 0, 0⟩ from ⟨⟨A0, c9, hblk, by have := below_blk hbel BXb5.out; have := GWb5.out; have := blk_lt BXb5.out; omega, HC.out⟩, HB0.out⟩); have GL := aK HE.out.lt; have HK := aK (KeepBut.refl w g none); have NG1 := aK (show p1 < g by have := LTp1b5.out; have := blk_lt BXb5.out; omega); have NG2 := aK (show p2 < g by have := LTp2b5.out; have := blk_lt BXb5.out; omega); have GU := aK (show u.heap.size ≤ w.heap.size from HB.out.size); clear hblk hbel hgn BXb5 HB0 HC; have BP1 := aK BXp1.out; have BP2 := aK BXp2.out; clear BXp1 BXp2)
      | ((with_reducible refine gD 7 rfl ?_); refine ev_alloc29 rfl (N := 7) rfl rfl ?_; intro b1 hbn w1 hblk hbel; have GBb1 := aK (show w.heap.size ≤ b1 by have := HK.out.1; omega); replace HE := Zf HE hbel; replace HK := Zw HK hbel; have BXb1 := aK hblk; clear hblk hbel hbn)
      | ((with_reducible refine gate_ (.store 29 (.tmp 7) (.tmp 25)) rfl ?_); refine ev_store29 rfl rfl (.tmp 7) (.tmp 25) rfl (b := b1) (z := nd 1 tk0 0 [] 0) (v := (.slice none 0 0)) rfl rfl BXb1.out rfl ?_; intro w1 hblk hg hz; replace HE := Ze HE hg GBb1 GL; replace HK := Zx HK hg GBb1; replace BXb1 := aK (hblk); clear hblk hg hz))
    clear hsc
    go_frame
    go_loopg [] m (fun kq w' => ∃ (n : S29) (s : St) (v : Value), Aside0 (run k L kq (.top n) s = some (T1, s4)) ∧ Aside0 (n.f3.length + kq ≤ m) ∧ Aside0 (EyeAt w0 w' g L s) ∧ Aside0 (KeepBut w w' g none) ∧ Aside0 (w'.heap[b1]? = some (.cells (nc n v).toArray 29 (0, 0))) ∧ Aside0 (Kd.N k29 29 w' w.heap.size (fun q => w.heap.size ≤ q ∧ q ≠ b1) v n.f3))
    case atStart => exact ⟨_, _, _, ⟨hr⟩, ⟨by simp⟩, HE, HK, BXb1, ⟨Kd.N_nil _ _ _ _ _⟩⟩
    case round =>
      clear HE HK BXb1 hr
      obtain ⟨n, s9, v, HC, LEN, HE, HK, BXb1, NR⟩ := hrel
      obtain ⟨kq, rfl⟩ : ∃ q, gk = q + 1 := by
        cases gk with
        | zero => exact absurd HC.out (by simp [run])
        | succ q => exact ⟨q, rfl⟩
      have hrun : top_ k L (run k L kq) n s9 = some (T1, s4) := HC.out
      clear HC
      have HS := aK (HSC.out kq (by have := LEN.out; omega))
      unfold top_ at hrun
      by_cases c2 : s9.e = 0
      · have c3 : (s9.e == 0) = true := beq_iff_eq.2 c2
        by_cases c4 : s9.i < (L.length : Int)
        · rw [if_pos ⟨c2, c4⟩] at hrun
          have c5 : decide (s9.i < (L.length : Int)) = true := decide_eq_true c4
          clear c2
          obtain ⟨lo, elo⟩ : ∃ n_, n_ = wr.heap.size := ⟨_, rfl⟩
          have LO := aK (show w.heap.size ≤ lo by rw [elo]; exact HK.out.1)
          have OBb1 := aK (show b1 < lo by rw [elo]; exact blk_lt BXb1.out)
          have SZ := aK (show lo ≤ wr.heap.size by rw [elo]; exact Nat.le_refl _)
          have LON := aK (show ∀ q, Value.ownBlock v = some q → q < lo by rw [elo]; exact Kd.N_lt NR.out)
          have NR0 := aK (show Kd.N k29 29 wr w.heap.size (fun q => (w.heap.size ≤ q ∧ q ≠ b1) ∧ q < lo) v n.f3 by rw [elo]; exact Kd.N_bound NR.out)
          clear NR elo
          have NR := NR0
          clear NR0
          obtain ⟨⟨at2, s10⟩, hat2, hrun1⟩ := Option.bind_eq_some_iff.1 hrun
          obtain ⟨⟨bv, s11⟩, hb, hrun2⟩ := Option.bind_eq_some_iff.1 hrun1
          obtain ⟨⟨r1, s20⟩, hr1, hrun3⟩ := Option.bind_eq_some_iff.1 hrun2
          clear hrun hrun1 hrun2
          simp only at hr1 hrun3
          have HRUN := aK hrun3
          clear hrun3
          cases bv
          · simp only [Bool.false_eq_true, if_false] at hr1
            obtain ⟨s12, h1, hr2⟩ := Option.bind_eq_some_iff.1 hr1
            obtain ⟨⟨nm, s13⟩, h2, hr3⟩ := Option.bind_eq_some_iff.1 hr2
            obtain ⟨⟨T9, s14⟩, h3, hr4⟩ := Option.bind_eq_some_iff.1 hr3
            simp only [Option.some.injEq, Prod.mk.injEq] at hr4
            obtain ⟨rfl, rfl⟩ := hr4
            clear hr1 hr2 hr3
            have e1 := HE.out.c1
            have e4 := HE.out.c4
            go_wp2_with (first
              | ((with_reducible refine gD 30 rfl ?_); refine ev_cell rfl (N := 30) rfl 30 (.tmp 29) rfl ⟨g, 4, none⟩ rfl _ _ HE.out.c4 Try.underlying30 rfl ?_)
              | ((with_reducible refine gD 42 rfl ?_); refine goesL_ (some 42) rfl rfl Try.func32 (by kernel_rfl) rfl #[eyeP g] rfl (mpT rfl) ?_; refine (eAt_calls hat2 HE.out).mono ?_; rintro e w1 ⟨rfl, he, hk⟩; refine ⟨_, rfl, ?_⟩; replace HE := aK (he); replace HK := Zk HK hk; replace BXb1 := Zb hk BXb1 GBb1 GL; replace NR := aK (Kd.N_keep NR.out hk (fun q hq e => by have h9 : w.heap.size ≤ q := hq.1.1; have := GL.out; omega)); replace SZ := aK (Nat.le_trans SZ.out hk.1); clear he hk)
              | ((with_reducible refine gD 8 rfl ?_); refine ev_alloc29 rfl (N := 8) rfl rfl ?_; intro b5 hbn w1 hblk hbel; have GBb5 := aK (show w.heap.size ≤ b5 by have := HK.out.1; omega); have LTb1b5 := aK (show b1 < b5 by have := blk_lt BXb1.out; omega); have NBb5 := aK (show lo ≤ b5 by have := SZ.out; omega); replace HE := Zf HE hbel; replace HK := Zw HK hbel; replace BXb1 := Zc hbel BXb1; replace NR := aK (Kd.N_below NR.out hbel); replace SZ := aK (Nat.le_trans SZ.out hbel.size); have BXb5 := aK hblk; clear hblk hbel hbn)
              | ((with_reducible refine gate_ (.store 29 (.tmp 8) (.tmp 43)) rfl ?_); refine ev_store29 rfl rfl (.tmp 8) (.tmp 43) rfl (b := b5) (z := nd 0 tk0 0 [] at2) (v := (.slice none 0 0)) rfl rfl BXb5.out rfl ?_; intro w1 hblk hg hz; replace HE := Ze HE hg GBb5 GL; replace HK := Zx HK hg GBb5; replace BXb1 := Zg hg BXb1 LTb1b5; replace BXb5 := aK (hblk); replace NR := aK (Kd.N_grown NR.out hg (fun q hq e => by injection e with e; have h9 : q < lo := hq.2; have := NBb5.out; omega)); replace SZ := aK (Nat.le_trans SZ.out hg.size); clear hblk hg hz)
              | ((with_reducible refine gD 45 rfl ?_); refine goesL_ (some 45) rfl rfl Try.func33 (by kernel_rfl) rfl #[eyeP g, .string ⟨#[118, 97, 114]⟩] rfl (mpT rfl) ?_; refine (eEat_calls hb HE.out).mono ?_; rintro e w1 ⟨rfl, he, hk⟩; refine ⟨_, rfl, ?_⟩; replace HE := aK (he); replace HK := Zk HK hk; replace BXb1 := Zb hk BXb1 GBb1 GL; replace BXb5 := Zb hk BXb5 GBb5 GL; replace NR := aK (Kd.N_keep NR.out hk (fun q hq e => by have h9 : w.heap.size ≤ q := hq.1.1; have := GL.out; omega)); replace SZ := aK (Nat.le_trans SZ.out hk.1); clear he hk)
              | ((with_reducible refine gD 65 rfl ?_); refine goesL_ (some 65) rfl rfl Try.func35 (by kernel_rfl) rfl #[eyeP g, .string ⟨#[111, 110]⟩] rfl (mpT rfl) ?_; refine (eMust_calls h1 HE.out).mono ?_; rintro e w1 ⟨rfl, he, hk⟩; refine ⟨_, rfl, ?_⟩; replace HE := aK (he); replace HK := Zk HK hk; replace BXb1 := Zb hk BXb1 GBb1 GL; replace BXb5 := Zb hk BXb5 GBb5 GL; replace NR := aK (Kd.N_keep NR.out hk (fun q hq e => by have h9 : w.heap.size ≤ q := hq.1.1; have := GL.out; omega)); replace SZ := aK (Nat.le_trans SZ.out hk.1); clear he hk)
              | ((with_reducible refine gate_ (.store 3 (.tmp 66) (.const (.int .i64 3))) rfl ?_); refine ev_field29 rfl rfl 3 (.tmp 66) (.const (.int .i64 3)) rfl (b := b5) 0 (.int .i64 3) rfl rfl BXb5.out (by omega) rfl rfl (by kernel_rfl) (nd 3 tk0 0 [] at2) ((.slice none 0 0)) rfl ?_; intro w1 hblk hg hz; replace HE := Ze HE hg GBb5 GL; replace HK := Zx HK hg GBb5; replace BXb1 := Zg hg BXb1 LTb1b5; replace BXb5 := aK (hblk); replace NR := aK (Kd.N_grown NR.out hg (fun q hq e => by injection e with e; have h9 : q < lo := hq.2; have := NBb5.out; omega)); replace SZ := aK (Nat.le_trans SZ.out hg.size); clear hblk hg hz)
              | ((with_reducible refine gD 68 rfl ?_); refine goesL_ (some 68) rfl rfl Try.func34 (by kernel_rfl) rfl #[eyeP g] rfl (mpT rfl) ?_; refine (eName_calls h2 HE.out).mono ?_; rintro e w1 ⟨rfl, he, hk⟩; refine ⟨_, rfl, ?_⟩; replace HE := aK (he); replace HK := Zk HK hk; replace BXb1 := Zb hk BXb1 GBb1 GL; replace BXb5 := Zb hk BXb5 GBb5 GL; replace NR := aK (Kd.N_keep NR.out hk (fun q hq e => by have h9 : w.heap.size ≤ q := hq.1.1; have := GL.out; omega)); replace SZ := aK (Nat.le_trans SZ.out hk.1); clear he hk)
              | ((with_reducible refine gate_ (.store 9 (.tmp 69) (.tmp 68)) rfl ?_); refine ev_field29 rfl rfl 9 (.tmp 69) (.tmp 68) rfl (b := b5) 1 (.string nm) rfl rfl BXb5.out (by omega) rfl rfl (by kernel_rfl) (nd 3 nm 0 [] at2) ((.slice none 0 0)) rfl ?_; intro w1 hblk hg hz; replace HE := Ze HE hg GBb5 GL; replace HK := Zx HK hg GBb5; replace BXb1 := Zg hg BXb1 LTb1b5; replace BXb5 := aK (hblk); replace NR := aK (Kd.N_grown NR.out hg (fun q hq e => by injection e with e; have h9 : q < lo := hq.2; have := NBb5.out; omega)); replace SZ := aK (Nat.le_trans SZ.out hg.size); clear hblk hg hz)
              | ((with_reducible refine gD 71 rfl ?_); refine goesL_ (some 71) rfl rfl Try.func37 (by kernel_rfl) rfl #[eyeP g] rfl (mpT rfl) ?_; refine (HS.out.2.2.2.2.2.1 _ _ _ h3 _ _ _ HE.out).mono ?_; rintro e w1 ⟨v1, rfl, hv, he, hk⟩; refine ⟨_, rfl, ?_⟩; have hv2 := Kd.V_mono hv (ok' := fun q => lo ≤ q ∧ q ≠ b5) (fun q hq => by have h8 := hq; have h9 := SZ.out; have h7b5 := blk_lt BXb5.out; refine ⟨?_, ?_⟩ <;> omega); clear hv; replace HE := aK (he); replace HK := Zk HK hk; replace BXb1 := Zb hk BXb1 GBb1 GL; replace BXb5 := Zb hk BXb5 GBb5 GL; replace NR := aK (Kd.N_keep NR.out hk (fun q hq e => by have h9 : w.heap.size ≤ q := hq.1.1; have := GL.out; omega)); replace SZ := aK (Nat.le_trans SZ.out hk.1); have Vv1 := aK hv2; clear he hk hv2)
              | ((with_reducible refine gD 72 rfl ?_); refine ev_kids rfl (N := 72) rfl (.tmp 71) rfl rfl ?_)
              | ((with_reducible refine gate_ (.store 27 (.tmp 73) (.tmp 72)) rfl ?_); refine ev_field29 rfl rfl 27 (.tmp 73) (.tmp 72) rfl (b := b5) 3 (v1) rfl rfl BXb5.out (by omega) (VK_cells Vv1.out) (VK_one Vv1.out) (by kernel_rfl) (nd 3 nm 0 T9.f3 at2) (v1) rfl ?_; intro w1 hblk hg hz; replace HE := Ze HE hg GBb5 GL; replace HK := Zx HK hg GBb5; replace BXb1 := Zg hg BXb1 LTb1b5; replace BXb5 := aK (hblk); replace Vv1 := aK (Kd.V_grown Vv1.out hg (fun q hq e => by injection e with e; exact hq.2 e)); replace NR := aK (Kd.N_grown NR.out hg (fun q hq e => by injection e with e; have h9 : q < lo := hq.2; have := NBb5.out; omega)); replace SZ := aK (Nat.le_trans SZ.out hg.size); clear hblk hg hz)
              | ((with_reducible refine gD 75 rfl ?_); refine ev_cell rfl (N := 75) rfl 27 (.tmp 74) rfl ⟨b1, 3, none⟩ rfl (v) _ ((Mine.blk_cells BXb1.out 3).trans rfl) Try.underlying27 rfl ?_)
              | ((with_reducible refine gD 76 rfl ?_); refine ev_load29 rfl (N := 76) rfl (.tmp 8) rfl (b := b5) rfl BXb5.out ?_)
              | ((with_reducible refine gD 77 rfl ?_); refine Mine.ev_lit1 rfl (N := 77) rfl 27 29 (.tmp 76) rfl (nc (nd 3 nm 0 T9.f3 at2) (v1)) rfl Try.underlying27 info29 rfl (by omega) (by omega) ?_)
              | ((with_reducible refine gate_builtin (b := .append) (xs := #[.tmp 75, .tmp 77]) rfl ?_); at_builtin; refine Kd.N_append k29 (w0 := _) w.heap.size rfl (.tmp 75) (.tmp 77) 27 29 _ 64 rfl Try.underlying27 info29 rfl (by decide) (by omega) v n.f3 (nd 3 nm 0 T9.f3 at2) (nc (nd 3 nm 0 T9.f3 at2) (v1)) (fun q => w.heap.size ≤ q ∧ q ≠ b1) (fun q => lo ≤ q ∧ q ≠ b5) rfl rfl ?aP ?aK ?aF ?aO (Below.refl _ _) ?aS ?aL ?_; (case aP => exact nc_FK Vv1.out); (case aK => exact fun q hq => ⟨by have h9 : lo ≤ q := hq.1; have := LO.out; have h6b1 := OBb1.out; exact ⟨by omega, by omega⟩, fun e => by have h9 : lo ≤ q := hq.1; have := LO.out; have := LON.out q e.symm; omega⟩); (case aF => exact fun q hq => by have h9 := hq; have h8 := HK.out.1; have h7b1 := blk_lt BXb1.out; refine ⟨by omega, by omega⟩); (case aO => exact Kd.N_mono NR.out (fun q hq => hq.1)); (case aS => exact HK.out.1); (case aL => have := LEN.out; have := HM.out; omega); intro v3 w1 hn hb9 hg hat; clear hb9 hat; have HO := fun q (h : Value.ownBlock v = some q) => (NR.out.1 q h).1; replace HE := aK (eye_row HE.out hg (fun q h => by have h9 : w.heap.size ≤ q := (HO q h).1; have := GL.out; have := HE.out.ge; exact ⟨by omega, by omega⟩)); replace HK := aK (keep_row HK.out hg (fun q h => (HO q h).1)); replace BXb1 := aK (row_blk hg BXb1.out (fun q h => (HO q h).2)); replace SZ := aK (Nat.le_trans SZ.out hg.size); have NRA := aK hn; clear hn hg HO NR BXb5 Vv1)
              | ((with_reducible refine gate_ (.store 27 (.tmp 79) (.tmp 78)) rfl ?_); refine ev_field29 rfl rfl 27 (.tmp 79) (.tmp 78) rfl (b := b1) 3 (v3) rfl rfl BXb1.out (by omega) (Kd.N_val NRA.out).1 (Kd.N_val NRA.out).2 (by kernel_rfl) (addKid n (nd 3 nm 0 T9.f3 at2)) (v3) rfl ?_; intro w1 hblk hg hz; replace HE := Ze HE hg GBb1 GL; replace HK := Zx HK hg GBb1; replace BXb1 := aK (hblk); replace NRA := aK (Kd.N_grown NRA.out hg (fun q hq e => by injection e with e; exact hq.2 e)); replace SZ := aK (Nat.le_trans SZ.out hg.size); clear hblk hg hz))
            go_roundg kq
            case rel => exact ⟨addKid n (nd 3 nm 0 T9.f3 at2), _, v3, HRUN, ⟨by have := LEN.out; simp; omega⟩, HE, HK, BXb1, NRA⟩
            case measure => omega
          · simp only [if_true] at hr1
            obtain ⟨⟨nm, s12⟩, h1, hr2⟩ := Option.bind_eq_some_iff.1 hr1
            obtain ⟨s13, h2, hr3⟩ := Option.bind_eq_some_iff.1 hr2
            obtain ⟨⟨bm, s14⟩, h3, hr4⟩ := Option.bind_eq_some_iff.1 hr3
            obtain ⟨⟨iv, s15⟩, h4, hr5⟩ := Option.bind_eq_some_iff.1 hr4
            obtain ⟨s16, h5, hr6⟩ := Option.bind_eq_some_iff.1 hr5
            clear hr1 hr2 hr3 hr4 hr5
            cases bm
            · simp only [Bool.false_eq_true, if_false, Option.some.injEq, Prod.mk.injEq] at hr6
              obtain ⟨rfl, rfl⟩ := hr6
              have e1 := HE.out.c1
              have e4 := HE.out.c4
              go_wp2_with (first
                | ((with_reducible refine gD 30 rfl ?_); refine ev_cell rfl (N := 30) rfl 30 (.tmp 29) rfl ⟨g, 4, none⟩ rfl _ _ HE.out.c4 Try.underlying30 rfl ?_)
                | ((with_reducible refine gD 42 rfl ?_); refine goesL_ (some 42) rfl rfl Try.func32 (by kernel_rfl) rfl #[eyeP g] rfl (mpT rfl) ?_; refine (eAt_calls hat2 HE.out).mono ?_; rintro e w1 ⟨rfl, he, hk⟩; refine ⟨_, rfl, ?_⟩; replace HE := aK (he); replace HK := Zk HK hk; replace BXb1 := Zb hk BXb1 GBb1 GL; replace NR := aK (Kd.N_keep NR.out hk (fun q hq e => by have h9 : w.heap.size ≤ q := hq.1.1; have := GL.out; omega)); replace SZ := aK (Nat.le_trans SZ.out hk.1); clear he hk)
                | ((with_reducible refine gD 8 rfl ?_); refine ev_alloc29 rfl (N := 8) rfl rfl ?_; intro b5 hbn w1 hblk hbel; have GBb5 := aK (show w.heap.size ≤ b5 by have := HK.out.1; omega); have LTb1b5 := aK (show b1 < b5 by have := blk_lt BXb1.out; omega); have NBb5 := aK (show lo ≤ b5 by have := SZ.out; omega); replace HE := Zf HE hbel; replace HK := Zw HK hbel; replace BXb1 := Zc hbel BXb1; replace NR := aK (Kd.N_below NR.out hbel); replace SZ := aK (Nat.le_trans SZ.out hbel.size); have BXb5 := aK hblk; clear hblk hbel hbn)
                | ((with_reducible refine gate_ (.store 29 (.tmp 8) (.tmp 43)) rfl ?_); refine ev_store29 rfl rfl (.tmp 8) (.tmp 43) rfl (b := b5) (z := nd 0 tk0 0 [] at2) (v := (.slice none 0 0)) rfl rfl BXb5.out rfl ?_; intro w1 hblk hg hz; replace HE := Ze HE hg GBb5 GL; replace HK := Zx HK hg GBb5; replace BXb1 := Zg hg BXb1 LTb1b5; replace BXb5 := aK (hblk); replace NR := aK (Kd.N_grown NR.out hg (fun q hq e => by injection e with e; have h9 : q < lo := hq.2; have := NBb5.out; omega)); replace SZ := aK (Nat.le_trans SZ.out hg.size); clear hblk hg hz)
                | ((with_reducible refine gD 45 rfl ?_); refine goesL_ (some 45) rfl rfl Try.func33 (by kernel_rfl) rfl #[eyeP g, .string ⟨#[118, 97, 114]⟩] rfl (mpT rfl) ?_; refine (eEat_calls hb HE.out).mono ?_; rintro e w1 ⟨rfl, he, hk⟩; refine ⟨_, rfl, ?_⟩; replace HE := aK (he); replace HK := Zk HK hk; replace BXb1 := Zb hk BXb1 GBb1 GL; replace BXb5 := Zb hk BXb5 GBb5 GL; replace NR := aK (Kd.N_keep NR.out hk (fun q hq e => by have h9 : w.heap.size ≤ q := hq.1.1; have := GL.out; omega)); replace SZ := aK (Nat.le_trans SZ.out hk.1); clear he hk)
                | ((with_reducible refine gate_ (.store 3 (.tmp 46) (.const (.int .i64 2))) rfl ?_); refine ev_field29 rfl rfl 3 (.tmp 46) (.const (.int .i64 2)) rfl (b := b5) 0 (.int .i64 2) rfl rfl BXb5.out (by omega) rfl rfl (by kernel_rfl) (nd 2 tk0 0 [] at2) ((.slice none 0 0)) rfl ?_; intro w1 hblk hg hz; replace HE := Ze HE hg GBb5 GL; replace HK := Zx HK hg GBb5; replace BXb1 := Zg hg BXb1 LTb1b5; replace BXb5 := aK (hblk); replace NR := aK (Kd.N_grown NR.out hg (fun q hq e => by injection e with e; have h9 : q < lo := hq.2; have := NBb5.out; omega)); replace SZ := aK (Nat.le_trans SZ.out hg.size); clear hblk hg hz)
                | ((with_reducible refine gD 48 rfl ?_); refine goesL_ (some 48) rfl rfl Try.func34 (by kernel_rfl) rfl #[eyeP g] rfl (mpT rfl) ?_; refine (eName_calls h1 HE.out).mono ?_; rintro e w1 ⟨rfl, he, hk⟩; refine ⟨_, rfl, ?_⟩; replace HE := aK (he); replace HK := Zk HK hk; replace BXb1 := Zb hk BXb1 GBb1 GL; replace BXb5 := Zb hk BXb5 GBb5 GL; replace NR := aK (Kd.N_keep NR.out hk (fun q hq e => by have h9 : w.heap.size ≤ q := hq.1.1; have := GL.out; omega)); replace SZ := aK (Nat.le_trans SZ.out hk.1); clear he hk)
                | ((with_reducible refine gate_ (.store 9 (.tmp 49) (.tmp 48)) rfl ?_); refine ev_field29 rfl rfl 9 (.tmp 49) (.tmp 48) rfl (b := b5) 1 (.string nm) rfl rfl BXb5.out (by omega) rfl rfl (by kernel_rfl) (nd 2 nm 0 [] at2) ((.slice none 0 0)) rfl ?_; intro w1 hblk hg hz; replace HE := Ze HE hg GBb5 GL; replace HK := Zx HK hg GBb5; replace BXb1 := Zg hg BXb1 LTb1b5; replace BXb5 := aK (hblk); replace NR := aK (Kd.N_grown NR.out hg (fun q hq e => by injection e with e; have h9 : q < lo := hq.2; have := NBb5.out; omega)); replace SZ := aK (Nat.le_trans SZ.out hg.size); clear hblk hg hz)
                | ((with_reducible refine gD 51 rfl ?_); refine goesL_ (some 51) rfl rfl Try.func35 (by kernel_rfl) rfl #[eyeP g, .string ⟨#[61]⟩] rfl (mpT rfl) ?_; refine (eMust_calls h2 HE.out).mono ?_; rintro e w1 ⟨rfl, he, hk⟩; refine ⟨_, rfl, ?_⟩; replace HE := aK (he); replace HK := Zk HK hk; replace BXb1 := Zb hk BXb1 GBb1 GL; replace BXb5 := Zb hk BXb5 GBb5 GL; replace NR := aK (Kd.N_keep NR.out hk (fun q hq e => by have h9 : w.heap.size ≤ q := hq.1.1; have := GL.out; omega)); replace SZ := aK (Nat.le_trans SZ.out hk.1); clear he hk)
                | ((with_reducible refine gD 53 rfl ?_); refine goesL_ (some 53) rfl rfl Try.func33 (by kernel_rfl) rfl #[eyeP g, .string ⟨#[45]⟩] rfl (mpT rfl) ?_; refine (eEat_calls h3 HE.out).mono ?_; rintro e w1 ⟨rfl, he, hk⟩; refine ⟨_, rfl, ?_⟩; replace HE := aK (he); replace HK := Zk HK hk; replace BXb1 := Zb hk BXb1 GBb1 GL; replace BXb5 := Zb hk BXb5 GBb5 GL; replace NR := aK (Kd.N_keep NR.out hk (fun q hq e => by have h9 : w.heap.size ≤ q := hq.1.1; have := GL.out; omega)); replace SZ := aK (Nat.le_trans SZ.out hk.1); clear he hk)
                | ((with_reducible refine gD 55 rfl ?_); refine goesL_ (some 55) rfl rfl Try.func36 (by kernel_rfl) rfl #[eyeP g] rfl (mpT rfl) ?_; refine (eInt_calls h4 HE.out).mono ?_; rintro e w1 ⟨rfl, he, hk⟩; refine ⟨_, rfl, ?_⟩; replace HE := aK (he); replace HK := Zk HK hk; replace BXb1 := Zb hk BXb1 GBb1 GL; replace BXb5 := Zb hk BXb5 GBb5 GL; replace NR := aK (Kd.N_keep NR.out hk (fun q hq e => by have h9 : w.heap.size ≤ q := hq.1.1; have := GL.out; omega)); replace SZ := aK (Nat.le_trans SZ.out hk.1); clear he hk)
                | ((with_reducible refine gate_ (.store 3 (.tmp 56) (.tmp 55)) rfl ?_); refine ev_field29 rfl rfl 3 (.tmp 56) (.tmp 55) rfl (b := b5) 2 (.int .i64 iv) rfl rfl BXb5.out (by omega) rfl rfl (by kernel_rfl) (nd 2 nm iv [] at2) ((.slice none 0 0)) rfl ?_; intro w1 hblk hg hz; replace HE := Ze HE hg GBb5 GL; replace HK := Zx HK hg GBb5; replace BXb1 := Zg hg BXb1 LTb1b5; replace BXb5 := aK (hblk); replace NR := aK (Kd.N_grown NR.out hg (fun q hq e => by injection e with e; have h9 : q < lo := hq.2; have := NBb5.out; omega)); replace SZ := aK (Nat.le_trans SZ.out hg.size); clear hblk hg hz)
                | ((with_reducible refine gD 63 rfl ?_); refine goesL_ (some 63) rfl rfl Try.func35 (by kernel_rfl) rfl #[eyeP g, .string ⟨#[59]⟩] rfl (mpT rfl) ?_; refine (eMust_calls h5 HE.out).mono ?_; rintro e w1 ⟨rfl, he, hk⟩; refine ⟨_, rfl, ?_⟩; replace HE := aK (he); replace HK := Zk HK hk; replace BXb1 := Zb hk BXb1 GBb1 GL; replace BXb5 := Zb hk BXb5 GBb5 GL; replace NR := aK (Kd.N_keep NR.out hk (fun q hq e => by have h9 : w.heap.size ≤ q := hq.1.1; have := GL.out; omega)); replace SZ := aK (Nat.le_trans SZ.out hk.1); clear he hk)
                | ((with_reducible refine gD 75 rfl ?_); refine ev_cell rfl (N := 75) rfl 27 (.tmp 74) rfl ⟨b1, 3, none⟩ rfl (v) _ ((Mine.blk_cells BXb1.out 3).trans rfl) Try.underlying27 rfl ?_)
                | ((with_reducible refine gD 76 rfl ?_); refine ev_load29 rfl (N := 76) rfl (.tmp 8) rfl (b := b5) rfl BXb5.out ?_)
                | ((with_reducible refine gD 77 rfl ?_); refine Mine.ev_lit1 rfl (N := 77) rfl 27 29 (.tmp 76) rfl (nc (nd 2 nm iv [] at2) ((.slice none 0 0))) rfl Try.underlying27 info29 rfl (by omega) (by omega) ?_)
                | ((with_reducible refine gate_builtin (b := .append) (xs := #[.tmp 75, .tmp 77]) rfl ?_); at_builtin; refine Kd.N_append k29 (w0 := _) w.heap.size rfl (.tmp 75) (.tmp 77) 27 29 _ 64 rfl Try.underlying27 info29 rfl (by decide) (by omega) v n.f3 (nd 2 nm iv [] at2) (nc (nd 2 nm iv [] at2) ((.slice none 0 0))) (fun q => w.heap.size ≤ q ∧ q ≠ b1) (fun q => lo ≤ q ∧ q ≠ b5) rfl rfl ?aP ?aK ?aF ?aO (Below.refl _ _) ?aS ?aL ?_; (case aP => exact nc_FK (Kd.V_nil _ _ _ _ _)); (case aK => exact fun q hq => ⟨by have h9 : lo ≤ q := hq.1; have := LO.out; have h6b1 := OBb1.out; exact ⟨by omega, by omega⟩, fun e => by have h9 : lo ≤ q := hq.1; have := LO.out; have := LON.out q e.symm; omega⟩); (case aF => exact fun q hq => by have h9 := hq; have h8 := HK.out.1; have h7b1 := blk_lt BXb1.out; refine ⟨by omega, by omega⟩); (case aO => exact Kd.N_mono NR.out (fun q hq => hq.1)); (case aS => exact HK.out.1); (case aL => have := LEN.out; have := HM.out; omega); intro v3 w1 hn hb9 hg hat; clear hb9 hat; have HO := fun q (h : Value.ownBlock v = some q) => (NR.out.1 q h).1; replace HE := aK (eye_row HE.out hg (fun q h => by have h9 : w.heap.size ≤ q := (HO q h).1; have := GL.out; have := HE.out.ge; exact ⟨by omega, by omega⟩)); replace HK := aK (keep_row HK.out hg (fun q h => (HO q h).1)); replace BXb1 := aK (row_blk hg BXb1.out (fun q h => (HO q h).2)); replace SZ := aK (Nat.le_trans SZ.out hg.size); have NRA := aK hn; clear hn hg HO NR BXb5)
                | ((with_reducible refine gate_ (.store 27 (.tmp 79) (.tmp 78)) rfl ?_); refine ev_field29 rfl rfl 27 (.tmp 79) (.tmp 78) rfl (b := b1) 3 (v3) rfl rfl BXb1.out (by omega) (Kd.N_val NRA.out).1 (Kd.N_val NRA.out).2 (by kernel_rfl) (addKid n (nd 2 nm iv [] at2)) (v3) rfl ?_; intro w1 hblk hg hz; replace HE := Ze HE hg GBb1 GL; replace HK := Zx HK hg GBb1; replace BXb1 := aK (hblk); replace NRA := aK (Kd.N_grown NRA.out hg (fun q hq e => by injection e with e; exact hq.2 e)); replace SZ := aK (Nat.le_trans SZ.out hg.size); clear hblk hg hz))
              go_roundg kq
              case rel => exact ⟨addKid n (nd 2 nm iv [] at2), _, v3, HRUN, ⟨by have := LEN.out; simp; omega⟩, HE, HK, BXb1, NRA⟩
              case measure => omega
            · simp only [if_true, Option.some.injEq, Prod.mk.injEq] at hr6
              obtain ⟨rfl, rfl⟩ := hr6
              have e1 := HE.out.c1
              have e4 := HE.out.c4
              go_wp2_with (first
                | ((with_reducible refine gD 30 rfl ?_); refine ev_cell rfl (N := 30) rfl 30 (.tmp 29) rfl ⟨g, 4, none⟩ rfl _ _ HE.out.c4 Try.underlying30 rfl ?_)
                | ((with_reducible refine gD 42 rfl ?_); refine goesL_ (some 42) rfl rfl Try.func32 (by kernel_rfl) rfl #[eyeP g] rfl (mpT rfl) ?_; refine (eAt_calls hat2 HE.out).mono ?_; rintro e w1 ⟨rfl, he, hk⟩; refine ⟨_, rfl, ?_⟩; replace HE := aK (he); replace HK := Zk HK hk; replace BXb1 := Zb hk BXb1 GBb1 GL; replace NR := aK (Kd.N_keep NR.out hk (fun q hq e => by have h9 : w.heap.size ≤ q := hq.1.1; have := GL.out; omega)); replace SZ := aK (Nat.le_trans SZ.out hk.1); clear he hk)
                | ((with_reducible refine gD 8 rfl ?_); refine ev_alloc29 rfl (N := 8) rfl rfl ?_; intro b5 hbn w1 hblk hbel; have GBb5 := aK (show w.heap.size ≤ b5 by have := HK.out.1; omega); have LTb1b5 := aK (show b1 < b5 by have := blk_lt BXb1.out; omega); have NBb5 := aK (show lo ≤ b5 by have := SZ.out; omega); replace HE := Zf HE hbel; replace HK := Zw HK hbel; replace BXb1 := Zc hbel BXb1; replace NR := aK (Kd.N_below NR.out hbel); replace SZ := aK (Nat.le_trans SZ.out hbel.size); have BXb5 := aK hblk; clear hblk hbel hbn)
                | ((with_reducible refine gate_ (.store 29 (.tmp 8) (.tmp 43)) rfl ?_); refine ev_store29 rfl rfl (.tmp 8) (.tmp 43) rfl (b := b5) (z := nd 0 tk0 0 [] at2) (v := (.slice none 0 0)) rfl rfl BXb5.out rfl ?_; intro w1 hblk hg hz; replace HE := Ze HE hg GBb5 GL; replace HK := Zx HK hg GBb5; replace BXb1 := Zg hg BXb1 LTb1b5; replace BXb5 := aK (hblk); replace NR := aK (Kd.N_grown NR.out hg (fun q hq e => by injection e with e; have h9 : q < lo := hq.2; have := NBb5.out; omega)); replace SZ := aK (Nat.le_trans SZ.out hg.size); clear hblk hg hz)
                | ((with_reducible refine gD 45 rfl ?_); refine goesL_ (some 45) rfl rfl Try.func33 (by kernel_rfl) rfl #[eyeP g, .string ⟨#[118, 97, 114]⟩] rfl (mpT rfl) ?_; refine (eEat_calls hb HE.out).mono ?_; rintro e w1 ⟨rfl, he, hk⟩; refine ⟨_, rfl, ?_⟩; replace HE := aK (he); replace HK := Zk HK hk; replace BXb1 := Zb hk BXb1 GBb1 GL; replace BXb5 := Zb hk BXb5 GBb5 GL; replace NR := aK (Kd.N_keep NR.out hk (fun q hq e => by have h9 : w.heap.size ≤ q := hq.1.1; have := GL.out; omega)); replace SZ := aK (Nat.le_trans SZ.out hk.1); clear he hk)
                | ((with_reducible refine gate_ (.store 3 (.tmp 46) (.const (.int .i64 2))) rfl ?_); refine ev_field29 rfl rfl 3 (.tmp 46) (.const (.int .i64 2)) rfl (b := b5) 0 (.int .i64 2) rfl rfl BXb5.out (by omega) rfl rfl (by kernel_rfl) (nd 2 tk0 0 [] at2) ((.slice none 0 0)) rfl ?_; intro w1 hblk hg hz; replace HE := Ze HE hg GBb5 GL; replace HK := Zx HK hg GBb5; replace BXb1 := Zg hg BXb1 LTb1b5; replace BXb5 := aK (hblk); replace NR := aK (Kd.N_grown NR.out hg (fun q hq e => by injection e with e; have h9 : q < lo := hq.2; have := NBb5.out; omega)); replace SZ := aK (Nat.le_trans SZ.out hg.size); clear hblk hg hz)
                | ((with_reducible refine gD 48 rfl ?_); refine goesL_ (some 48) rfl rfl Try.func34 (by kernel_rfl) rfl #[eyeP g] rfl (mpT rfl) ?_; refine (eName_calls h1 HE.out).mono ?_; rintro e w1 ⟨rfl, he, hk⟩; refine ⟨_, rfl, ?_⟩; replace HE := aK (he); replace HK := Zk HK hk; replace BXb1 := Zb hk BXb1 GBb1 GL; replace BXb5 := Zb hk BXb5 GBb5 GL; replace NR := aK (Kd.N_keep NR.out hk (fun q hq e => by have h9 : w.heap.size ≤ q := hq.1.1; have := GL.out; omega)); replace SZ := aK (Nat.le_trans SZ.out hk.1); clear he hk)
                | ((with_reducible refine gate_ (.store 9 (.tmp 49) (.tmp 48)) rfl ?_); refine ev_field29 rfl rfl 9 (.tmp 49) (.tmp 48) rfl (b := b5) 1 (.string nm) rfl rfl BXb5.out (by omega) rfl rfl (by kernel_rfl) (nd 2 nm 0 [] at2) ((.slice none 0 0)) rfl ?_; intro w1 hblk hg hz; replace HE := Ze HE hg GBb5 GL; replace HK := Zx HK hg GBb5; replace BXb1 := Zg hg BXb1 LTb1b5; replace BXb5 := aK (hblk); replace NR := aK (Kd.N_grown NR.out hg (fun q hq e => by injection e with e; have h9 : q < lo := hq.2; have := NBb5.out; omega)); replace SZ := aK (Nat.le_trans SZ.out hg.size); clear hblk hg hz)
                | ((with_reducible refine gD 51 rfl ?_); refine goesL_ (some 51) rfl rfl Try.func35 (by kernel_rfl) rfl #[eyeP g, .string ⟨#[61]⟩] rfl (mpT rfl) ?_; refine (eMust_calls h2 HE.out).mono ?_; rintro e w1 ⟨rfl, he, hk⟩; refine ⟨_, rfl, ?_⟩; replace HE := aK (he); replace HK := Zk HK hk; replace BXb1 := Zb hk BXb1 GBb1 GL; replace BXb5 := Zb hk BXb5 GBb5 GL; replace NR := aK (Kd.N_keep NR.out hk (fun q hq e => by have h9 : w.heap.size ≤ q := hq.1.1; have := GL.out; omega)); replace SZ := aK (Nat.le_trans SZ.out hk.1); clear he hk)
                | ((with_reducible refine gD 53 rfl ?_); refine goesL_ (some 53) rfl rfl Try.func33 (by kernel_rfl) rfl #[eyeP g, .string ⟨#[45]⟩] rfl (mpT rfl) ?_; refine (eEat_calls h3 HE.out).mono ?_; rintro e w1 ⟨rfl, he, hk⟩; refine ⟨_, rfl, ?_⟩; replace HE := aK (he); replace HK := Zk HK hk; replace BXb1 := Zb hk BXb1 GBb1 GL; replace BXb5 := Zb hk BXb5 GBb5 GL; replace NR := aK (Kd.N_keep NR.out hk (fun q hq e => by have h9 : w.heap.size ≤ q := hq.1.1; have := GL.out; omega)); replace SZ := aK (Nat.le_trans SZ.out hk.1); clear he hk)
                | ((with_reducible refine gD 55 rfl ?_); refine goesL_ (some 55) rfl rfl Try.func36 (by kernel_rfl) rfl #[eyeP g] rfl (mpT rfl) ?_; refine (eInt_calls h4 HE.out).mono ?_; rintro e w1 ⟨rfl, he, hk⟩; refine ⟨_, rfl, ?_⟩; replace HE := aK (he); replace HK := Zk HK hk; replace BXb1 := Zb hk BXb1 GBb1 GL; replace BXb5 := Zb hk BXb5 GBb5 GL; replace NR := aK (Kd.N_keep NR.out hk (fun q hq e => by have h9 : w.heap.size ≤ q := hq.1.1; have := GL.out; omega)); replace SZ := aK (Nat.le_trans SZ.out hk.1); clear he hk)
                | ((with_reducible refine gate_ (.store 3 (.tmp 56) (.tmp 55)) rfl ?_); refine ev_field29 rfl rfl 3 (.tmp 56) (.tmp 55) rfl (b := b5) 2 (.int .i64 iv) rfl rfl BXb5.out (by omega) rfl rfl (by kernel_rfl) (nd 2 nm iv [] at2) ((.slice none 0 0)) rfl ?_; intro w1 hblk hg hz; replace HE := Ze HE hg GBb5 GL; replace HK := Zx HK hg GBb5; replace BXb1 := Zg hg BXb1 LTb1b5; replace BXb5 := aK (hblk); replace NR := aK (Kd.N_grown NR.out hg (fun q hq e => by injection e with e; have h9 : q < lo := hq.2; have := NBb5.out; omega)); replace SZ := aK (Nat.le_trans SZ.out hg.size); clear hblk hg hz)
                | ((with_reducible refine gD 59 rfl ?_); refine ev_cell rfl (N := 59) rfl 3 (.tmp 58) rfl ⟨b5, 2, none⟩ rfl (.int .i64 iv) _ ((Mine.blk_cells BXb5.out 2).trans rfl) Try.underlying3 rfl ?_)
                | ((with_reducible refine gate_ (.store 3 (.tmp 61) (.tmp 60)) rfl ?_); refine ev_field29 rfl rfl 3 (.tmp 61) (.tmp 60) rfl (b := b5) 2 (.int .i64 (wrap64 (-iv))) rfl rfl BXb5.out (by omega) rfl rfl (by kernel_rfl) (nd 2 nm (wrap64 (-iv)) [] at2) ((.slice none 0 0)) rfl ?_; intro w1 hblk hg hz; replace HE := Ze HE hg GBb5 GL; replace HK := Zx HK hg GBb5; replace BXb1 := Zg hg BXb1 LTb1b5; replace BXb5 := aK (hblk); replace NR := aK (Kd.N_grown NR.out hg (fun q hq e => by injection e with e; have h9 : q < lo := hq.2; have := NBb5.out; omega)); replace SZ := aK (Nat.le_trans SZ.out hg.size); clear hblk hg hz)
                | ((with_reducible refine gD 63 rfl ?_); refine goesL_ (some 63) rfl rfl Try.func35 (by kernel_rfl) rfl #[eyeP g, .string ⟨#[59]⟩] rfl (mpT rfl) ?_; refine (eMust_calls h5 HE.out).mono ?_; rintro e w1 ⟨rfl, he, hk⟩; refine ⟨_, rfl, ?_⟩; replace HE := aK (he); replace HK := Zk HK hk; replace BXb1 := Zb hk BXb1 GBb1 GL; replace BXb5 := Zb hk BXb5 GBb5 GL; replace NR := aK (Kd.N_keep NR.out hk (fun q hq e => by have h9 : w.heap.size ≤ q := hq.1.1; have := GL.out; omega)); replace SZ := aK (Nat.le_trans SZ.out hk.1); clear he hk)
                | ((with_reducible refine gD 75 rfl ?_); refine ev_cell rfl (N := 75) rfl 27 (.tmp 74) rfl ⟨b1, 3, none⟩ rfl (v) _ ((Mine.blk_cells BXb1.out 3).trans rfl) Try.underlying27 rfl ?_)
                | ((with_reducible refine gD 76 rfl ?_); refine ev_load29 rfl (N := 76) rfl (.tmp 8) rfl (b := b5) rfl BXb5.out ?_)
                | ((with_reducible refine gD 77 rfl ?_); refine Mine.ev_lit1 rfl (N := 77) rfl 27 29 (.tmp 76) rfl (nc (nd 2 nm (wrap64 (-iv)) [] at2) ((.slice none 0 0))) rfl Try.underlying27 info29 rfl (by omega) (by omega) ?_)
                | ((with_reducible refine gate_builtin (b := .append) (xs := #[.tmp 75, .tmp 77]) rfl ?_); at_builtin; refine Kd.N_append k29 (w0 := _) w.heap.size rfl (.tmp 75) (.tmp 77) 27 29 _ 64 rfl Try.underlying27 info29 rfl (by decide) (by omega) v n.f3 (nd 2 nm (wrap64 (-iv)) [] at2) (nc (nd 2 nm (wrap64 (-iv)) [] at2) ((.slice none 0 0))) (fun q => w.heap.size ≤ q ∧ q ≠ b1) (fun q => lo ≤ q ∧ q ≠ b5) rfl rfl ?aP ?aK ?aF ?aO (Below.refl _ _) ?aS ?aL ?_; (case aP => exact nc_FK (Kd.V_nil _ _ _ _ _)); (case aK => exact fun q hq => ⟨by have h9 : lo ≤ q := hq.1; have := LO.out; have h6b1 := OBb1.out; exact ⟨by omega, by omega⟩, fun e => by have h9 : lo ≤ q := hq.1; have := LO.out; have := LON.out q e.symm; omega⟩); (case aF => exact fun q hq => by have h9 := hq; have h8 := HK.out.1; have h7b1 := blk_lt BXb1.out; refine ⟨by omega, by omega⟩); (case aO => exact Kd.N_mono NR.out (fun q hq => hq.1)); (case aS => exact HK.out.1); (case aL => have := LEN.out; have := HM.out; omega); intro v3 w1 hn hb9 hg hat; clear hb9 hat; have HO := fun q (h : Value.ownBlock v = some q) => (NR.out.1 q h).1; replace HE := aK (eye_row HE.out hg (fun q h => by have h9 : w.heap.size ≤ q := (HO q h).1; have := GL.out; have := HE.out.ge; exact ⟨by omega, by omega⟩)); replace HK := aK (keep_row HK.out hg (fun q h => (HO q h).1)); replace BXb1 := aK (row_blk hg BXb1.out (fun q h => (HO q h).2)); replace SZ := aK (Nat.le_trans SZ.out hg.size); have NRA := aK hn; clear hn hg HO NR BXb5)
                | ((with_reducible refine gate_ (.store 27 (.tmp 79) (.tmp 78)) rfl ?_); refine ev_field29 rfl rfl 27 (.tmp 79) (.tmp 78) rfl (b := b1) 3 (v3) rfl rfl BXb1.out (by omega) (Kd.N_val NRA.out).1 (Kd.N_val NRA.out).2 (by kernel_rfl) (addKid n (nd 2 nm (wrap64 (-iv)) [] at2)) (v3) rfl ?_; intro w1 hblk hg hz; replace HE := Ze HE hg GBb1 GL; replace HK := Zx HK hg GBb1; replace BXb1 := aK (hblk); replace NRA := aK (Kd.N_grown NRA.out hg (fun q hq e => by injection e with e; exact hq.2 e)); replace SZ := aK (Nat.le_trans SZ.out hg.size); clear hblk hg hz))
              go_roundg kq
              case rel => exact ⟨addKid n (nd 2 nm (wrap64 (-iv)) [] at2), _, v3, HRUN, ⟨by have := LEN.out; simp; omega⟩, HE, HK, BXb1, NRA⟩
              case measure => omega
        · rw [if_neg (fun h => c4 h.2)] at hrun
          have c5 : decide (s9.i < (L.length : Int)) = false := decide_eq_false c4
          clear c2
          simp only [Option.some.injEq, Prod.mk.injEq] at hrun
          obtain ⟨rfl, rfl⟩ := hrun
          have VV := aK (Kd.N_V (base' := 0) NR.out)
          clear NR
          have h := HH.out
          clear HH
          by_cases c7 : s9.e = 0
          · rw [if_pos c7] at h
            have c8 : (s9.e != 0) = false := bne_eq_false_iff_eq.2 c7
            clear c7
            simp only [Option.some.injEq, Prod.mk.injEq] at h
            obtain ⟨rfl, rfl, rfl⟩ := h
            have e1 := HE.out.c1
            have e4 := HE.out.c4
            have HBX := aK (below_step HU0.out HE.out.2)
            have BXp1 := aK ((HK.out.2 p1 (blk_lt BP1.out) (by have := NG1.out; omega) (by simp)).trans BP1.out)
            have BXp2 := aK ((HK.out.2 p2 (blk_lt BP2.out) (by have := NG2.out; omega) (by simp)).trans BP2.out)
            clear HB BP1 BP2
            have HB := HBX
            clear HBX
            go_wp2_with (first
              | ((with_reducible refine gD 30 rfl ?_); refine ev_cell rfl (N := 30) rfl 30 (.tmp 29) rfl ⟨g, 4, none⟩ rfl _ _ HE.out.c4 Try.underlying30 rfl ?_)
              | ((with_reducible refine gD 84 rfl ?_); refine ev_cell rfl (N := 84) rfl 30 (.tmp 83) rfl ⟨g, 4, none⟩ rfl _ _ HE.out.c4 Try.underlying30 rfl ?_)
              | ((with_reducible refine gD 91 rfl ?_); refine ev_load29 rfl (N := 91) rfl (.tmp 7) rfl (b := b1) rfl BXb1.out ?_)
              | ((with_reducible refine gate_ (.store 29 (.tmp 2) (.tmp 91)) rfl ?_); refine ev_store29 rfl rfl (.tmp 2) (.tmp 91) rfl (b := p1) (z := n) (v := v) rfl rfl BXp1.out (VK_one VV.out) ?_; intro w1 hblk hg hz; replace HB := aK (pw_below_grown HB.out _ HB.out.size hg (by intro k hk; injection hk with hk; have := GPp1.out; omega)); replace BXp1 := aK (hblk); replace BXp2 := Zh hg BXp2 LTp1p2; replace BXb1 := aK (grown_blk hg BXb1.out (by have := GBb1.out; have := NG1.out; have := NG2.out; have := GL.out; omega)); replace VV := aK (Kd.V_grown VV.out hg (fun q hq e => by injection e with e; have h9 : w.heap.size ≤ q := hq.1; have := NG1.out; have := NG2.out; have := GL.out; omega)); clear hblk hg hz)
              | ((with_reducible refine gate_ (.store 32 (.tmp 3) (.tmp 92)) rfl ?_); refine ev_store32 rfl rfl (.tmp 3) (.tmp 92) rfl (b := p2) (e := 0) (f := 0) rfl rfl BXp2.out ?_; intro w1 hblk hg hz; replace HB := aK (pw_below_grown HB.out _ HB.out.size hg (by intro k hk; injection hk with hk; have := GPp2.out; omega)); replace BXp1 := Zg hg BXp1 LTp1p2; replace BXp2 := aK (hblk); replace BXb1 := aK (grown_blk hg BXb1.out (by have := GBb1.out; have := NG1.out; have := NG2.out; have := GL.out; omega)); replace VV := aK (Kd.V_grown VV.out hg (fun q hq e => by injection e with e; have h9 : w.heap.size ≤ q := hq.1; have := NG1.out; have := NG2.out; have := GL.out; omega)); clear hblk hg hz))
            refine bodyPost_ret (results_cc (ty := 29) (ty' := 32) rfl _ _ p1 p2 29 32 (nc n v).toArray (fc 0 0).toArray (0, 0) (0, 0) _ _ rfl BXp1.out Try.underlying29 rfl info29s rfl BXp2.out Try.underlying32 rfl info32s) rfl ?_
            exact ⟨v, rfl, Kd.V_mono VV.out (fun q hq => Nat.le_trans GU.out hq.1), HB.out⟩
          · rw [if_neg c7] at h
            have c8 : (s9.e != 0) = true := bne_iff_ne.2 c7
            clear c7
            simp only [Option.some.injEq, Prod.mk.injEq] at h
            obtain ⟨rfl, rfl, rfl⟩ := h
            have e1 := HE.out.c1
            have e4 := HE.out.c4
            have HBX := aK (below_step HU0.out HE.out.2)
            have BXp1 := aK ((HK.out.2 p1 (blk_lt BP1.out) (by have := NG1.out; omega) (by simp)).trans BP1.out)
            have BXp2 := aK ((HK.out.2 p2 (blk_lt BP2.out) (by have := NG2.out; omega) (by simp)).trans BP2.out)
            clear HB BP1 BP2
            have HB := HBX
            clear HBX
            go_wp2_with (first
              | ((with_reducible refine gD 30 rfl ?_); refine ev_cell rfl (N := 30) rfl 30 (.tmp 29) rfl ⟨g, 4, none⟩ rfl _ _ HE.out.c4 Try.underlying30 rfl ?_)
              | ((with_reducible refine gD 84 rfl ?_); refine ev_cell rfl (N := 84) rfl 30 (.tmp 83) rfl ⟨g, 4, none⟩ rfl _ _ HE.out.c4 Try.underlying30 rfl ?_))
            obtain ⟨A9, c9b, hb9, hlo9, hC9⟩ := HE.out.1
            refine ret23 (cs := [.slice A9 L.length c9b, .int .i64 s9.i, .int .i64 s9.en, .int .i64 s9.deep, .int .i64 s9.e, .int .i64 s9.a]) (e := s9.e) (f := s9.a) hb9 rfl BXp1.out BXp2.out (by have := NG1.out; omega) (by have := NG2.out; omega) (by have := LTp1p2.out; omega) rfl rfl rfl rfl rfl rfl rfl rfl ⟨rfl, rfl⟩ ⟨rfl, rfl⟩ ⟨rfl, rfl⟩ ⟨rfl, rfl⟩ ⟨rfl, rfl⟩ ⟨rfl, rfl⟩ ⟨rfl, rfl⟩ rfl rfl rfl rfl rfl rfl rfl rfl rfl rfl rfl (by constructor <;> kernel_rfl) (fun _ _ _ _ _ h => h) ?_
            intro w2 hblk hblk2 hB2
            have BY1 := aK hblk
            have BY2 := aK hblk2
            have HY := aK (HB.out.trans (hB2 _ GPp1.out GPp2.out HB.out.size))
            clear hblk hblk2 hB2 BXp1 BXp2 HB hb9
            simp only [Act.put, List.setIfInBounds_toArray, List.set_cons_zero, List.set_cons_succ]
            go_wp2
            refine bodyPost_ret (results_cc (ty := 29) (ty' := 32) rfl _ _ p1 p2 29 32 (nc z29 (.slice none 0 0)).toArray (fc s9.e s9.a).toArray (0, 0) (0, 0) _ _ rfl BY1.out Try.underlying29 rfl info29s rfl BY2.out Try.underlying32 rfl info32s) rfl ?_
            exact ⟨_, rfl, Kd.V_nil _ _ _ _ _, HY.out⟩
      · rw [if_neg (fun h => c2 h.1)] at hrun
        have c3 : (s9.e == 0) = false := beq_eq_false_iff_ne.2 c2
        clear c2
        simp only [Option.some.injEq, Prod.mk.injEq] at hrun
        obtain ⟨rfl, rfl⟩ := hrun
        have VV := aK (Kd.N_V (base' := 0) NR.out)
        clear NR
        have h := HH.out
        clear HH
        by_cases c7 : s9.e = 0
        · rw [if_pos c7] at h
          have c8 : (s9.e != 0) = false := bne_eq_false_iff_eq.2 c7
          clear c7
          simp only [Option.some.injEq, Prod.mk.injEq] at h
          obtain ⟨rfl, rfl, rfl⟩ := h
          have e1 := HE.out.c1
          have e4 := HE.out.c4
          have HBX := aK (below_step HU0.out HE.out.2)
          have BXp1 := aK ((HK.out.2 p1 (blk_lt BP1.out) (by have := NG1.out; omega) (by simp)).trans BP1.out)
          have BXp2 := aK ((HK.out.2 p2 (blk_lt BP2.out) (by have := NG2.out; omega) (by simp)).trans BP2.out)
          clear HB BP1 BP2
          have HB := HBX
          clear HBX
          go_wp2_with (first
            | ((with_reducible refine gD 30 rfl ?_); refine ev_cell rfl (N := 30) rfl 30 (.tmp 29) rfl ⟨g, 4, none⟩ rfl _ _ HE.out.c4 Try.underlying30 rfl ?_)
            | ((with_reducible refine gD 84 rfl ?_); refine ev_cell rfl (N := 84) rfl 30 (.tmp 83) rfl ⟨g, 4, none⟩ rfl _ _ HE.out.c4 Try.underlying30 rfl ?_)
            | ((with_reducible refine gD 91 rfl ?_); refine ev_load29 rfl (N := 91) rfl (.tmp 7) rfl (b := b1) rfl BXb1.out ?_)
            | ((with_reducible refine gate_ (.store 29 (.tmp 2) (.tmp 91)) rfl ?_); refine ev_store29 rfl rfl (.tmp 2) (.tmp 91) rfl (b := p1) (z := n) (v := v) rfl rfl BXp1.out (VK_one VV.out) ?_; intro w1 hblk hg hz; replace HB := aK (pw_below_grown HB.out _ HB.out.size hg (by intro k hk; injection hk with hk; have := GPp1.out; omega)); replace BXp1 := aK (hblk); replace BXp2 := Zh hg BXp2 LTp1p2; replace BXb1 := aK (grown_blk hg BXb1.out (by have := GBb1.out; have := NG1.out; have := NG2.out; have := GL.out; omega)); replace VV := aK (Kd.V_grown VV.out hg (fun q hq e => by injection e with e; have h9 : w.heap.size ≤ q := hq.1; have := NG1.out; have := NG2.out; have := GL.out; omega)); clear hblk hg hz)
            | ((with_reducible refine gate_ (.store 32 (.tmp 3) (.tmp 92)) rfl ?_); refine ev_store32 rfl rfl (.tmp 3) (.tmp 92) rfl (b := p2) (e := 0) (f := 0) rfl rfl BXp2.out ?_; intro w1 hblk hg hz; replace HB := aK (pw_below_grown HB.out _ HB.out.size hg (by intro k hk; injection hk with hk; have := GPp2.out; omega)); replace BXp1 := Zg hg BXp1 LTp1p2; replace BXp2 := aK (hblk); replace BXb1 := aK (grown_blk hg BXb1.out (by have := GBb1.out; have := NG1.out; have := NG2.out; have := GL.out; omega)); replace VV := aK (Kd.V_grown VV.out hg (fun q hq e => by injection e with e; have h9 : w.heap.size ≤ q := hq.1; have := NG1.out; have := NG2.out; have := GL.out; omega)); clear hblk hg hz))
          refine bodyPost_ret (results_cc (ty := 29) (ty' := 32) rfl _ _ p1 p2 29 32 (nc n v).toArray (fc 0 0).toArray (0, 0) (0, 0) _ _ rfl BXp1.out Try.underlying29 rfl info29s rfl BXp2.out Try.underlying32 rfl info32s) rfl ?_
          exact ⟨v, rfl, Kd.V_mono VV.out (fun q hq => Nat.le_trans GU.out hq.1), HB.out⟩
        · rw [if_neg c7] at h
          have c8 : (s9.e != 0) = true := bne_iff_ne.2 c7
          clear c7
          simp only [Option.some.injEq, Prod.mk.injEq] at h
          obtain ⟨rfl, rfl, rfl⟩ := h
          have e1 := HE.out.c1
          have e4 := HE.out.c4
          have HBX := aK (below_step HU0.out HE.out.2)
          have BXp1 := aK ((HK.out.2 p1 (blk_lt BP1.out) (by have := NG1.out; omega) (by simp)).trans BP1.out)
          have BXp2 := aK ((HK.out.2 p2 (blk_lt BP2.out) (by have := NG2.out; omega) (by simp)).trans BP2.out)
          clear HB BP1 BP2
          have HB := HBX
          clear HBX
          go_wp2_with (first
            | ((with_reducible refine gD 30 rfl ?_); refine ev_cell rfl (N := 30) rfl 30 (.tmp 29) rfl ⟨g, 4, none⟩ rfl _ _ HE.out.c4 Try.underlying30 rfl ?_)
            | ((with_reducible refine gD 84 rfl ?_); refine ev_cell rfl (N := 84) rfl 30 (.tmp 83) rfl ⟨g, 4, none⟩ rfl _ _ HE.out.c4 Try.underlying30 rfl ?_))
          obtain ⟨A9, c9b, hb9, hlo9, hC9⟩ := HE.out.1
          refine ret23 (cs := [.slice A9 L.length c9b, .int .i64 s9.i, .int .i64 s9.en, .int .i64 s9.deep, .int .i64 s9.e, .int .i64 s9.a]) (e := s9.e) (f := s9.a) hb9 rfl BXp1.out BXp2.out (by have := NG1.out; omega) (by have := NG2.out; omega) (by have := LTp1p2.out; omega) rfl rfl rfl rfl rfl rfl rfl rfl ⟨rfl, rfl⟩ ⟨rfl, rfl⟩ ⟨rfl, rfl⟩ ⟨rfl, rfl⟩ ⟨rfl, rfl⟩ ⟨rfl, rfl⟩ ⟨rfl, rfl⟩ rfl rfl rfl rfl rfl rfl rfl rfl rfl rfl rfl (by constructor <;> kernel_rfl) (fun _ _ _ _ _ h => h) ?_
          intro w2 hblk hblk2 hB2
          have BY1 := aK hblk
          have BY2 := aK hblk2
          have HY := aK (HB.out.trans (hB2 _ GPp1.out GPp2.out HB.out.size))
          clear hblk hblk2 hB2 BXp1 BXp2 HB hb9
          simp only [Act.put, List.setIfInBounds_toArray, List.set_cons_zero, List.set_cons_succ]
          go_wp2
          refine bodyPost_ret (results_cc (ty := 29) (ty' := 32) rfl _ _ p1 p2 29 32 (nc z29 (.slice none 0 0)).toArray (fc s9.e s9.a).toArray (0, 0) (0, 0) _ _ rfl BY1.out Try.underlying29 rfl info29s rfl BY2.out Try.underlying32 rfl info32s) rfl ?_
          exact ⟨_, rfl, Kd.V_nil _ _ _ _ _, HY.out⟩
  · rw [if_neg c0] at h
    have c1 : (fe != 0) = true := bne_iff_ne.2 c0
    clear c0 hR
    simp only [Option.some.injEq, Prod.mk.injEq] at h
    obtain ⟨rfl, rfl, rfl⟩ := h
    go_enter Try.func17, Try.ntmps17
    go_wp2_with (first
      | ((with_reducible refine gD 2 rfl ?_); refine ev_alloc29 rfl (N := 2) rfl rfl ?_; intro p1 hbn w1 hblk hbel; have GPp1 := aK (show u.heap.size ≤ p1 by have := HB.out.size; omega); replace HB := aK (below_step HB.out hbel); have BXp1 := aK hblk; clear hblk hbel hbn)
      | ((with_reducible refine gD 3 rfl ?_); refine ev_alloc32 rfl (N := 3) rfl rfl ?_; intro p2 hbn w1 hblk hbel; have GPp2 := aK (show u.heap.size ≤ p2 by have := HB.out.size; omega); have LTp1p2 := aK (show p1 < p2 by have := blk_lt BXp1.out; omega); replace HB := aK (below_step HB.out hbel); replace BXp1 := Zc hbel BXp1; have BXp2 := aK hblk; clear hblk hbel hbn)
      | ((with_reducible refine gD 12 rfl ?_); refine goesL_ (some 12) rfl rfl Try.func31 (by kernel_rfl) rfl #[.string t] rfl (mpT rfl) ?_; refine (podestaref15_Scan.calls k t L fe fa _ hsc).mono ?_; rintro e9 w0 ⟨v0, rfl, hR0, hbel⟩; refine ⟨_, rfl, ?_⟩; have hV0 := Kd.R_V (base' := 0) hR0; obtain ⟨A0, c9, e0⟩ := Kd.V_slice hV0; subst e0; have HC := aK (Kd.V_reads' hV0).2.2; clear hR0 hV0; replace HB := aK (below_step HB.out hbel); replace BXp1 := Zc hbel BXp1; replace BXp2 := Zc hbel BXp2; have HB0 := aK (Below.refl w0.heap.size w0); have HU0 := aK HB.out; clear hbel)
      | ((with_reducible refine gD 5 rfl ?_); refine ev_alloc32 rfl (N := 5) rfl rfl ?_; intro b5 hbn w1 hblk hbel; have GPb5 := aK (show u.heap.size ≤ b5 by have := HB.out.size; omega); have LTp1b5 := aK (show p1 < b5 by have := blk_lt BXp1.out; omega); have LTp2b5 := aK (show p2 < b5 by have := blk_lt BXp2.out; omega); have GWb5 := aK (show w0.heap.size ≤ b5 by have := HB0.out.size; omega); replace HB := aK (below_step HB.out hbel); replace BXp1 := Zc hbel BXp1; replace BXp2 := Zc hbel BXp2; replace HB0 := aK (below_step HB0.out hbel); have BXb5 := aK hblk; clear hblk hbel hbn)
      | ((with_reducible refine gate_ (.store 32 (.tmp 5) (.tmp 14)) rfl ?_); refine ev_store32 rfl rfl (.tmp 5) (.tmp 14) rfl (b := b5) (e := fe) (f := fa) rfl rfl BXb5.out ?_; intro w1 hblk hg hz; replace HB := aK (pw_below_grown HB.out _ HB.out.size hg (by intro k hk; injection hk with hk; have := GPb5.out; omega)); replace HB0 := aK (pw_below_grown HB0.out _ HB0.out.size hg (by intro k hk; injection hk with hk; have := GWb5.out; omega)); replace BXb5 := aK (hblk); replace BXp1 := Zg hg BXp1 LTp1b5; replace BXp2 := Zg hg BXp2 LTp2b5; clear hblk hg hz)
      | ((with_reducible refine gD 16 rfl ?_); refine ev_cell rfl (N := 16) rfl 30 (.tmp 15) rfl ⟨b5, 0, none⟩ rfl (.int .i64 fe) _ ((Mine.blk_cells BXb5.out 0).trans rfl) Try.underlying30 rfl ?_))
    refine ret3 (e := fe) (f := fa) (cs := fc fe fa) BXb5.out rfl BXp1.out BXp2.out (by have := LTp1b5.out; omega) (by have := LTp2b5.out; omega) (by have := LTp1p2.out; omega) rfl rfl rfl rfl rfl ⟨rfl, rfl⟩ ⟨rfl, rfl⟩ ⟨rfl, rfl⟩ ⟨rfl, rfl⟩ rfl rfl rfl rfl rfl rfl rfl rfl (by constructor <;> kernel_rfl) (fun _ _ _ _ _ h => h) ?_
    intro w2 hblk hblk2 hB2
    have BY1 := aK hblk
    have BY2 := aK hblk2
    have HY := aK (HB.out.trans (hB2 _ GPp1.out GPp2.out HB.out.size))
    clear hblk hblk2 hB2 BXp1 BXp2 HB
    simp only [Act.put, List.setIfInBounds_toArray, List.set_cons_zero, List.set_cons_succ]
    go_wp2
    refine bodyPost_ret (results_cc (ty := 29) (ty' := 32) rfl _ _ p1 p2 29 32 (nc z29 (.slice none 0 0)).toArray (fc fe fa).toArray (0, 0) (0, 0) _ _ rfl BY1.out Try.underlying29 rfl info29s rfl BY2.out Try.underlying32 rfl info32s) rfl ?_
    exact ⟨_, rfl, Kd.V_nil _ _ _ _ _, HY.out⟩
end Go.Proofs.Ytdiadmlgeojefaa.A
namespace Go.Proofs.Ytdiadmlgeojefaa.A
open Go.RowKit Go.Proofs.YtdiadmlgeojefaaW.PrintWords Go.Proofs.YtdiadmlgeojefaaW.PrintLast Go.Proofs.YtdiadmlgeojefaaW.PrintMore
theorem shows_all (k : Nat) (L : Toks) : ∀ M, M ≤ 1099511627776 → ∀ m, m ≤ M → Shows L (run k L m) := by
  intro M
  induction M with
  | zero =>
    intro _ m hm
    obtain rfl : m = 0 := by omega
    refine ⟨?_, ?_, ?_, ?_, ?_, ?_, ?_, ?_⟩ <;> (intros; simp_all [run])
  | succ M ih =>
    intro hM m hm
    have ih := ih (by omega)
    by_cases hlt : m ≤ M
    · exact ih m hlt
    · obtain rfl : m = M + 1 := by omega
      have hM' : M ≤ 1099511627776 := by omega
      have hR := ih M (Nat.le_refl _)
      refine ⟨?_, ?_, ?_, ?_, ?_, ?_, ?_, ?_⟩
      · exact fun s T s' h => one_shows (k := k) hR s T s' h
      · exact fun kk b s T s' h => part_shows (k := k) ih kk b s T s' h
      · exact fun b s T s' h => expr_shows hR b s T s' h
      · exact fun s T s' h => mtch_shows (k := k) hM' ih s T s' h
      · exact fun s T s' h => acts_shows (k := k) hM' ih s T s' h
      · exact fun s T s' h => block_shows (k := k) hM' ih s T s' h
      · refine fun s T s' h => stmt_shows (k := k) hR (fun n b s T s' h => ?_) s T s' h
        cases M with
        | zero => simp [run] at h
        | succ M => exact ⟨run k L M, ih M (by omega), h⟩
      · exact fun t a s T s' h => given_shows hR t a s T s' h
theorem parse_calls {k m : Nat} (hm : m ≤ 1099511627776) (t : ByteArray) (T : S29) (e a : Int) (u : World) (h : parse_ k m t = some (T, e, a)) : Calls Try.prog 17 #[.string t] u (ParsePost u T e a) :=
  parse_shows hm (fun L m' hm' => shows_all k L m hm m' hm') t T e a u h
end Go.Proofs.Ytdiadmlgeojefaa.A
namespace Go.Proofs.Ytdiadmlgeojefaa.A
open Go.RowKit Go.Proofs.YtdiadmlgeojefaaW.PrintWords Go.Proofs.YtdiadmlgeojefaaW.PrintLast Go.Proofs.YtdiadmlgeojefaaW.PrintMore
set_option linter.unusedVariables false
set_option linter.unusedSimpArgs false
section
variable {P : Program} {ops : Array Oper} {rest : List Oper} {o : Oper} {a : Act} {Q : Exit → Act → World → Prop} {W : World}
theorem goesF_ (N : Option Tmp) (hd : o.dst = N) (hg : o.guard = none) {f : FuncId} {fn : Func} {x : Operand} {as_ : Array Operand} {ts : Array TypeId} (hf : P.funcs[f]? = some fn) (hname : (fn.name == "runtime.NumGoroutine") = false) (hb : fn.body.isSome = true) (args cap all : Array Value)
    (hop : o.op = .call { callee := .value x, args := as_, argTypes := ts }) (hx : a.eval x = .func (.func f) #[] cap) (hargs : as_.map a.eval = args) (hall : args ++ cap = all)
    (h : Calls P f all W fun e w' => ∃ v, e = .returned v ∧ wpList P ops Q rest (a.put N v) w') : wpList P ops Q (o :: rest) a W := by
  refine wpList_plain hg fun K hK => ?_
  have he := enters_ hf hname hb all W
  have hrun : (execOp a.eval o).run P W = .ok (.enter f all) W := by
    unfold execOp
    simp [hop, resolve, Deferred.ofValue, invoke, hx, hargs, hall, he]
  unfold Oper.wp
  rw [hrun, Oper.upon_enter]
  refine h.mono fun e w'' hh => ?_
  obtain ⟨v, rfl, hk⟩ := hh
  subst hd
  exact hK _ _ hk
theorem run_indexAt {t e : TypeId} {ad : Addr} {n c k sz : Nat} (ht : P.underlying t = some (.slice e)) (hi : (P.info? e).map (·.size) = some sz) (hk : k < n) (W : World) : (Instr.indexAt t (.slice (some ad) n c) (.int .i64 (k : Int))).run P W = .ok (.pointer (some (ad.add (k * sz)))) W := by
  cases hq : P.info? e with
  | none => simp [hq] at hi
  | some i =>
    have hs : i.size = sz := by simpa [hq] using hi
    simp [Instr.indexAt, asIntOf, Sem.run_bind, run_underlying ht W, sizeOf, typeInfo, hq, hs, hk]
theorem ev_index (hgd : o.guard = none) {N : Tmp} (_hd : o.dst = some N) (t e : TypeId) (x i : Operand) (ho : o.op = .indexAddr t x i) {ad : Addr} {n c k sz : Nat} (hx : a.eval x = .slice (some ad) n c) (hi : a.eval i = .int .i64 (k : Int)) {ap : Addr} (hk : k < n) (hap : ad.add (k * sz) = ap)
    (ht : P.underlying t = some (.slice e)) (hz : (P.info? e).map (·.size) = some sz) (h : wpList P ops Q rest (a.put o.dst (.pointer (some ap))) W) : wpList P ops Q (o :: rest) a W := by
  subst hap
  refine wpList_plain hgd fun K hK => ?_
  have hrun : (execOp a.eval o).run P W = .ok (.value (.pointer (some (ad.add (k * sz))))) W := by
    unfold execOp
    simp [ho, hx, hi, Sem.run_bind, run_indexAt ht hz hk W]
  unfold Oper.wp
  simp only [hrun]
  exact hK _ _ h
end
def idxF {α : Type} (p : α → Bool) : List α → Int → Int
  | [], _ => -1
  | x :: r, k => if p x = true then k else idxF p r (k + 1)
def IdxPost {α : Type} (p : α → Bool) (xs : List α) (w : World) (e : Ending) (w' : World) : Prop := e = .returned (.int .i64 (idxF p xs 0)) ∧ Below w.heap.size w w'
theorem idxF_drop {α : Type} (p : α → Bool) (xs : List α) (k : Nat) (h : k < xs.length) : idxF p (xs.drop k) k = if p xs[k] = true then (k : Int) else idxF p (xs.drop (k + 1)) ((k + 1 : Nat) : Int) := by
  rw [List.drop_eq_getElem_cons h]
  simp [idxF]
theorem C_elem {α : Type} {d : Kd α} {w : World} {A : Option Addr} {xs : List α} (h : Kd.C d w A xs.length xs) {k : Nat} (hk : k < xs.length) : ∃ ad cs, A = some ad ∧ cs.length = d.sz ∧ d.K w xs[k] cs ∧ ∀ i u, cs[i]? = some u → w.cell? ((ad.add (k * d.sz)).add i) = some u := by
  obtain ⟨ad, e, hc⟩ := h.2.2 (by omega)
  obtain ⟨cs, h1, h2, h3⟩ := hc k xs[k] (by simp [hk])
  refine ⟨ad, cs, e, h1, h2, fun i u hu => ?_⟩
  have := h3 i u hu
  have e2 : (ad.add (k * d.sz)).add i = ad.add (k * d.sz + i) := by
    unfold Addr.add
    split <;> split <;> simp_all <;> omega
  rw [e2]; exact this
theorem addr_zero (ad : Addr) : ad.add 0 = ad := by
  unfold Addr.add
  split <;> simp_all
set_option maxHeartbeats 4000000 in
set_option maxRecDepth 100000 in
theorem idxf49 {α : Type} {d : Kd α} (hsz : (Try.prog.info? 103).map (·.size) = some d.sz) (p : α → Bool) (fcl : FuncId) {fn : Func} (hf : Try.prog.funcs[fcl]? = some fn) (hname : (fn.name == "runtime.NumGoroutine") = false) (hb : fn.body.isSome = true) (cap : Array Value) (A : Option Addr) (c : Nat) (xs : List α) (w : World)
    (hC : Kd.C d w A xs.length xs) (hlen : xs.length ≤ 9223372036854775806) (hcl : ∀ x ∈ xs, ∀ W, Below w.heap.size w W → ∀ cs, d.K W x cs → Calls Try.prog fcl (#[.agg cs.toArray] ++ cap) W fun e W' => e = .returned (.bool (p x)) ∧ Below W.heap.size W W') :
    Calls Try.prog 49 #[.slice A xs.length c, .func (.func fcl) #[] cap] w (IdxPost p xs w) := by
  have HC := aK hC
  have HCL := aK hcl
  have HB := aK (Below.refl w.heap.size w)
  have HSZ := aK hsz
  have HLEN := aK hlen
  have HF := aK hf
  have HN := aK hname
  have HBD := aK hb
  clear hf hname hb
  obtain ⟨n, en⟩ : ∃ n_, n_ = xs.length := ⟨_, rfl⟩
  rw [← en]
  have EN := aK en
  clear hC hcl hsz hlen en
  go_enter Try.func49, Try.ntmps49
  go_wp2
  go_loopg [8] (n + 1) (fun kq v8 w' => ∃ k : Nat, v8 = .int .i64 (k : Int) ∧ Aside0 (kq + k = n + 1) ∧ Aside0 (k ≤ n) ∧ Aside0 (idxF p xs 0 = idxF p (xs.drop k) (k : Int)) ∧ Aside0 (Below w.heap.size w w'))
  case atStart => exact ⟨0, rfl, ⟨rfl⟩, ⟨Nat.zero_le _⟩, ⟨rfl⟩, HB⟩
  case round =>
    clear HB
    obtain ⟨k, rfl, KQ, KN, HI, HB⟩ := hrel
    by_cases hlt : k < n
    · have hx : k < xs.length := by have := EN.out; omega
      have hk64 : (k : Int) + 1 ≤ 9223372036854775807 := by have := HLEN.out; have := EN.out; omega
      obtain ⟨ad, cs, eA, hl, hK, hcell⟩ := C_elem (Kd.C_below HC.out HB.out) hx
      have EA := aK eA
      clear eA
      obtain ⟨ap, eap⟩ : ∃ ap_, ap_ = ad.add (k * d.sz) := ⟨_, rfl⟩
      rw [← eap] at hcell
      have HAP := aK eap.symm
      clear eap
      have HCELL := aK hcell
      have HL := aK hl
      have HI2 := aK (idxF_drop p xs k hx)
      obtain ⟨kq, rfl⟩ : ∃ q, gk = q + 1 := ⟨gk - 1, by have := KQ.out; omega⟩
      have HM := aK (List.getElem_mem hx)
      obtain ⟨x, ex⟩ : ∃ x_, x_ = xs[k] := ⟨_, rfl⟩
      rw [← ex] at hK
      have HK := aK hK
      rw [← ex] at HM HI2
      clear hcell hl hK ex hx
      
      rcases Bool.eq_false_or_eq_true (p x) with hp | hp <;> have HP := aK hp <;> clear hp
      · go_wp2_with (first
          | ((with_reducible refine gD 14 rfl ?_); go_must ((refine ev_index rfl (N := 14) rfl 107 103 (.tmp 12) (.tmp 13) rfl (ad := ad) (n := n) (c := c) (k := k) (sz := d.sz) (congrArg (fun A => Value.slice A n c) EA.out) rfl hlt HAP.out Try.underlying107 HSZ.out ?_)))
          | ((with_reducible refine gD 15 rfl ?_); go_must ((refine Mine.ev_load rfl (N := 15) rfl 103 (.tmp 14) rfl ap rfl cs _ HCELL.out Try.underlying103 rfl (by rw [HL.out]; exact HSZ.out) ?_)))
          | ((with_reducible refine gD 16 rfl ?_); go_must ((refine goesF_ (some 16) rfl rfl HF.out HN.out HBD.out #[.agg cs.toArray] cap (#[.agg cs.toArray] ++ cap) rfl rfl (mpT rfl) rfl ?_; refine (HCL.out x HM.out _ HB.out _ HK.out).mono ?_; rintro e w1 ⟨rfl, hbel⟩; refine ⟨_, rfl, ?_⟩; rw [HP.out]; have n0 := aK (below_step HB.out hbel); clear HB hbel; have HB := n0; clear n0; go_frame))))
        go_ret
        exact ⟨by rw [HI.out, HI2.out, if_pos HP.out]; rfl, HB.out⟩
      · go_wp2_with (first
          | ((with_reducible refine gD 14 rfl ?_); go_must ((refine ev_index rfl (N := 14) rfl 107 103 (.tmp 12) (.tmp 13) rfl (ad := ad) (n := n) (c := c) (k := k) (sz := d.sz) (congrArg (fun A => Value.slice A n c) EA.out) rfl hlt HAP.out Try.underlying107 HSZ.out ?_)))
          | ((with_reducible refine gD 15 rfl ?_); go_must ((refine Mine.ev_load rfl (N := 15) rfl 103 (.tmp 14) rfl ap rfl cs _ HCELL.out Try.underlying103 rfl (by rw [HL.out]; exact HSZ.out) ?_)))
          | ((with_reducible refine gD 16 rfl ?_); go_must ((refine goesF_ (some 16) rfl rfl HF.out HN.out HBD.out #[.agg cs.toArray] cap (#[.agg cs.toArray] ++ cap) rfl rfl (mpT rfl) rfl ?_; refine (HCL.out x HM.out _ HB.out _ HK.out).mono ?_; rintro e w1 ⟨rfl, hbel⟩; refine ⟨_, rfl, ?_⟩; rw [HP.out]; have n0 := aK (below_step HB.out hbel); clear HB hbel; have HB := n0; clear n0; go_frame))))
        go_roundg kq
        case rel => exact ⟨k + 1, by go_num, ⟨by have := KQ.out; omega⟩, ⟨by omega⟩, ⟨by rw [HI.out, HI2.out, if_neg (by rw [HP.out]; decide)]⟩, HB⟩
        case measure => omega
    · have hk : k = n := by have := KN.out; omega
      subst hk
      go_wp2
      go_ret
      refine ⟨?_, HB.out⟩
      rw [HI.out, EN.out, List.drop_length]
      rfl
set_option maxHeartbeats 4000000 in
set_option maxRecDepth 100000 in
theorem idxf119 {α : Type} {d : Kd α} (hsz : (Try.prog.info? 65).map (·.size) = some d.sz) (p : α → Bool) (fcl : FuncId) {fn : Func} (hf : Try.prog.funcs[fcl]? = some fn) (hname : (fn.name == "runtime.NumGoroutine") = false) (hb : fn.body.isSome = true) (cap : Array Value) (A : Option Addr) (c : Nat) (xs : List α) (w : World)
    (hC : Kd.C d w A xs.length xs) (hlen : xs.length ≤ 9223372036854775806) (hcl : ∀ x ∈ xs, ∀ W, Below w.heap.size w W → ∀ cs, d.K W x cs → Calls Try.prog fcl (#[.agg cs.toArray] ++ cap) W fun e W' => e = .returned (.bool (p x)) ∧ Below W.heap.size W W') :
    Calls Try.prog 119 #[.slice A xs.length c, .func (.func fcl) #[] cap] w (IdxPost p xs w) := by
  have HC := aK hC
  have HCL := aK hcl
  have HB := aK (Below.refl w.heap.size w)
  have HSZ := aK hsz
  have HLEN := aK hlen
  have HF := aK hf
  have HN := aK hname
  have HBD := aK hb
  clear hf hname hb
  obtain ⟨n, en⟩ : ∃ n_, n_ = xs.length := ⟨_, rfl⟩
  rw [← en]
  have EN := aK en
  clear hC hcl hsz hlen en
  go_enter Try.func119, Try.ntmps119
  go_wp2
  go_loopg [8] (n + 1) (fun kq v8 w' => ∃ k : Nat, v8 = .int .i64 (k : Int) ∧ Aside0 (kq + k = n + 1) ∧ Aside0 (k ≤ n) ∧ Aside0 (idxF p xs 0 = idxF p (xs.drop k) (k : Int)) ∧ Aside0 (Below w.heap.size w w'))
  case atStart => exact ⟨0, rfl, ⟨rfl⟩, ⟨Nat.zero_le _⟩, ⟨rfl⟩, HB⟩
  case round =>
    clear HB
    obtain ⟨k, rfl, KQ, KN, HI, HB⟩ := hrel
    by_cases hlt : k < n
    · have hx : k < xs.length := by have := EN.out; omega
      have hk64 : (k : Int) + 1 ≤ 9223372036854775807 := by have := HLEN.out; have := EN.out; omega
      obtain ⟨ad, cs, eA, hl, hK, hcell⟩ := C_elem (Kd.C_below HC.out HB.out) hx
      have EA := aK eA
      clear eA
      obtain ⟨ap, eap⟩ : ∃ ap_, ap_ = ad.add (k * d.sz) := ⟨_, rfl⟩
      rw [← eap] at hcell
      have HAP := aK eap.symm
      clear eap
      have HCELL := aK hcell
      have HL := aK hl
      have HI2 := aK (idxF_drop p xs k hx)
      obtain ⟨kq, rfl⟩ : ∃ q, gk = q + 1 := ⟨gk - 1, by have := KQ.out; omega⟩
      have HM := aK (List.getElem_mem hx)
      obtain ⟨x, ex⟩ : ∃ x_, x_ = xs[k] := ⟨_, rfl⟩
      rw [← ex] at hK
      have HK := aK hK
      rw [← ex] at HM HI2
      clear hcell hl hK ex hx
      
      rcases Bool.eq_false_or_eq_true (p x) with hp | hp <;> have HP := aK hp <;> clear hp
      · go_wp2_with (first
          | ((with_reducible refine gD 14 rfl ?_); go_must ((refine ev_index rfl (N := 14) rfl 45 65 (.tmp 12) (.tmp 13) rfl (ad := ad) (n := n) (c := c) (k := k) (sz := d.sz) (congrArg (fun A => Value.slice A n c) EA.out) rfl hlt HAP.out Try.underlying45 HSZ.out ?_)))
          | ((with_reducible refine gD 15 rfl ?_); go_must ((refine Mine.ev_load rfl (N := 15) rfl 65 (.tmp 14) rfl ap rfl cs _ HCELL.out Try.underlying65 rfl (by rw [HL.out]; exact HSZ.out) ?_)))
          | ((with_reducible refine gD 16 rfl ?_); go_must ((refine goesF_ (some 16) rfl rfl HF.out HN.out HBD.out #[.agg cs.toArray] cap (#[.agg cs.toArray] ++ cap) rfl rfl (mpT rfl) rfl ?_; refine (HCL.out x HM.out _ HB.out _ HK.out).mono ?_; rintro e w1 ⟨rfl, hbel⟩; refine ⟨_, rfl, ?_⟩; rw [HP.out]; have n0 := aK (below_step HB.out hbel); clear HB hbel; have HB := n0; clear n0; go_frame))))
        go_ret
        exact ⟨by rw [HI.out, HI2.out, if_pos HP.out]; rfl, HB.out⟩
      · go_wp2_with (first
          | ((with_reducible refine gD 14 rfl ?_); go_must ((refine ev_index rfl (N := 14) rfl 45 65 (.tmp 12) (.tmp 13) rfl (ad := ad) (n := n) (c := c) (k := k) (sz := d.sz) (congrArg (fun A => Value.slice A n c) EA.out) rfl hlt HAP.out Try.underlying45 HSZ.out ?_)))
          | ((with_reducible refine gD 15 rfl ?_); go_must ((refine Mine.ev_load rfl (N := 15) rfl 65 (.tmp 14) rfl ap rfl cs _ HCELL.out Try.underlying65 rfl (by rw [HL.out]; exact HSZ.out) ?_)))
          | ((with_reducible refine gD 16 rfl ?_); go_must ((refine goesF_ (some 16) rfl rfl HF.out HN.out HBD.out #[.agg cs.toArray] cap (#[.agg cs.toArray] ++ cap) rfl rfl (mpT rfl) rfl ?_; refine (HCL.out x HM.out _ HB.out _ HK.out).mono ?_; rintro e w1 ⟨rfl, hbel⟩; refine ⟨_, rfl, ?_⟩; rw [HP.out]; have n0 := aK (below_step HB.out hbel); clear HB hbel; have HB := n0; clear n0; go_frame))))
        go_roundg kq
        case rel => exact ⟨k + 1, by go_num, ⟨by have := KQ.out; omega⟩, ⟨by omega⟩, ⟨by rw [HI.out, HI2.out, if_neg (by rw [HP.out]; decide)]⟩, HB⟩
        case measure => omega
    · have hk : k = n := by have := KN.out; omega
      subst hk
      go_wp2
      go_ret
      refine ⟨?_, HB.out⟩
      rw [HI.out, EN.out, List.drop_length]
      rfl
end Go.Proofs.Ytdiadmlgeojefaa.A
namespace Go.Proofs.Ytdiadmlgeojefaa.A
open Go.RowKit Go.Proofs.YtdiadmlgeojefaaW.PrintWords Go.Proofs.YtdiadmlgeojefaaW.PrintLast Go.Proofs.YtdiadmlgeojefaaW.PrintMore
attribute [local go_sem] max2_int min2_int max_two min_two max_three min_three max_four min_four   -- for this text's walks alone
set_option linter.unusedVariables false
set_option linter.unusedSimpArgs false
def slices_Index_string_string.l0 : Nat → List ByteArray → ByteArray → Int → Int → Option (Int)
  | 0, _, _, _, _ => none
  | k + 1, x0, x1, x7, x8 => if x8 < x7 then (if 0 ≤ x8 then (if x8 < (x0.length : Int) then (if x1.toList = (rdOf ByteArray.empty x0 x8).toList then (some x8) else (slices_Index_string_string.l0 k x0 x1 x7 (wrap64 (x8 + 1)))) else (none)) else (none)) else (some (-1))
def slices_Index_string_string.f (k : Nat) (l0 : List ByteArray) (a1 : ByteArray) : Option (Int) := slices_Index_string_string.l0 k l0 a1 (l0.length : Int) 0
theorem slices_Index_string_string.mono_l : ∀ k, (∀ y0 y1 y2 y3, LeO (slices_Index_string_string.l0 k y0 y1 y2 y3) (slices_Index_string_string.l0 (k + 1) y0 y1 y2 y3))
  | 0 => fun _ _ _ _ r h => by simp [slices_Index_string_string.l0] at h
  | k + 1 => by
    have ih0 := slices_Index_string_string.mono_l k
    · intro y0 y1 y2 y3
      unfold slices_Index_string_string.l0
      repeat' first
      | (with_reducible exact ih0 _ _ _ _)
      | (with_reducible exact LeO.refl _)
      | (with_reducible exact LeO.none _)
      | (with_reducible refine LeO.ite ?_ ?_)
      | (with_reducible refine LeO.bind ?_ (fun _ => ?_))
      | exact ih0 _ _ _ _
      | exact LeO.none _
      | refine LeO.ite ?_ ?_
      | refine LeO.bind ?_ (fun _ => ?_)
theorem slices_Index_string_string.mono : ∀ a0 a1 k, LeO (slices_Index_string_string.f k a0 a1) (slices_Index_string_string.f (k + 1) a0 a1) := by
  intro a0 a1 k
  have ih0 := slices_Index_string_string.mono_l k
  unfold slices_Index_string_string.f
  repeat' first
      | (with_reducible exact ih0 _ _ _ _)
      | (with_reducible exact LeO.refl _)
      | (with_reducible exact LeO.none _)
      | (with_reducible refine LeO.ite ?_ ?_)
      | (with_reducible refine LeO.bind ?_ (fun _ => ?_))
      | exact ih0 _ _ _ _
      | exact LeO.none _
      | refine LeO.ite ?_ ?_
      | refine LeO.bind ?_ (fun _ => ?_)
set_option maxHeartbeats 8000000 in
set_option maxRecDepth 100000 in
theorem slices_Index_string_string.calls (k : Nat) (A0 : Option Addr) (c0 : Nat) (l0 : List ByteArray) (a1 : ByteArray) (r : Int) (w : World) (hr0 : Kd.C Kd.string w A0 l0.length l0) (hc0 : l0.length ≤ c0) (h : slices_Index_string_string.f k l0 a1 = some r) :
    Calls Try.prog 84 #[.slice A0 l0.length c0, .string a1] w fun e w' => e = .returned (.int .i64 r) ∧ Drawn0 w w' := by
  have HR0 := Aside0.mk hr0
  have HC0 := Aside0.mk hc0
  clear hr0 hc0
  have H : (slices_Index_string_string.l0 k l0 a1 (l0.length : Int) 0) = some r := h
  clear h
  have H' := Aside0.mk H
  clear H
  go_enter Try.func84, Try.ntmps84
  go_wp2
  go_loopg [8] k (fun kq v8 w' => ∃ (x8_1 : Int), v8 = .int .i64 x8_1 ∧ Aside0 (slices_Index_string_string.l0 kq l0 a1 (l0.length : Int) x8_1 = some r) ∧ Aside0 (kq ≤ k) ∧ Drawn0 w w')
  case atStart => exact ⟨(0), (by first | rfl | (simp; done) | (simp [*]; done)), H', ⟨Nat.le_refl _⟩, by repeat (first | exact Drawn0.refl _ | apply Drawn0.step)⟩
  case round =>
    clear H'
    try clear p2
    obtain ⟨x8_1, rfl, HA, HK1, ⟨m1, rfl⟩⟩ := hrel
    cases gk with
    | zero => exact absurd HA.out (by simp [slices_Index_string_string.l0])
    | succ k1 =>
      have H := HA.out
      clear HA
      simp only [slices_Index_string_string.l0] at H
      by_cases c3 : x8_1 < (l0.length : Int)
      · rw [if_pos c3] at H
        have c3b0 : decide (x8_1 < (l0.length : Int)) = true := decide_eq_true c3
        clear c3
        by_cases c4 : 0 ≤ x8_1
        · rw [if_pos c4] at H
          have c4b0 : decide (0 ≤ x8_1) = true := decide_eq_true c4
          clear c4
          by_cases c5 : x8_1 < (l0.length : Int)
          · rw [if_pos c5] at H
            have c5b0 : decide (x8_1 < (l0.length : Int)) = true := decide_eq_true c5
            clear c5
            by_cases c6 : a1.toList = (rdOf ByteArray.empty l0 x8_1).toList
            · rw [if_pos c6] at H
              have c6b0 : (a1.toList == (rdOf ByteArray.empty l0 x8_1).toList) = true := beq_iff_eq.mpr c6
              have c6b1 : (a1.toList != (rdOf ByteArray.empty l0 x8_1).toList) = false := bne_eq_false_iff_eq.mpr c6
              clear c6
              obtain rfl := Option.some.inj H
              have p454 : 0 ≤ (x8_1 : Int) := of_decide_eq_true (by first | (with_reducible assumption) | assumption)
              have q454 : x8_1 < (l0.length : Int) := of_decide_eq_true (by first | (with_reducible assumption) | assumption)
              obtain ⟨ad454, e454, hx454_0⟩ := Kd.at_string HR0.out x8_1 p454 q454
              cases e454
              replace p454 := eq_true p454
              replace q454 := eq_true q454
              go_wp2
              go_ret
              exact ⟨by first | rfl | (simp; done) | (simp [*]; done), by repeat (first | exact Drawn0.refl _ | apply Drawn0.step)⟩
            · rw [if_neg c6] at H
              have c6b0 : (a1.toList == (rdOf ByteArray.empty l0 x8_1).toList) = false := beq_eq_false_iff_ne.mpr c6
              have c6b1 : (a1.toList != (rdOf ByteArray.empty l0 x8_1).toList) = true := bne_iff_ne.mpr c6
              have H' := Aside0.mk H
              clear H
              have p454 : 0 ≤ (x8_1 : Int) := of_decide_eq_true (by first | (with_reducible assumption) | assumption)
              have q454 : x8_1 < (l0.length : Int) := of_decide_eq_true (by first | (with_reducible assumption) | assumption)
              obtain ⟨ad454, e454, hx454_0⟩ := Kd.at_string HR0.out x8_1 p454 q454
              cases e454
              replace p454 := eq_true p454
              replace q454 := eq_true q454
              go_wp2
              go_roundg k1
              case measure => have := HK1.out; omega
              case rel => exact ⟨(wrap64 (x8_1 + 1)), (by first | rfl | (simp; done) | (simp [*]; done)), H', ⟨by have := HK1.out; omega⟩, by repeat (first | exact Drawn0.refl _ | apply Drawn0.step)⟩
          · rw [if_neg c5] at H
            exact absurd H (by simp)
        · rw [if_neg c4] at H
          exact absurd H (by simp)
      · rw [if_neg c3] at H
        have c3b0 : decide (x8_1 < (l0.length : Int)) = false := decide_eq_false c3
        clear c3
        obtain rfl := Option.some.inj H
        go_wp2
        go_ret
        exact ⟨by first | rfl | (simp; done) | (simp [*]; done), by repeat (first | exact Drawn0.refl _ | apply Drawn0.step)⟩
end Go.Proofs.Ytdiadmlgeojefaa.A
namespace Go.Proofs.Ytdiadmlgeojefaa.A
open Go.RowKit Go.Proofs.YtdiadmlgeojefaaW.PrintWords Go.Proofs.YtdiadmlgeojefaaW.PrintLast Go.Proofs.YtdiadmlgeojefaaW.PrintMore
attribute [local go_sem] max2_int min2_int max_two min_two max_three min_three max_four min_four   -- for this text's walks alone
set_option linter.unusedVariables false
set_option linter.unusedSimpArgs false
def slices_Contains_string_string.f (k : Nat) (l0 : List ByteArray) (a1 : ByteArray) : Option (Bool) := (slices_Index_string_string.f k l0 a1).bind fun t455 => (some (decide (t455 ≥ 0)))
theorem slices_Contains_string_string.mono : ∀ a0 a1 k, LeO (slices_Contains_string_string.f k a0 a1) (slices_Contains_string_string.f (k + 1) a0 a1) := by
  intro a0 a1 k
  unfold slices_Contains_string_string.f
  repeat' first
      | (with_reducible exact slices_Index_string_string.mono _ _ _)
      | (with_reducible exact LeO.refl _)
      | (with_reducible exact LeO.none _)
      | (with_reducible refine LeO.ite ?_ ?_)
      | (with_reducible refine LeO.bind ?_ (fun _ => ?_))
      | exact slices_Index_string_string.mono _ _ _
      | exact LeO.none _
      | refine LeO.ite ?_ ?_
      | refine LeO.bind ?_ (fun _ => ?_)
set_option maxHeartbeats 8000000 in
set_option maxRecDepth 100000 in
theorem slices_Contains_string_string.calls (k : Nat) (A0 : Option Addr) (c0 : Nat) (l0 : List ByteArray) (a1 : ByteArray) (r : Bool) (w : World) (hr0 : Kd.C Kd.string w A0 l0.length l0) (hc0 : l0.length ≤ c0) (h : slices_Contains_string_string.f k l0 a1 = some r) :
    Calls Try.prog 64 #[.slice A0 l0.length c0, .string a1] w fun e w' => e = .returned (.bool r) ∧ Drawn0 w w' := by
  have HR0 := Aside0.mk hr0
  have HC0 := Aside0.mk hc0
  clear hr0 hc0
  have H : ((slices_Index_string_string.f k l0 a1).bind fun t455 => (some (decide (t455 ≥ 0)))) = some r := h
  clear h
  replace H := Option.bind_eq_some_iff.mp H
  obtain ⟨t455, A30, H⟩ := H
  replace H : (some (decide (t455 ≥ 0))) = some r := H
  have A3 := Aside0.mk A30
  clear A30
  obtain rfl := Option.some.inj H
  go_enter Try.func64, Try.ntmps64
  go_wp2_with (first | ((with_reducible refine gate_callee (f := 84) rfl ?_); refine goesL_ (some 7) rfl rfl Try.func84 (by kernel_rfl) rfl #[.slice A0 l0.length c0, .string a1] rfl (by (try simp only [List.map_toArray, List.map_cons, List.map_nil]); first | done | rfl | (simp only [List.length_drop, List.length_take]; rfl)) ?_; (with_reducible refine (slices_Index_string_string.calls k _ _ l0 a1 t455 _ ?side1 ?side2 A3.out).mono ?_); (case side1 => repeat (first | exact HR0.out | (with_reducible refine Kd.C_alloc ?_ _) | (with_reducible refine Kd.C_drewN ?_ _) | (with_reducible refine Kd.C_drew ?_))); (case side2 => exact HC0.out); rintro e w' ⟨rfl, ⟨nd, rfl⟩⟩; refine ⟨_, rfl, ?_⟩))
  go_ret
  exact ⟨by first | rfl | (simp; done) | (simp [*]; done), by repeat (first | exact Drawn0.refl _ | apply Drawn0.step)⟩
end Go.Proofs.Ytdiadmlgeojefaa.A
namespace Go.Proofs.Ytdiadmlgeojefaa.A
open Go.RowKit Go.Proofs.YtdiadmlgeojefaaW.PrintWords Go.Proofs.YtdiadmlgeojefaaW.PrintLast Go.Proofs.YtdiadmlgeojefaaW.PrintMore
attribute [local go_sem] max2_int min2_int max_two min_two max_three min_three max_four min_four   -- for this text's walks alone
set_option linter.unusedVariables false
set_option linter.unusedSimpArgs false
def head_there.f (a0 : Int) : Option (Bool) := if a0 ≥ 0 then (some (decide (a0 < 12))) else (some false)
set_option maxHeartbeats 8000000 in
set_option maxRecDepth 100000 in
theorem head_there.calls (a0 : Int) (r : Bool) (w : World) (h : head_there.f a0 = some r) :
    Calls Try.prog 118 #[.int .i64 a0] w fun e w' => e = .returned (.bool r) ∧ Drawn0 w w' := by
  have H : (if a0 ≥ 0 then (some (decide (a0 < 12))) else (some false)) = some r := h
  clear h
  by_cases c2 : a0 ≥ 0
  · rw [if_pos c2] at H
    have c2b0 : decide (0 ≤ a0) = true := decide_eq_true c2
    clear c2
    obtain rfl := Option.some.inj H
    go_enter Try.func118, Try.ntmps118
    go_wp2
    go_ret
    exact ⟨by first | rfl | (simp; done) | (simp [*]; done), by repeat (first | exact Drawn0.refl _ | apply Drawn0.step)⟩
  · rw [if_neg c2] at H
    have c2b0 : decide (0 ≤ a0) = false := decide_eq_false c2
    clear c2
    obtain rfl := Option.some.inj H
    go_enter Try.func118, Try.ntmps118
    go_wp2
    go_ret
    exact ⟨by first | rfl | (simp; done) | (simp [*]; done), by repeat (first | exact Drawn0.refl _ | apply Drawn0.step)⟩
end Go.Proofs.Ytdiadmlgeojefaa.A
