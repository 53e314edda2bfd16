/- Laws and walks for EvalLoops: texts laid together by my own small program. -/
import Derived.Lib.SliceRun
import Derived.Maps.OwnOps
import Derived.Maps.OwnSet
import Derived.Maps.Views
import Derived.StringKeys
import Derived.Test.YtdiadmlgeojefaaL3
namespace Go.Proofs.Ytdiadmlgeojefaa.A
open Go.RowKit Go.Proofs.YtdiadmlgeojefaaW.PrintWords Go.Proofs.YtdiadmlgeojefaaW.PrintLast Go.Proofs.YtdiadmlgeojefaaW.PrintMore
attribute [local go_sem] max2_int min2_int max_two min_two max_three min_three max_four min_four   -- for this text's walks alone
set_option linter.unusedVariables false
set_option linter.unusedSimpArgs false
def podestaref01_Name.f (a0 : Int) : Option (ByteArray) := if a0 < 0 then (some (⟨#[]⟩ : ByteArray)) else (if a0 > 11 then (some (⟨#[]⟩ : ByteArray)) else ((some (([(⟨#[105, 110]⟩ : ByteArray), (⟨#[101, 115, 114, 99]⟩ : ByteArray), (⟨#[101, 100, 115, 116]⟩ : ByteArray), (⟨#[101, 116, 121, 112, 101]⟩ : ByteArray), (⟨#[118, 108, 97, 110]⟩ : ByteArray), (⟨#[112, 99, 112]⟩ : ByteArray), (⟨#[115, 114, 99]⟩ : ByteArray), (⟨#[100, 115, 116]⟩ : ByteArray), (⟨#[112, 114, 111, 116, 111]⟩ : ByteArray), (⟨#[116, 111, 115]⟩ : ByteArray), (⟨#[115, 112, 111, 114, 116]⟩ : ByteArray), (⟨#[100, 112, 111, 114, 116]⟩ : ByteArray)] : List ByteArray) : List ByteArray)).bind fun y483 => (if 0 ≤ a0 then (if a0 < (y483.length : Int) then (some (rdOf ByteArray.empty y483 a0)) else (none)) else (none))))
set_option maxHeartbeats 8000000 in
set_option maxRecDepth 100000 in
theorem podestaref01_Name.calls (a0 : Int) (r : ByteArray) (w : World) (h : podestaref01_Name.f a0 = some r) :
    Calls Try.prog 51 #[.int .i64 a0] w fun e w' => e = .returned (.string r) ∧ Below w.heap.size w w' := by
  have HB := Aside0.mk (Below.refl w.heap.size w)
  have H : (if a0 < 0 then (some (⟨#[]⟩ : ByteArray)) else (if a0 > 11 then (some (⟨#[]⟩ : ByteArray)) else ((some (([(⟨#[105, 110]⟩ : ByteArray), (⟨#[101, 115, 114, 99]⟩ : ByteArray), (⟨#[101, 100, 115, 116]⟩ : ByteArray), (⟨#[101, 116, 121, 112, 101]⟩ : ByteArray), (⟨#[118, 108, 97, 110]⟩ : ByteArray), (⟨#[112, 99, 112]⟩ : ByteArray), (⟨#[115, 114, 99]⟩ : ByteArray), (⟨#[100, 115, 116]⟩ : ByteArray), (⟨#[112, 114, 111, 116, 111]⟩ : ByteArray), (⟨#[116, 111, 115]⟩ : ByteArray), (⟨#[115, 112, 111, 114, 116]⟩ : ByteArray), (⟨#[100, 112, 111, 114, 116]⟩ : ByteArray)] : List ByteArray) : List ByteArray)).bind fun y483 => (if 0 ≤ a0 then (if a0 < (y483.length : Int) then (some (rdOf ByteArray.empty y483 a0)) else (none)) else (none))))) = some r := h
  clear h
  by_cases c2 : a0 < 0
  · rw [if_pos c2] at H
    have c2b0 : decide (a0 < 0) = true := decide_eq_true c2
    clear c2
    obtain rfl := Option.some.inj H
    go_enter Try.func51, Try.ntmps51
    go_wp2
    go_ret
    exact ⟨by first | rfl | (simp [errW_none, errW_some] <;> rfl) | (simp [*, errW_none, errW_some] <;> rfl), by repeat (first | (with_reducible first | exact HB.out | apply below_alloc | apply pw_below_drewN | apply below_drew1) | exact HB.out)⟩
  · rw [if_neg c2] at H
    have c2b0 : decide (a0 < 0) = false := decide_eq_false c2
    clear c2
    by_cases c3 : a0 > 11
    · rw [if_pos c3] at H
      have c3b0 : decide (11 < a0) = true := decide_eq_true c3
      clear c3
      obtain rfl := Option.some.inj H
      go_enter Try.func51, Try.ntmps51
      go_wp2
      go_ret
      exact ⟨by first | rfl | (simp [errW_none, errW_some] <;> rfl) | (simp [*, errW_none, errW_some] <;> rfl), by repeat (first | (with_reducible first | exact HB.out | apply below_alloc | apply pw_below_drewN | apply below_drew1) | exact HB.out)⟩
    · rw [if_neg c3] at H
      have c3b0 : decide (11 < a0) = false := decide_eq_false c3
      clear c3
      obtain ⟨y483, hy483⟩ : ∃ y_ : List ByteArray, y_ = (([(⟨#[105, 110]⟩ : ByteArray), (⟨#[101, 115, 114, 99]⟩ : ByteArray), (⟨#[101, 100, 115, 116]⟩ : ByteArray), (⟨#[101, 116, 121, 112, 101]⟩ : ByteArray), (⟨#[118, 108, 97, 110]⟩ : ByteArray), (⟨#[112, 99, 112]⟩ : ByteArray), (⟨#[115, 114, 99]⟩ : ByteArray), (⟨#[100, 115, 116]⟩ : ByteArray), (⟨#[112, 114, 111, 116, 111]⟩ : ByteArray), (⟨#[116, 111, 115]⟩ : ByteArray), (⟨#[115, 112, 111, 114, 116]⟩ : ByteArray), (⟨#[100, 112, 111, 114, 116]⟩ : ByteArray)] : List ByteArray)) := ⟨_, rfl⟩
      replace H : (if 0 ≤ a0 then (if a0 < (y483.length : Int) then (some (rdOf ByteArray.empty y483 a0)) else (none)) else (none)) = some r := by first | (rw [hy483]; with_reducible exact H) | (have H2_ := (Option.bind_some _ _).symm.trans H; rw [hy483]; with_reducible exact H2_) | (have H2_ := (Option.bind_some _ _).symm.trans H; with_reducible exact H2_) | with_reducible exact H | (rw [hy483]; exact H) | exact H
      have Ny483 := Aside0.mk hy483
      clear hy483
      by_cases c4 : 0 ≤ a0
      · rw [if_pos c4] at H
        have c4b0 : decide (0 ≤ a0) = true := decide_eq_true c4
        clear c4
        by_cases c5 : a0 < (y483.length : Int)
        · rw [if_pos c5] at H
          have c5b0 : decide (a0 < (y483.length : Int)) = true := decide_eq_true c5
          clear c5
          obtain rfl := Option.some.inj H
          go_enter Try.func51, Try.ntmps51
          go_wp2_with (first | ((with_reducible refine gate_dst (N := 9) rfl ?_); refine Kd.R_lit Kd.string _ 9 ?hg (N := 9) ?hd (xs := ([(⟨#[105, 110]⟩ : ByteArray), (⟨#[101, 115, 114, 99]⟩ : ByteArray), (⟨#[101, 100, 115, 116]⟩ : ByteArray), (⟨#[101, 116, 121, 112, 101]⟩ : ByteArray), (⟨#[118, 108, 97, 110]⟩ : ByteArray), (⟨#[112, 99, 112]⟩ : ByteArray), (⟨#[115, 114, 99]⟩ : ByteArray), (⟨#[100, 115, 116]⟩ : ByteArray), (⟨#[112, 114, 111, 116, 111]⟩ : ByteArray), (⟨#[116, 111, 115]⟩ : ByteArray), (⟨#[115, 112, 111, 114, 116]⟩ : ByteArray), (⟨#[100, 112, 111, 114, 116]⟩ : ByteArray)] : List ByteArray)) (inner := [.string (⟨#[105, 110]⟩ : ByteArray), .string (⟨#[101, 115, 114, 99]⟩ : ByteArray), .string (⟨#[101, 100, 115, 116]⟩ : ByteArray), .string (⟨#[101, 116, 121, 112, 101]⟩ : ByteArray), .string (⟨#[118, 108, 97, 110]⟩ : ByteArray), .string (⟨#[112, 99, 112]⟩ : ByteArray), .string (⟨#[115, 114, 99]⟩ : ByteArray), .string (⟨#[100, 115, 116]⟩ : ByteArray), .string (⟨#[112, 114, 111, 116, 111]⟩ : ByteArray), .string (⟨#[116, 111, 115]⟩ : ByteArray), .string (⟨#[115, 112, 111, 114, 116]⟩ : ByteArray), .string (⟨#[100, 112, 111, 114, 116]⟩ : ByteArray)]) (ok := fun _ => True) (okp := fun _ => True) ?hr ?hp (fun _ hk => hk) trivial (Below.refl _ _) (Nat.le_refl _) (by simp) ?_; (case hd => rfl); (case hg => rfl); (case hr => first | (go_simp; done) | (go_simp; rfl)); (case hp => exact (Reps.one (show Kd.M Kd.string _ _ _ (⟨#[105, 110]⟩ : ByteArray) [.string (⟨#[105, 110]⟩ : ByteArray)] from rfl) (Reps.one (show Kd.M Kd.string _ _ _ (⟨#[101, 115, 114, 99]⟩ : ByteArray) [.string (⟨#[101, 115, 114, 99]⟩ : ByteArray)] from rfl) (Reps.one (show Kd.M Kd.string _ _ _ (⟨#[101, 100, 115, 116]⟩ : ByteArray) [.string (⟨#[101, 100, 115, 116]⟩ : ByteArray)] from rfl) (Reps.one (show Kd.M Kd.string _ _ _ (⟨#[101, 116, 121, 112, 101]⟩ : ByteArray) [.string (⟨#[101, 116, 121, 112, 101]⟩ : ByteArray)] from rfl) (Reps.one (show Kd.M Kd.string _ _ _ (⟨#[118, 108, 97, 110]⟩ : ByteArray) [.string (⟨#[118, 108, 97, 110]⟩ : ByteArray)] from rfl) (Reps.one (show Kd.M Kd.string _ _ _ (⟨#[112, 99, 112]⟩ : ByteArray) [.string (⟨#[112, 99, 112]⟩ : ByteArray)] from rfl) (Reps.one (show Kd.M Kd.string _ _ _ (⟨#[115, 114, 99]⟩ : ByteArray) [.string (⟨#[115, 114, 99]⟩ : ByteArray)] from rfl) (Reps.one (show Kd.M Kd.string _ _ _ (⟨#[100, 115, 116]⟩ : ByteArray) [.string (⟨#[100, 115, 116]⟩ : ByteArray)] from rfl) (Reps.one (show Kd.M Kd.string _ _ _ (⟨#[112, 114, 111, 116, 111]⟩ : ByteArray) [.string (⟨#[112, 114, 111, 116, 111]⟩ : ByteArray)] from rfl) (Reps.one (show Kd.M Kd.string _ _ _ (⟨#[116, 111, 115]⟩ : ByteArray) [.string (⟨#[116, 111, 115]⟩ : ByteArray)] from rfl) (Reps.one (show Kd.M Kd.string _ _ _ (⟨#[115, 112, 111, 114, 116]⟩ : ByteArray) [.string (⟨#[115, 112, 111, 114, 116]⟩ : ByteArray)] from rfl) (Reps.one (show Kd.M Kd.string _ _ _ (⟨#[100, 112, 111, 114, 116]⟩ : ByteArray) [.string (⟨#[100, 112, 111, 114, 116]⟩ : ByteArray)] from rfl) (Reps.none _ _)))))))))))))); intro v484 w6 ho7 hb hg_ hnew_; clear hg_ hnew_; (first | rw [← Ny483.out] at ho7 | (simp only [Int.reduceToNat] at ho7; rw [← Ny483.out] at ho7)); have n0_ := Aside0.mk (Kd.R_lower ho7 (below_size (by repeat (first | (with_reducible first | exact HB.out | apply below_alloc | apply pw_below_drewN | apply below_drew1) | exact HB.out)))); have n1_ := Aside0.mk (below_step (by repeat (first | (with_reducible first | exact HB.out | apply below_alloc | apply pw_below_drewN | apply below_drew1) | exact HB.out)) hb); clear HB; have HO485 := n0_; have HB := n1_; clear n0_ n1_; clear hb ho7; obtain ⟨Ao8, co8, eo8⟩ := Kd.R_slice HO485.out; subst eo8; have p486 : 0 ≤ (a0 : Int) := of_decide_eq_true (by first | (with_reducible assumption) | assumption); have q486 : a0 < (y483.length : Int) := of_decide_eq_true (by first | (with_reducible assumption) | assumption); obtain ⟨ad486, e486, hx486_0⟩ := Kd.at_string (Kd.R_reads' HO485.out).2.2 a0 p486 q486; cases e486; replace p486 := eq_true p486; replace q486 := eq_true q486))
          go_ret
          exact ⟨by first | rfl | (simp [errW_none, errW_some] <;> rfl) | (simp [*, errW_none, errW_some] <;> rfl), by repeat (first | (with_reducible first | exact HB.out | apply below_alloc | apply pw_below_drewN | apply below_drew1) | exact HB.out)⟩
        · rw [if_neg c5] at H
          exact absurd H (by simp)
      · rw [if_neg c4] at H
        exact absurd H (by simp)
end Go.Proofs.Ytdiadmlgeojefaa.A
namespace Go.Proofs.Ytdiadmlgeojefaa.A
open Go.RowKit Go.Proofs.YtdiadmlgeojefaaW.PrintWords Go.Proofs.YtdiadmlgeojefaaW.PrintLast Go.Proofs.YtdiadmlgeojefaaW.PrintMore
attribute [local go_sem] max2_int min2_int max_two min_two max_three min_three max_four min_four   -- for this text's walks alone
set_option linter.unusedVariables false
set_option linter.unusedSimpArgs false
def podestaref01_Field.l0 : Nat → ByteArray → Int → Option (Int × Bool)
  | 0, _, _ => none
  | k + 1, x0, x4 => if x4 < 12 then ((podestaref01_Name.f x4).bind fun t487 => (if t487.toList = x0.toList then (some (x4, true)) else (podestaref01_Field.l0 k x0 (wrap64 (x4 + 1))))) else (some (0, false))
def podestaref01_Field.f (k : Nat) (a0 : ByteArray) : Option (Int × Bool) := podestaref01_Field.l0 k a0 0
theorem podestaref01_Field.mono_l : ∀ k, (∀ y0 y1, LeO (podestaref01_Field.l0 k y0 y1) (podestaref01_Field.l0 (k + 1) y0 y1))
  | 0 => fun _ _ r h => by simp [podestaref01_Field.l0] at h
  | k + 1 => by
    have ih0 := podestaref01_Field.mono_l k
    · intro y0 y1
      unfold podestaref01_Field.l0
      repeat' first
      | (with_reducible exact ih0 _ _)
      | (with_reducible exact LeO.refl _)
      | (with_reducible exact LeO.none _)
      | (with_reducible refine LeO.ite ?_ ?_)
      | (with_reducible refine LeO.bind ?_ (fun _ => ?_))
      | exact ih0 _ _
      | exact LeO.none _
      | refine LeO.ite ?_ ?_
      | refine LeO.bind ?_ (fun _ => ?_)
theorem podestaref01_Field.mono : ∀ a0 k, LeO (podestaref01_Field.f k a0) (podestaref01_Field.f (k + 1) a0) := by
  intro a0 k
  have ih0 := podestaref01_Field.mono_l k
  unfold podestaref01_Field.f
  repeat' first
      | (with_reducible exact ih0 _ _)
      | (with_reducible exact LeO.refl _)
      | (with_reducible exact LeO.none _)
      | (with_reducible refine LeO.ite ?_ ?_)
      | (with_reducible refine LeO.bind ?_ (fun _ => ?_))
      | exact ih0 _ _
      | exact LeO.none _
      | refine LeO.ite ?_ ?_
      | refine LeO.bind ?_ (fun _ => ?_)
set_option maxHeartbeats 8000000 in
set_option maxRecDepth 100000 in
theorem podestaref01_Field.calls (k : Nat) (a0 : ByteArray) (r1 : Int) (r2 : Bool) (w : World) (h : podestaref01_Field.f k a0 = some (r1, r2)) :
    Calls Try.prog 30 #[.string a0] w fun e w' => e = .returned (.tuple #[.int .i64 r1, .bool r2]) ∧ Below w.heap.size w w' := by
  have HB := Aside0.mk (Below.refl w.heap.size w)
  have H : (podestaref01_Field.l0 k a0 0) = some (r1, r2) := h
  clear h
  have H' := Aside0.mk H
  clear H
  go_enter Try.func30, Try.ntmps30
  go_wp2
  go_loopg [4] k (fun kq v4 w' => ∃ (x4_1 : Int), v4 = .int .i64 x4_1 ∧ Aside0 (podestaref01_Field.l0 kq a0 x4_1 = some (r1, r2)) ∧ Aside0 (kq ≤ k) ∧ Aside0 (Below w.heap.size w w'))
  case atStart => exact ⟨(0), (by first | rfl | (simp; done) | (simp [*]; done)), H', ⟨Nat.le_refl _⟩, ⟨by repeat (first | (with_reducible first | exact HB.out | apply below_alloc | apply pw_below_drewN | apply below_drew1) | exact HB.out)⟩⟩
  case round =>
    clear H'
    obtain ⟨x4_1, rfl, HA, HK1, HB⟩ := hrel
    cases gk with
    | zero => exact absurd HA.out (by simp [podestaref01_Field.l0])
    | succ k1 =>
      have H := HA.out
      clear HA
      simp only [podestaref01_Field.l0] at H
      by_cases c2 : x4_1 < 12
      · rw [if_pos c2] at H
        have c2b0 : decide (x4_1 < 12) = true := decide_eq_true c2
        clear c2
        replace H := Option.bind_eq_some_iff.mp H
        obtain ⟨t487, A30, H⟩ := H
        replace H : (if t487.toList = a0.toList then (some (x4_1, true)) else (podestaref01_Field.l0 k1 a0 (wrap64 (x4_1 + 1)))) = some (r1, r2) := H
        have A3 := Aside0.mk A30
        clear A30
        by_cases c4 : t487.toList = a0.toList
        · rw [if_pos c4] at H
          have c4b0 : (t487.toList == a0.toList) = true := beq_iff_eq.mpr c4
          have c4b1 : (t487.toList != a0.toList) = false := bne_eq_false_iff_eq.mpr c4
          clear c4
          simp only [Option.some.injEq, Prod.mk.injEq] at H
          obtain ⟨rfl, rfl⟩ := H
          go_wp2_with (first | ((with_reducible refine gate_callee (f := 51) rfl ?_); refine goesL_ (some 10) rfl rfl Try.func51 (by kernel_rfl) rfl #[.int .i64 x4_1] rfl (by (try simp only [List.map_toArray, List.map_cons, List.map_nil]); first | done | rfl | (simp only [List.length_drop, List.length_take]; rfl)) ?_; (with_reducible refine (podestaref01_Name.calls x4_1 t487 _ A3.out).mono ?_); rintro e w5 ⟨rfl, hb⟩; refine ⟨_, rfl, ?_⟩; have n0_ := Aside0.mk (below_step (by repeat (first | (with_reducible first | exact HB.out | apply below_alloc | apply pw_below_drewN | apply below_drew1) | exact HB.out)) hb); clear HB; have HB := n0_; clear n0_; (try clear hb); (try clear hb2); (try clear hk); (try clear hi)))
          go_ret2
          exact ⟨by first | rfl | (simp [errW_none, errW_some] <;> rfl) | (simp [*, errW_none, errW_some] <;> rfl), by repeat (first | (with_reducible first | exact HB.out | apply below_alloc | apply pw_below_drewN | apply below_drew1) | exact HB.out)⟩
        · rw [if_neg c4] at H
          have c4b0 : (t487.toList == a0.toList) = false := beq_eq_false_iff_ne.mpr c4
          have c4b1 : (t487.toList != a0.toList) = true := bne_iff_ne.mpr c4
          have H' := Aside0.mk H
          clear H
          go_wp2_with (first | ((with_reducible refine gate_callee (f := 51) rfl ?_); refine goesL_ (some 10) rfl rfl Try.func51 (by kernel_rfl) rfl #[.int .i64 x4_1] rfl (by (try simp only [List.map_toArray, List.map_cons, List.map_nil]); first | done | rfl | (simp only [List.length_drop, List.length_take]; rfl)) ?_; (with_reducible refine (podestaref01_Name.calls x4_1 t487 _ A3.out).mono ?_); rintro e w6 ⟨rfl, hb⟩; refine ⟨_, rfl, ?_⟩; have n0_ := Aside0.mk (below_step (by repeat (first | (with_reducible first | exact HB.out | apply below_alloc | apply pw_below_drewN | apply below_drew1) | exact HB.out)) hb); clear HB; have HB := n0_; clear n0_; (try clear hb); (try clear hb2); (try clear hk); (try clear hi)))
          go_roundg k1
          case measure => have := HK1.out; omega
          case rel => exact ⟨(wrap64 (x4_1 + 1)), (by first | rfl | (simp; done) | (simp [*]; done)), H', ⟨by have := HK1.out; omega⟩, ⟨by repeat (first | (with_reducible first | exact HB.out | apply below_alloc | apply pw_below_drewN | apply below_drew1) | exact HB.out)⟩⟩
      · rw [if_neg c2] at H
        have c2b0 : decide (x4_1 < 12) = false := decide_eq_false c2
        clear c2
        simp only [Option.some.injEq, Prod.mk.injEq] at H
        obtain ⟨rfl, rfl⟩ := H
        go_wp2
        go_ret2
        exact ⟨by first | rfl | (simp [errW_none, errW_some] <;> rfl) | (simp [*, errW_none, errW_some] <;> rfl), by repeat (first | (with_reducible first | exact HB.out | apply below_alloc | apply pw_below_drewN | apply below_drew1) | exact HB.out)⟩
end Go.Proofs.Ytdiadmlgeojefaa.A
namespace Go.Proofs.Ytdiadmlgeojefaa.A
open Go.RowKit Go.Proofs.YtdiadmlgeojefaaW.PrintWords Go.Proofs.YtdiadmlgeojefaaW.PrintLast Go.Proofs.YtdiadmlgeojefaaW.PrintMore
attribute [local go_sem] max2_int min2_int max_two min_two max_three min_three max_four min_four   -- for this text's walks alone
set_option linter.unusedVariables false
set_option linter.unusedSimpArgs false
def check_Events.f  : Option (List ByteArray) := some (([(⟨#[112, 97, 99, 107, 101, 116]⟩ : ByteArray), (⟨#[114, 101, 109, 111, 118, 101, 100]⟩ : ByteArray), (⟨#[116, 105, 99, 107]⟩ : ByteArray)] : List ByteArray))
set_option maxHeartbeats 8000000 in
set_option maxRecDepth 100000 in
theorem check_Events.calls  (r : List ByteArray) (w : World) (h : check_Events.f  = some r) :
    Calls Try.prog 14 #[] w fun e w' => ∃ v0_ : Value, e = .returned (v0_) ∧ Kd.R Kd.string 9 w' w.heap.size (fun _ => True) v0_ r ∧ Below w.heap.size w w' := by
  have HB := Aside0.mk (Below.refl w.heap.size w)
  have H : (some (([(⟨#[112, 97, 99, 107, 101, 116]⟩ : ByteArray), (⟨#[114, 101, 109, 111, 118, 101, 100]⟩ : ByteArray), (⟨#[116, 105, 99, 107]⟩ : ByteArray)] : List ByteArray))) = some r := h
  clear h
  obtain ⟨y101, hy101⟩ : ∃ y_ : List ByteArray, y_ = (([(⟨#[112, 97, 99, 107, 101, 116]⟩ : ByteArray), (⟨#[114, 101, 109, 111, 118, 101, 100]⟩ : ByteArray), (⟨#[116, 105, 99, 107]⟩ : ByteArray)] : List ByteArray)) := ⟨_, rfl⟩
  replace H : (some y101) = some r := by first | (rw [hy101]; with_reducible exact H) | (have H2_ := (Option.bind_some _ _).symm.trans H; rw [hy101]; with_reducible exact H2_) | (have H2_ := (Option.bind_some _ _).symm.trans H; with_reducible exact H2_) | with_reducible exact H | (rw [hy101]; exact H) | exact H
  have Ny101 := Aside0.mk hy101
  clear hy101
  obtain rfl := Option.some.inj H
  go_enter Try.func14, Try.ntmps14
  go_wp2_with (first | ((with_reducible refine gate_dst (N := 1) rfl ?_); refine Kd.R_lit Kd.string _ 9 ?hg (N := 1) ?hd (xs := ([(⟨#[112, 97, 99, 107, 101, 116]⟩ : ByteArray), (⟨#[114, 101, 109, 111, 118, 101, 100]⟩ : ByteArray), (⟨#[116, 105, 99, 107]⟩ : ByteArray)] : List ByteArray)) (inner := [.string (⟨#[112, 97, 99, 107, 101, 116]⟩ : ByteArray), .string (⟨#[114, 101, 109, 111, 118, 101, 100]⟩ : ByteArray), .string (⟨#[116, 105, 99, 107]⟩ : ByteArray)]) (ok := fun _ => True) (okp := fun _ => True) ?hr ?hp (fun _ hk => hk) trivial (Below.refl _ _) (Nat.le_refl _) (by simp) ?_; (case hd => rfl); (case hg => rfl); (case hr => first | (go_simp; done) | (go_simp; rfl)); (case hp => exact (Reps.one (show Kd.M Kd.string _ _ _ (⟨#[112, 97, 99, 107, 101, 116]⟩ : ByteArray) [.string (⟨#[112, 97, 99, 107, 101, 116]⟩ : ByteArray)] from rfl) (Reps.one (show Kd.M Kd.string _ _ _ (⟨#[114, 101, 109, 111, 118, 101, 100]⟩ : ByteArray) [.string (⟨#[114, 101, 109, 111, 118, 101, 100]⟩ : ByteArray)] from rfl) (Reps.one (show Kd.M Kd.string _ _ _ (⟨#[116, 105, 99, 107]⟩ : ByteArray) [.string (⟨#[116, 105, 99, 107]⟩ : ByteArray)] from rfl) (Reps.none _ _))))); intro v102 w1 ho2 hb hg_ hnew_; clear hg_ hnew_; (first | rw [← Ny101.out] at ho2 | (simp only [Int.reduceToNat] at ho2; rw [← Ny101.out] at ho2)); have n0_ := Aside0.mk (Kd.R_lower ho2 (below_size (by repeat (first | (with_reducible first | exact HB.out | apply below_alloc | apply pw_below_drewN | apply below_drew1) | exact HB.out)))); have n1_ := Aside0.mk (below_step (by repeat (first | (with_reducible first | exact HB.out | apply below_alloc | apply pw_below_drewN | apply below_drew1) | exact HB.out)) hb); clear HB; have HO103 := n0_; have HB := n1_; clear n0_ n1_; clear hb ho2))
  go_ret
  exact ⟨_, by first | rfl | (simp [errW_none, errW_some] <;> rfl) | (simp [*, errW_none, errW_some] <;> rfl), by (with_reducible repeat (first | apply Kd.R_alloc | apply Kd.R_drewN | apply Kd.R_drew)); exact HO103.out, by repeat (first | (with_reducible first | exact HB.out | apply below_alloc | apply pw_below_drewN | apply below_drew1) | exact HB.out)⟩
end Go.Proofs.Ytdiadmlgeojefaa.A
namespace Go.Proofs.Ytdiadmlgeojefaa.A
open Go.RowKit Go.Proofs.YtdiadmlgeojefaaW.PrintWords Go.Proofs.YtdiadmlgeojefaaW.PrintLast Go.Proofs.YtdiadmlgeojefaaW.PrintMore
set_option linter.unusedVariables false
set_option linter.unusedSimpArgs false
def fldL : List S65 := [⟨⟨#[105, 110]⟩, 16⟩, ⟨⟨#[101, 115, 114, 99]⟩, 48⟩, ⟨⟨#[101, 100, 115, 116]⟩, 48⟩, ⟨⟨#[101, 116, 121, 112, 101]⟩, 16⟩, ⟨⟨#[118, 108, 97, 110]⟩, 12⟩, ⟨⟨#[112, 99, 112]⟩, 4⟩, ⟨⟨#[115, 114, 99]⟩, 32⟩, ⟨⟨#[100, 115, 116]⟩, 32⟩, ⟨⟨#[112, 114, 111, 116, 111]⟩, 8⟩, ⟨⟨#[116, 111, 115]⟩, 8⟩, ⟨⟨#[115, 112, 111, 114, 116]⟩, 12⟩, ⟨⟨#[100, 112, 111, 114, 116]⟩, 12⟩]
def fldCells : List Value := [.string ⟨#[105, 110]⟩, .int .i64 16, .string ⟨#[101, 115, 114, 99]⟩, .int .i64 48, .string ⟨#[101, 100, 115, 116]⟩, .int .i64 48, .string ⟨#[101, 116, 121, 112, 101]⟩, .int .i64 16, .string ⟨#[118, 108, 97, 110]⟩, .int .i64 12, .string ⟨#[112, 99, 112]⟩, .int .i64 4, .string ⟨#[115, 114, 99]⟩, .int .i64 32, .string ⟨#[100, 115, 116]⟩, .int .i64 32, .string ⟨#[112, 114, 111, 116, 111]⟩, .int .i64 8, .string ⟨#[116, 111, 115]⟩, .int .i64 8, .string ⟨#[115, 112, 111, 114, 116]⟩, .int .i64 12, .string ⟨#[100, 112, 111, 114, 116]⟩, .int .i64 12]
def vals104 : Array (Nat × Value) := #[(0, .agg #[.string ⟨#[105, 110]⟩, .int .i64 16]), (1, .agg #[.string ⟨#[101, 115, 114, 99]⟩, .int .i64 48]), (2, .agg #[.string ⟨#[101, 100, 115, 116]⟩, .int .i64 48]), (3, .agg #[.string ⟨#[101, 116, 121, 112, 101]⟩, .int .i64 16]), (4, .agg #[.string ⟨#[118, 108, 97, 110]⟩, .int .i64 12]), (5, .agg #[.string ⟨#[112, 99, 112]⟩, .int .i64 4]), (6, .agg #[.string ⟨#[115, 114, 99]⟩, .int .i64 32]), (7, .agg #[.string ⟨#[100, 115, 116]⟩, .int .i64 32]), (8, .agg #[.string ⟨#[112, 114, 111, 116, 111]⟩, .int .i64 8]), (9, .agg #[.string ⟨#[116, 111, 115]⟩, .int .i64 8]), (10, .agg #[.string ⟨#[115, 112, 111, 114, 116]⟩, .int .i64 12]), (11, .agg #[.string ⟨#[100, 112, 111, 114, 116]⟩, .int .i64 12])]
theorem build104 (W : World) : (Instr.build 104 vals104).run Try.prog W = .ok (.agg fldCells.toArray) W := by kernel_rfl
theorem info104 : (Try.prog.info? 104).map (·.size) = some 24 := by kernel_rfl
theorem info103 : (Try.prog.info? 103).map (·.size) = some 2 := by kernel_rfl
def fld0 : List Value := [.string ⟨#[]⟩, .int .i64 0, .string ⟨#[]⟩, .int .i64 0, .string ⟨#[]⟩, .int .i64 0, .string ⟨#[]⟩, .int .i64 0, .string ⟨#[]⟩, .int .i64 0, .string ⟨#[]⟩, .int .i64 0, .string ⟨#[]⟩, .int .i64 0, .string ⟨#[]⟩, .int .i64 0, .string ⟨#[]⟩, .int .i64 0, .string ⟨#[]⟩, .int .i64 0, .string ⟨#[]⟩, .int .i64 0, .string ⟨#[]⟩, .int .i64 0]
section
variable {ops : Array Oper} {rest : List Oper} {o : Oper} {a : Act} {Q : Exit → Act → World → Prop} {W : World}
theorem ev_yield (hgd : o.guard = none) {N : Tmp} (_hd : o.dst = some N) {v : Value} (hrun : (execOp a.eval o).run Try.prog W = .ok (.value v) W) (h : wpList Try.prog ops Q rest (a.put o.dst v) W) : wpList Try.prog ops Q (o :: rest) a W := by
  refine wpList_plain hgd fun K hK => ?_
  unfold Oper.wp
  simp only [hrun]
  exact hK _ _ h
theorem ev_build (hgd : o.guard = none) {N : Tmp} (_hd : o.dst = some N) {t : TypeId} {parts : Array (Nat × Operand)} (ho : o.op = .build t parts) (vals : Array (Nat × Value)) {v : Value} (hp : parts.map (fun x => (x.1, a.eval x.2)) = vals) (hrun : (Instr.build t vals).run Try.prog W = .ok v W) (h : wpList Try.prog ops Q rest (a.put o.dst v) W) : wpList Try.prog ops Q (o :: rest) a W := by
  refine ev_yield hgd _hd ?_ h
  unfold execOp
  simp only [ho, Sem.run_bind]
  have : (parts.map fun x => (x.1, a.eval x.2)) = vals := hp
  rw [this, hrun]
  rfl
theorem ev_box1 (hgd : o.guard = none) {N : Tmp} (_hd : o.dst = some N) {t : TypeId} (x : Operand) (ho : o.op = .box t x) (v : Value) (hx : a.eval x = v) (hv : v.cells = #[v])
    (h : ∀ g, g = W.heap.size → ∀ w1, w1.heap[g]? = some (.cells [v].toArray t (0, 0)) → Below W.heap.size W w1 → wpList Try.prog ops Q rest (a.put o.dst (.pointer (some ⟨g, 0, none⟩))) w1) : wpList Try.prog ops Q (o :: rest) a W := by
  refine box_event hgd _hd ?_ h
  unfold execOp
  simp [ho, hx, Instr.box, newVar, newRow, hv]
end
set_option maxHeartbeats 4000000 in
set_option maxRecDepth 100000 in
theorem fields_calls (w : World) : Calls Try.prog 48 #[] w fun e w' => e = .returned (.agg fldCells.toArray) ∧ Below w.heap.size w w' := by
  have HB := aK (Below.refl w.heap.size w)
  go_enter Try.func48, Try.ntmps48
  go_wp2_with (first
    | ((with_reducible refine gD 0 rfl ?_); go_must ((refine Mine.ev_alloc rfl (N := 0) rfl rfl (fld0) (by (try unfold execOp); first | (go_simp; done) | (go_simp; rfl)) ?_; intro b0 hbn w1 hblk hbel; have GPb0 := aK (show w.heap.size ≤ b0 by have := HB.out.size; omega); replace HB := aK (below_step HB.out hbel); have BXb0 := aK hblk; clear hblk hbel hbn)))
    | ((with_reducible refine gD 13 rfl ?_); go_must ((refine ev_build rfl (N := 13) rfl rfl vals104 (mpT rfl) (build104 _) ?_)))
    | ((with_reducible refine gate_ (.store 104 (.tmp 0) (.tmp 13)) rfl ?_); go_must ((refine Mine.ev_store rfl rfl 104 (.tmp 0) (.tmp 13) rfl (.agg fldCells.toArray) fldCells (cs := fld0) rfl rfl rfl BXb0.out (by decide) info104 (by decide) ?_; intro w1 hblk hg hz; rw [Mine.splice_all _ _ (by decide)] at hblk; replace HB := aK (pw_below_grown HB.out _ HB.out.size hg (by intro k hk; injection hk with hk; have := GPb0.out; omega)); replace BXb0 := aK (hblk); clear hblk hg hz))))
  refine bodyPost_ret (results_cell_row rfl _ _ b0 104 fldCells.toArray _ _ rfl BXb0.out Try.underlying104 rfl info104) rfl ⟨rfl, HB.out⟩
end Go.Proofs.Ytdiadmlgeojefaa.A
namespace Go.Proofs.Ytdiadmlgeojefaa.A
open Go.RowKit Go.Proofs.YtdiadmlgeojefaaW.PrintWords Go.Proofs.YtdiadmlgeojefaaW.PrintLast Go.Proofs.YtdiadmlgeojefaaW.PrintMore
set_option linter.unusedVariables false
set_option linter.unusedSimpArgs false
attribute [local go_sem] max2_int min2_int max_two min_two max_three min_three max_four min_four
theorem flat_get {α : Type} (f : α → List Value) (sz : Nat) (hf : ∀ x, (f x).length = sz) : ∀ (xs : List α) (j i : Nat) (x : α), xs[j]? = some x → i < sz → (xs.flatMap f)[j * sz + i]? = (f x)[i]?
  | [], j, i, x, h, _ => by simp at h
  | y :: r, 0, i, x, h, hi => by
    simp only [List.getElem?_cons_zero, Option.some.injEq] at h
    subst h
    rw [List.flatMap_cons, Nat.zero_mul, Nat.zero_add, List.getElem?_append_left (by rw [hf]; exact hi)]
  | y :: r, j + 1, i, x, h, hi => by
    rw [List.flatMap_cons, List.getElem?_append_right (by rw [hf, Nat.succ_mul]; omega), hf, show (j + 1) * sz + i - sz = j * sz + i by rw [Nat.succ_mul]; omega]
    exact flat_get f sz hf r j i x (by simpa using h) hi
theorem C_flat {α : Type} {d : Kd α} {W : World} {b : Nat} {t : TypeId} (f : α → List Value) (xs : List α) (hf : ∀ x, (f x).length = d.sz) (hK : ∀ x ∈ xs, d.K W x (f x)) (hl : xs.length ≤ 9223372036854775807) (hb : W.heap[b]? = some (.cells (xs.flatMap f).toArray t (0, 0))) : Kd.C d W (some ⟨b, 0, none⟩) xs.length xs := by
  refine ⟨rfl, hl, fun _ => ⟨_, rfl, fun j p hj => ⟨f p, hf p, hK p (List.mem_of_getElem? hj), fun i u hu => ?_⟩⟩⟩
  have hi : i < d.sz := by
    have := (List.getElem?_eq_some_iff.1 hu).1
    rwa [hf] at this
  rw [Mine.at_add, Mine.blk_cells hb, flat_get f d.sz hf xs j i p hj hi]
  exact hu
theorem fld_C {W : World} {b : Nat} {t : TypeId} (hb : W.heap[b]? = some (.cells fldCells.toArray t (0, 0))) : Kd.C k65 W (some ⟨b, 0, none⟩) fldL.length fldL :=
  C_flat (fun x : S65 => [.string x.f0, .int .i64 x.f1]) fldL (fun _ => rfl) (fun x _ => k65_mk W x) (by decide) hb
def eqN (name : ByteArray) (x : S65) : Bool := x.f0.toList == name.toList
set_option maxHeartbeats 4000000 in
set_option maxRecDepth 100000 in
theorem field1_calls (name : ByteArray) (x : S65) (cs : List Value) (bn : Nat) (W : World) (hK : k65.K W x cs) (hb : W.heap[bn]? = some (.cells [Value.string name].toArray 9 (0, 0))) :
    Calls Try.prog 50 #[.agg cs.toArray, .pointer (some ⟨bn, 0, none⟩)] W fun e W' => e = .returned (.bool (eqN name x)) ∧ Below W.heap.size W W' := by
  obtain rfl := k65_open hK
  have HB := aK (Below.refl W.heap.size W)
  have BXbn := aK hb
  clear hK hb
  go_enter Try.func50, Try.ntmps50
  go_wp2_with (first
    | ((with_reducible refine gD 2 rfl ?_); go_must ((refine Mine.ev_box rfl (N := 2) rfl (.tmp 0) rfl ([.string x.f0, .int .i64 x.f1]) rfl ?_; intro bx hbn w1 hblk hbel; have GPbx := aK (show W.heap.size ≤ bx by have := HB.out.size; omega); have LTbnbx := aK (show bn < bx by have := blk_lt BXbn.out; omega); replace HB := aK (below_step HB.out hbel); replace BXbn := Zc hbel BXbn; have BXbx := aK hblk; clear hblk hbel hbn)))
    | ((with_reducible refine gD 5 rfl ?_); go_must ((refine ev_cell rfl (N := 5) rfl 9 (.tmp 4) rfl ⟨bx, 0, none⟩ rfl (.string x.f0) _ ((Mine.blk_cells BXbx.out 0).trans rfl) Try.underlying9 rfl ?_)))
    | ((with_reducible refine gD 6 rfl ?_); go_must ((refine ev_cell rfl (N := 6) rfl 9 (.tmp 1) rfl ⟨bn, 0, none⟩ rfl (.string name) _ ((Mine.blk_cells BXbn.out 0).trans rfl) Try.underlying9 rfl ?_))))
  go_ret
  exact ⟨rfl, HB.out⟩
set_option maxHeartbeats 4000000 in
set_option maxRecDepth 100000 in
theorem at1_calls (name : ByteArray) (x : S65) (cs : List Value) (bn : Nat) (W : World) (hK : k65.K W x cs) (hb : W.heap[bn]? = some (.cells [Value.string name].toArray 9 (0, 0))) :
    Calls Try.prog 120 #[.agg cs.toArray, .pointer (some ⟨bn, 0, none⟩)] W fun e W' => e = .returned (.bool (eqN name x)) ∧ Below W.heap.size W W' := by
  obtain rfl := k65_open hK
  have HB := aK (Below.refl W.heap.size W)
  have BXbn := aK hb
  clear hK hb
  go_enter Try.func120, Try.ntmps120
  go_wp2_with (first
    | ((with_reducible refine gD 2 rfl ?_); go_must ((refine Mine.ev_box rfl (N := 2) rfl (.tmp 0) rfl ([.string x.f0, .int .i64 x.f1]) rfl ?_; intro bx hbn w1 hblk hbel; have GPbx := aK (show W.heap.size ≤ bx by have := HB.out.size; omega); have LTbnbx := aK (show bn < bx by have := blk_lt BXbn.out; omega); replace HB := aK (below_step HB.out hbel); replace BXbn := Zc hbel BXbn; have BXbx := aK hblk; clear hblk hbel hbn)))
    | ((with_reducible refine gD 5 rfl ?_); go_must ((refine ev_cell rfl (N := 5) rfl 9 (.tmp 4) rfl ⟨bx, 0, none⟩ rfl (.string x.f0) _ ((Mine.blk_cells BXbx.out 0).trans rfl) Try.underlying9 rfl ?_)))
    | ((with_reducible refine gD 6 rfl ?_); go_must ((refine ev_cell rfl (N := 6) rfl 9 (.tmp 1) rfl ⟨bn, 0, none⟩ rfl (.string name) _ ((Mine.blk_cells BXbn.out 0).trans rfl) Try.underlying9 rfl ?_))))
  go_ret
  exact ⟨rfl, HB.out⟩
def fieldF (name : ByteArray) : Int × Bool := (max (idxF (eqN name) fldL 0) 0, decide (idxF (eqN name) fldL 0 ≥ 0))
set_option maxHeartbeats 4000000 in
set_option maxRecDepth 100000 in
theorem field_calls (name : ByteArray) (w : World) : Calls Try.prog 29 #[.string name] w fun e w' => e = .returned (.tuple #[.int .i64 (fieldF name).1, .bool (fieldF name).2]) ∧ Below w.heap.size w w' := by
  have HB := aK (Below.refl w.heap.size w)
  unfold fieldF
  obtain ⟨n, en⟩ : ∃ n_, n_ = idxF (eqN name) fldL 0 := ⟨_, rfl⟩
  rw [← en]
  have EN := aK en
  clear en
  have hmf : ∀ (fn : Fn) (first cap : Array Value) (w : World), (Instr.makeFunc fn first cap).run Try.prog w = .ok (.func fn first cap) w := fun _ _ _ _ => rfl
  go_enter Try.func29, Try.ntmps29
  go_wp2_with (first
    | ((with_reducible refine gD 1 rfl ?_); go_must ((refine ev_box1 rfl (N := 1) rfl (.tmp 0) rfl (.string name) rfl rfl ?_; intro bn hbn w1 hblk hbel; have GPbn := aK (show w.heap.size ≤ bn by have := HB.out.size; omega); replace HB := aK (below_step HB.out hbel); have BXbn := aK hblk; clear hblk hbel hbn)))
    | ((with_reducible refine gD 6 rfl ?_); go_must ((refine goesL_ (some 6) rfl rfl Try.func48 (by kernel_rfl) rfl #[] rfl (mpT rfl) ?_; refine (fields_calls _).mono ?_; rintro e w1 ⟨rfl, hbel⟩; refine ⟨_, rfl, ?_⟩; replace HB := aK (below_step HB.out hbel); replace BXbn := Zc hbel BXbn; clear hbel)))
    | ((with_reducible refine gD 4 rfl ?_); go_must ((refine Mine.ev_alloc rfl (N := 4) rfl rfl (fld0) (by (try unfold execOp); first | (go_simp; done) | (go_simp; rfl)) ?_; intro b4 hbn w1 hblk hbel; have GPb4 := aK (show w.heap.size ≤ b4 by have := HB.out.size; omega); have LTbnb4 := aK (show bn < b4 by have := blk_lt BXbn.out; omega); replace HB := aK (below_step HB.out hbel); replace BXbn := Zc hbel BXbn; have BXb4 := aK hblk; clear hblk hbel hbn)))
    | ((with_reducible refine gate_ (.store 104 (.tmp 4) (.tmp 6)) rfl ?_); go_must ((refine Mine.ev_store rfl rfl 104 (.tmp 4) (.tmp 6) rfl (.agg fldCells.toArray) fldCells (cs := fld0) rfl rfl rfl BXb4.out (by decide) info104 (by decide) ?_; intro w1 hblk hg hz; rw [Mine.splice_all _ _ (by decide)] at hblk; replace HB := aK (pw_below_grown HB.out _ HB.out.size hg (by intro k hk; injection hk with hk; have := GPb4.out; omega)); replace BXbn := Zg hg BXbn LTbnb4; replace BXb4 := aK (hblk); clear hblk hg hz)))
    | ((with_reducible refine gD 9 rfl ?_); go_must ((refine goesL_ (some 9) rfl rfl Try.func49 (by kernel_rfl) rfl #[.slice (some ⟨b4, 0, none⟩) fldL.length 12, .func (.func 50) #[] #[.pointer (some ⟨bn, 0, none⟩)]] rfl (mpT rfl) ?_; refine (idxf49 (d := k65) info103 (eqN name) 50 Try.func50 (by kernel_rfl) rfl #[.pointer (some ⟨bn, 0, none⟩)] (some ⟨b4, 0, none⟩) 12 fldL _ (fld_C BXb4.out) (by decide) (fun x _ W hW cs hK => field1_calls name x cs bn W hK (below_blk hW BXbn.out))).mono ?_; rintro e w1 ⟨rfl, hbel⟩; refine ⟨_, rfl, ?_⟩; rw [← EN.out]; replace HB := aK (below_step HB.out hbel); replace BXbn := Zc hbel BXbn; replace BXb4 := Zc hbel BXb4; clear hbel; go_frame))))
  all_goals
    go_ret2
    refine ⟨?_, HB.out⟩
    first
      | (have e0 : max n 0 = 0 := by omega
         rw [e0]; rfl)
      | (have e0 : max n 0 = n := by omega
         rw [e0]; rfl)
end Go.Proofs.Ytdiadmlgeojefaa.A
namespace Go.Proofs.Ytdiadmlgeojefaa.A
open Go.RowKit Go.Proofs.YtdiadmlgeojefaaW.PrintWords Go.Proofs.YtdiadmlgeojefaaW.PrintLast Go.Proofs.YtdiadmlgeojefaaW.PrintMore
set_option linter.unusedVariables false
set_option linter.unusedSimpArgs false
end Go.Proofs.Ytdiadmlgeojefaa.A
namespace Go.Proofs.Ytdiadmlgeojefaa.A
open Go.RowKit Go.Proofs.YtdiadmlgeojefaaW.PrintWords Go.Proofs.YtdiadmlgeojefaaW.PrintLast Go.Proofs.YtdiadmlgeojefaaW.PrintMore
attribute [local go_sem] max2_int min2_int max_two min_two max_three min_three max_four min_four   -- for this text's walks alone
set_option linter.unusedVariables false
set_option linter.unusedSimpArgs false
def eval_truth.f (a0 : Bool) : Option (Int) := if a0 = true then (some 1) else (some 0)
set_option maxHeartbeats 8000000 in
set_option maxRecDepth 100000 in
theorem eval_truth.calls (a0 : Bool) (r : Int) (w : World) (h : eval_truth.f a0 = some r) :
    Calls Try.prog 108 #[.bool a0] w fun e w' => e = .returned (.int .i64 r) ∧ Drawn0 w w' := by
  have H : (if a0 = true then (some 1) else (some 0)) = some r := h
  clear h
  by_cases c2 : a0 = true
  · subst c2
    have H1 : (some 1) = some r := by rw [if_pos rfl] at H; exact H
    clear H
    have H := H1
    clear H1
    obtain rfl := Option.some.inj H
    go_enter Try.func108, Try.ntmps108
    go_wp2
    go_ret
    exact ⟨by first | rfl | (simp; done) | (simp [*]; done), by repeat (first | exact Drawn0.refl _ | apply Drawn0.step)⟩
  · replace c2 := Bool.eq_false_iff.mpr c2
    subst c2
    have H1 : (some 0) = some r := by rw [if_neg (show ¬ (false = true) by decide)] at H; exact H
    clear H
    have H := H1
    clear H1
    obtain rfl := Option.some.inj H
    go_enter Try.func108, Try.ntmps108
    go_wp2
    go_ret
    exact ⟨by first | rfl | (simp; done) | (simp [*]; done), by repeat (first | exact Drawn0.refl _ | apply Drawn0.step)⟩
end Go.Proofs.Ytdiadmlgeojefaa.A
namespace Go.Proofs.Ytdiadmlgeojefaa.A
open Go.RowKit Go.Proofs.YtdiadmlgeojefaaW.PrintWords Go.Proofs.YtdiadmlgeojefaaW.PrintLast Go.Proofs.YtdiadmlgeojefaaW.PrintMore
attribute [local go_sem] max2_int min2_int max_two min_two max_three min_three max_four min_four   -- for this text's walks alone
set_option linter.unusedVariables false
set_option linter.unusedSimpArgs false
def eval_asked.f (a0 : ByteArray) (a1 : Int) (a2 : Int) : Option (Int × Bool) := if a0.toList = ([61, 61] : List UInt8) then ((eval_truth.f (a1 == a2)).bind fun t539 => (some (t539, true))) else (if a0.toList = ([33, 61] : List UInt8) then ((eval_truth.f (a1 != a2)).bind fun t540 => (some (t540, true))) else (if a0.toList = ([60] : List UInt8) then ((eval_truth.f (decide (a1 < a2))).bind fun t541 => (some (t541, true))) else (if a0.toList = ([60, 61] : List UInt8) then ((eval_truth.f (decide (a1 ≤ a2))).bind fun t542 => (some (t542, true))) else (if a0.toList = ([62] : List UInt8) then ((eval_truth.f (decide (a1 > a2))).bind fun t543 => (some (t543, true))) else (if a0.toList = ([62, 61] : List UInt8) then ((eval_truth.f (decide (a1 ≥ a2))).bind fun t544 => (some (t544, true))) else (some (0, false)))))))
set_option maxHeartbeats 8000000 in
set_option maxRecDepth 100000 in
theorem eval_asked.calls (a0 : ByteArray) (a1 : Int) (a2 : Int) (r1 : Int) (r2 : Bool) (w : World) (h : eval_asked.f a0 a1 a2 = some (r1, r2)) :
    Calls Try.prog 125 #[.string a0, .int .i64 a1, .int .i64 a2] w fun e w' => e = .returned (.tuple #[.int .i64 r1, .bool r2]) ∧ Drawn0 w w' := by
  have H : (if a0.toList = ([61, 61] : List UInt8) then ((eval_truth.f (a1 == a2)).bind fun t539 => (some (t539, true))) else (if a0.toList = ([33, 61] : List UInt8) then ((eval_truth.f (a1 != a2)).bind fun t540 => (some (t540, true))) else (if a0.toList = ([60] : List UInt8) then ((eval_truth.f (decide (a1 < a2))).bind fun t541 => (some (t541, true))) else (if a0.toList = ([60, 61] : List UInt8) then ((eval_truth.f (decide (a1 ≤ a2))).bind fun t542 => (some (t542, true))) else (if a0.toList = ([62] : List UInt8) then ((eval_truth.f (decide (a1 > a2))).bind fun t543 => (some (t543, true))) else (if a0.toList = ([62, 61] : List UInt8) then ((eval_truth.f (decide (a1 ≥ a2))).bind fun t544 => (some (t544, true))) else (some (0, false)))))))) = some (r1, r2) := h
  clear h
  by_cases c4 : a0.toList = ([61, 61] : List UInt8)
  · rw [if_pos c4] at H
    have c4b0 : (a0.toList == ([61, 61] : List UInt8)) = true := beq_iff_eq.mpr c4
    have c4b1 : (a0.toList != ([61, 61] : List UInt8)) = false := bne_eq_false_iff_eq.mpr c4
    clear c4
    replace H := Option.bind_eq_some_iff.mp H
    obtain ⟨t539, A50, H⟩ := H
    replace H : (some (t539, true)) = some (r1, r2) := H
    have A5 := Aside0.mk A50
    clear A50
    simp only [Option.some.injEq, Prod.mk.injEq] at H
    obtain ⟨rfl, rfl⟩ := H
    go_enter Try.func125, Try.ntmps125
    go_wp2_with (first | ((with_reducible refine gate_callee (f := 108) rfl ?_); refine goesL_ (some 14) rfl rfl Try.func108 (by kernel_rfl) rfl #[.bool (a1 == a2)] rfl (by (try simp only [List.map_toArray, List.map_cons, List.map_nil]); first | done | rfl | (simp only [List.length_drop, List.length_take]; rfl)) ?_; (with_reducible refine (eval_truth.calls (a1 == a2) t539 _ A5.out).mono ?_); rintro e w' ⟨rfl, ⟨nd, rfl⟩⟩; refine ⟨_, rfl, ?_⟩))
    go_ret2
    exact ⟨by first | rfl | (simp; done) | (simp [*]; done), by repeat (first | exact Drawn0.refl _ | apply Drawn0.step)⟩
  · rw [if_neg c4] at H
    have c4b0 : (a0.toList == ([61, 61] : List UInt8)) = false := beq_eq_false_iff_ne.mpr c4
    have c4b1 : (a0.toList != ([61, 61] : List UInt8)) = true := bne_iff_ne.mpr c4
    by_cases c6 : a0.toList = ([33, 61] : List UInt8)
    · rw [if_pos c6] at H
      have c6b0 : (a0.toList == ([33, 61] : List UInt8)) = true := beq_iff_eq.mpr c6
      have c6b1 : (a0.toList != ([33, 61] : List UInt8)) = false := bne_eq_false_iff_eq.mpr c6
      clear c6
      replace H := Option.bind_eq_some_iff.mp H
      obtain ⟨t540, A70, H⟩ := H
      replace H : (some (t540, true)) = some (r1, r2) := H
      have A7 := Aside0.mk A70
      clear A70
      simp only [Option.some.injEq, Prod.mk.injEq] at H
      obtain ⟨rfl, rfl⟩ := H
      go_enter Try.func125, Try.ntmps125
      go_wp2_with (first | ((with_reducible refine gate_callee (f := 108) rfl ?_); refine goesL_ (some 20) rfl rfl Try.func108 (by kernel_rfl) rfl #[.bool (a1 != a2)] rfl (by (try simp only [List.map_toArray, List.map_cons, List.map_nil]); first | done | rfl | (simp only [List.length_drop, List.length_take]; rfl)) ?_; (with_reducible refine (eval_truth.calls (a1 != a2) t540 _ A7.out).mono ?_); rintro e w' ⟨rfl, ⟨nd, rfl⟩⟩; refine ⟨_, rfl, ?_⟩))
      go_ret2
      exact ⟨by first | rfl | (simp; done) | (simp [*]; done), by repeat (first | exact Drawn0.refl _ | apply Drawn0.step)⟩
    · rw [if_neg c6] at H
      have c6b0 : (a0.toList == ([33, 61] : List UInt8)) = false := beq_eq_false_iff_ne.mpr c6
      have c6b1 : (a0.toList != ([33, 61] : List UInt8)) = true := bne_iff_ne.mpr c6
      by_cases c8 : a0.toList = ([60] : List UInt8)
      · rw [if_pos c8] at H
        have c8b0 : (a0.toList == ([60] : List UInt8)) = true := beq_iff_eq.mpr c8
        have c8b1 : (a0.toList != ([60] : List UInt8)) = false := bne_eq_false_iff_eq.mpr c8
        clear c8
        replace H := Option.bind_eq_some_iff.mp H
        obtain ⟨t541, A90, H⟩ := H
        replace H : (some (t541, true)) = some (r1, r2) := H
        have A9 := Aside0.mk A90
        clear A90
        simp only [Option.some.injEq, Prod.mk.injEq] at H
        obtain ⟨rfl, rfl⟩ := H
        go_enter Try.func125, Try.ntmps125
        go_wp2_with (first | ((with_reducible refine gate_callee (f := 108) rfl ?_); refine goesL_ (some 26) rfl rfl Try.func108 (by kernel_rfl) rfl #[.bool (decide (a1 < a2))] rfl (by (try simp only [List.map_toArray, List.map_cons, List.map_nil]); first | done | rfl | (simp only [List.length_drop, List.length_take]; rfl)) ?_; (with_reducible refine (eval_truth.calls (decide (a1 < a2)) t541 _ A9.out).mono ?_); rintro e w' ⟨rfl, ⟨nd, rfl⟩⟩; refine ⟨_, rfl, ?_⟩))
        go_ret2
        exact ⟨by first | rfl | (simp; done) | (simp [*]; done), by repeat (first | exact Drawn0.refl _ | apply Drawn0.step)⟩
      · rw [if_neg c8] at H
        have c8b0 : (a0.toList == ([60] : List UInt8)) = false := beq_eq_false_iff_ne.mpr c8
        have c8b1 : (a0.toList != ([60] : List UInt8)) = true := bne_iff_ne.mpr c8
        by_cases c10 : a0.toList = ([60, 61] : List UInt8)
        · rw [if_pos c10] at H
          have c10b0 : (a0.toList == ([60, 61] : List UInt8)) = true := beq_iff_eq.mpr c10
          have c10b1 : (a0.toList != ([60, 61] : List UInt8)) = false := bne_eq_false_iff_eq.mpr c10
          clear c10
          replace H := Option.bind_eq_some_iff.mp H
          obtain ⟨t542, A110, H⟩ := H
          replace H : (some (t542, true)) = some (r1, r2) := H
          have A11 := Aside0.mk A110
          clear A110
          simp only [Option.some.injEq, Prod.mk.injEq] at H
          obtain ⟨rfl, rfl⟩ := H
          go_enter Try.func125, Try.ntmps125
          go_wp2_with (first | ((with_reducible refine gate_callee (f := 108) rfl ?_); refine goesL_ (some 32) rfl rfl Try.func108 (by kernel_rfl) rfl #[.bool (decide (a1 ≤ a2))] rfl (by (try simp only [List.map_toArray, List.map_cons, List.map_nil]); first | done | rfl | (simp only [List.length_drop, List.length_take]; rfl)) ?_; (with_reducible refine (eval_truth.calls (decide (a1 ≤ a2)) t542 _ A11.out).mono ?_); rintro e w' ⟨rfl, ⟨nd, rfl⟩⟩; refine ⟨_, rfl, ?_⟩))
          go_ret2
          exact ⟨by first | rfl | (simp; done) | (simp [*]; done), by repeat (first | exact Drawn0.refl _ | apply Drawn0.step)⟩
        · rw [if_neg c10] at H
          have c10b0 : (a0.toList == ([60, 61] : List UInt8)) = false := beq_eq_false_iff_ne.mpr c10
          have c10b1 : (a0.toList != ([60, 61] : List UInt8)) = true := bne_iff_ne.mpr c10
          by_cases c12 : a0.toList = ([62] : List UInt8)
          · rw [if_pos c12] at H
            have c12b0 : (a0.toList == ([62] : List UInt8)) = true := beq_iff_eq.mpr c12
            have c12b1 : (a0.toList != ([62] : List UInt8)) = false := bne_eq_false_iff_eq.mpr c12
            clear c12
            replace H := Option.bind_eq_some_iff.mp H
            obtain ⟨t543, A130, H⟩ := H
            replace H : (some (t543, true)) = some (r1, r2) := H
            have A13 := Aside0.mk A130
            clear A130
            simp only [Option.some.injEq, Prod.mk.injEq] at H
            obtain ⟨rfl, rfl⟩ := H
            go_enter Try.func125, Try.ntmps125
            go_wp2_with (first | ((with_reducible refine gate_callee (f := 108) rfl ?_); refine goesL_ (some 38) rfl rfl Try.func108 (by kernel_rfl) rfl #[.bool (decide (a1 > a2))] rfl (by (try simp only [List.map_toArray, List.map_cons, List.map_nil]); first | done | rfl | (simp only [List.length_drop, List.length_take]; rfl)) ?_; (with_reducible refine (eval_truth.calls (decide (a1 > a2)) t543 _ A13.out).mono ?_); rintro e w' ⟨rfl, ⟨nd, rfl⟩⟩; refine ⟨_, rfl, ?_⟩))
            go_ret2
            exact ⟨by first | rfl | (simp; done) | (simp [*]; done), by repeat (first | exact Drawn0.refl _ | apply Drawn0.step)⟩
          · rw [if_neg c12] at H
            have c12b0 : (a0.toList == ([62] : List UInt8)) = false := beq_eq_false_iff_ne.mpr c12
            have c12b1 : (a0.toList != ([62] : List UInt8)) = true := bne_iff_ne.mpr c12
            by_cases c14 : a0.toList = ([62, 61] : List UInt8)
            · rw [if_pos c14] at H
              have c14b0 : (a0.toList == ([62, 61] : List UInt8)) = true := beq_iff_eq.mpr c14
              have c14b1 : (a0.toList != ([62, 61] : List UInt8)) = false := bne_eq_false_iff_eq.mpr c14
              clear c14
              replace H := Option.bind_eq_some_iff.mp H
              obtain ⟨t544, A150, H⟩ := H
              replace H : (some (t544, true)) = some (r1, r2) := H
              have A15 := Aside0.mk A150
              clear A150
              simp only [Option.some.injEq, Prod.mk.injEq] at H
              obtain ⟨rfl, rfl⟩ := H
              go_enter Try.func125, Try.ntmps125
              go_wp2_with (first | ((with_reducible refine gate_callee (f := 108) rfl ?_); refine goesL_ (some 44) rfl rfl Try.func108 (by kernel_rfl) rfl #[.bool (decide (a1 ≥ a2))] rfl (by (try simp only [List.map_toArray, List.map_cons, List.map_nil]); first | done | rfl | (simp only [List.length_drop, List.length_take]; rfl)) ?_; (with_reducible refine (eval_truth.calls (decide (a1 ≥ a2)) t544 _ A15.out).mono ?_); rintro e w' ⟨rfl, ⟨nd, rfl⟩⟩; refine ⟨_, rfl, ?_⟩))
              go_ret2
              exact ⟨by first | rfl | (simp; done) | (simp [*]; done), by repeat (first | exact Drawn0.refl _ | apply Drawn0.step)⟩
            · rw [if_neg c14] at H
              have c14b0 : (a0.toList == ([62, 61] : List UInt8)) = false := beq_eq_false_iff_ne.mpr c14
              have c14b1 : (a0.toList != ([62, 61] : List UInt8)) = true := bne_iff_ne.mpr c14
              simp only [Option.some.injEq, Prod.mk.injEq] at H
              obtain ⟨rfl, rfl⟩ := H
              go_enter Try.func125, Try.ntmps125
              go_wp2
              go_ret2
              exact ⟨by first | rfl | (simp; done) | (simp [*]; done), by repeat (first | exact Drawn0.refl _ | apply Drawn0.step)⟩
end Go.Proofs.Ytdiadmlgeojefaa.A
namespace Go.Proofs.Ytdiadmlgeojefaa.A
open Go.RowKit Go.Proofs.YtdiadmlgeojefaaW.PrintWords Go.Proofs.YtdiadmlgeojefaaW.PrintLast Go.Proofs.YtdiadmlgeojefaaW.PrintMore
set_option linter.unusedVariables false
set_option linter.unusedSimpArgs false
structure Mst where
  on : ByteArray
  un : Int
  po : Int
  hd : List Int
  ow : Int
  fu : Int
  e : Int
def mcs (vv ov : Value) (m : Mst) : List Value := vv :: .string m.on :: .int .i64 m.un :: .int .i64 m.po :: (m.hd.map (Value.int .u64) ++ [.int .i64 m.ow, .int .i64 m.fu, ov, .int .i64 m.e])
abbrev Mst.fuel (m : Mst) (n : Int) : Mst := { m with fu := n }
abbrev Mst.err (m : Mst) (n : Int) : Mst := { m with e := n }
section
variable {vv ov : Value} {m : Mst}
theorem mcs_len (h : m.hd.length = 12) : (mcs vv ov m).length = 20 := by simp [mcs, h]
theorem mcs_tail (h : m.hd.length = 12) (k : Nat) : (mcs vv ov m)[16 + k]? = [Value.int .i64 m.ow, .int .i64 m.fu, ov, .int .i64 m.e][k]? := by
  unfold mcs
  rw [show 16 + k = (12 + k) + 1 + 1 + 1 + 1 by omega]
  simp only [List.getElem?_cons_succ]
  rw [List.getElem?_append_right (by simp [h])]
  simp [h]
theorem mcs_head (h : m.hd.length = 12) {k : Nat} (hk : k < 12) : (mcs vv ov m)[4 + k]? = some (.int .u64 (m.hd.getD k 0)) := by
  unfold mcs
  rw [show 4 + k = k + 1 + 1 + 1 + 1 by omega]
  simp only [List.getElem?_cons_succ]
  rw [List.getElem?_append_left (by simp [h]; exact hk)]
  simp [h, hk]
theorem mcs_fu (h : m.hd.length = 12) (n : Int) : (mcs vv ov m).set 17 (.int .i64 n) = mcs vv ov (m.fuel n) := by
  simp only [mcs, List.set_cons_succ, List.cons.injEq, true_and]
  rw [List.set_append_right _ _ (by simp [h])]
  simp [h]
theorem mcs_e (h : m.hd.length = 12) (n : Int) : (mcs vv ov m).set 19 (.int .i64 n) = mcs vv ov (m.err n) := by
  simp only [mcs, List.set_cons_succ, List.cons.injEq, true_and]
  rw [List.set_append_right _ _ (by simp [h])]
  simp [h]
end
structure MAt (ty : TypeId) (w0 W : World) (g : Nat) (vv ov : Value) (m : Mst) : Prop where
  blk : W.heap[g]? = some (.cells (mcs vv ov m).toArray ty (0, 0))
  h12 : m.hd.length = 12
  ge : w0.heap.size ≤ g
  bel : Below w0.heap.size w0 W
section
variable {ty : TypeId} {w0 w W W1 : World} {g : Nat} {vv ov : Value} {m : Mst}
theorem MAt.lt (h : MAt ty w0 W g vv ov m) : g < W.heap.size := blk_lt h.blk
theorem MAt.below (h : MAt ty w0 W g vv ov m) (hb : Below W.heap.size W W1) : MAt ty w0 W1 g vv ov m := ⟨below_blk hb h.blk, h.h12, h.ge, below_step h.bel hb⟩
theorem MAt.grown {b : Nat} (h : MAt ty w0 W g vv ov m) (hg : W.grownBy W1 (some b)) (h1 : b ≠ g) (h3 : w0.heap.size ≤ b) : MAt ty w0 W1 g vv ov m :=
  ⟨grown_blk hg h.blk (Ne.symm h1), h.h12, h.ge, pw_below_grown h.bel _ h.bel.size hg (by intro k hk; injection hk with hk; omega)⟩
theorem MAt.c0 (h : MAt ty w0 W g vv ov m) : W.cell? ⟨g, 0, none⟩ = some vv := (Mine.blk_cells h.blk 0).trans rfl
theorem MAt.c1 (h : MAt ty w0 W g vv ov m) : W.cell? ⟨g, 1, none⟩ = some (.string m.on) := (Mine.blk_cells h.blk 1).trans rfl
theorem MAt.c2 (h : MAt ty w0 W g vv ov m) : W.cell? ⟨g, 2, none⟩ = some (.int .i64 m.un) := (Mine.blk_cells h.blk 2).trans rfl
theorem MAt.c3 (h : MAt ty w0 W g vv ov m) : W.cell? ⟨g, 3, none⟩ = some (.int .i64 m.po) := (Mine.blk_cells h.blk 3).trans rfl
theorem MAt.c16 (h : MAt ty w0 W g vv ov m) : W.cell? ⟨g, 16, none⟩ = some (.int .i64 m.ow) := (Mine.blk_cells h.blk 16).trans (mcs_tail h.h12 0)
theorem MAt.c17 (h : MAt ty w0 W g vv ov m) : W.cell? ⟨g, 17, none⟩ = some (.int .i64 m.fu) := (Mine.blk_cells h.blk 17).trans (mcs_tail h.h12 1)
theorem MAt.c18 (h : MAt ty w0 W g vv ov m) : W.cell? ⟨g, 18, none⟩ = some ov := (Mine.blk_cells h.blk 18).trans (mcs_tail h.h12 2)
theorem MAt.c19 (h : MAt ty w0 W g vv ov m) : W.cell? ⟨g, 19, none⟩ = some (.int .i64 m.e) := (Mine.blk_cells h.blk 19).trans (mcs_tail h.h12 3)
theorem MAt.ch (h : MAt ty w0 W g vv ov m) {k : Nat} (hk : k < 12) : W.cell? ⟨g, 4 + k, none⟩ = some (.int .u64 (m.hd.getD k 0)) := (Mine.blk_cells h.blk (4 + k)).trans (mcs_head h.h12 hk)
section
variable {ops : Array Oper} {rest : List Oper} {o : Oper} {a : Act} {Q : Exit → Act → World → Prop}
theorem ev_mfu (hgd : o.guard = none) (hN : o.dst = none) (p x : Operand) (ho : o.op = .store 3 p x) (n : Int) (hp : a.eval p = .pointer (some ⟨g, 17, none⟩)) (hx : a.eval x = .int .i64 n)
    (hM : MAt ty w0 W g vv ov m) (h : ∀ w1, MAt ty w0 w1 g vv ov (m.fuel n) → W.grownBy w1 (some g) → wpList Try.prog ops Q rest a w1) : wpList Try.prog ops Q (o :: rest) a W :=
  Mine.ev_store hgd hN 3 p x ho (.int .i64 n) [.int .i64 n] hp hx rfl hM.blk (by simp [mcs_len hM.h12]) (by kernel_rfl) (by simp [Value.oneCell']) (fun w1 h2 h3 h4 => h w1 ⟨by rw [Mine.splice_one _ _ _ (by rw [mcs_len hM.h12]; decide), mcs_fu hM.h12] at h2; exact h2, hM.h12, hM.ge, pw_below_grown hM.bel _ hM.bel.size h3 (by intro k hk; injection hk with hk; have := hM.ge; omega)⟩ h3)
theorem ev_me (hgd : o.guard = none) (hN : o.dst = none) (p x : Operand) (ho : o.op = .store 30 p x) (n : Int) (hp : a.eval p = .pointer (some ⟨g, 19, none⟩)) (hx : a.eval x = .int .i64 n)
    (hM : MAt ty w0 W g vv ov m) (h : ∀ w1, MAt ty w0 w1 g vv ov (m.err n) → W.grownBy w1 (some g) → wpList Try.prog ops Q rest a w1) : wpList Try.prog ops Q (o :: rest) a W :=
  Mine.ev_store hgd hN 30 p x ho (.int .i64 n) [.int .i64 n] hp hx rfl hM.blk (by simp [mcs_len hM.h12]) (by kernel_rfl) (by simp [Value.oneCell']) (fun w1 h2 h3 h4 => h w1 ⟨by rw [Mine.splice_one _ _ _ (by rw [mcs_len hM.h12]; decide), mcs_e hM.h12] at h2; exact h2, hM.h12, hM.ge, pw_below_grown hM.bel _ hM.bel.size h3 (by intro k hk; injection hk with hk; have := hM.ge; omega)⟩ h3)
end
end
def MPost (ty : TypeId) (w0 w : World) (g : Nat) (vv ov : Value) (m : Mst) (r : Value) (x : Ending) (w' : World) : Prop :=
  x = .returned r ∧ MAt ty w0 w' g vv ov m ∧ KeepBut w w' g none
def burnF (m : Mst) : Bool × Mst :=
  let e := if m.e = 0 then (if m.fu ≤ 0 then 11 else m.e) else m.e
  (e == 0, (m.err e).fuel (wrap64 (m.fu - 1)))
def mfail (m : Mst) (x : Int) : Mst := if m.e = 0 then m.err x else m
abbrev V65 (W : World) (ok : Nat → Prop) (v : Value) (xs : List S65) : Prop := Kd.V k65 65 W 0 ok v xs
set_option maxHeartbeats 4000000 in
set_option maxRecDepth 100000 in
theorem mfail_calls {w0 w : World} {g : Nat} {vv ov : Value} {m : Mst} (hM : MAt 94 w0 w g vv ov m) (x : Int) : Calls Try.prog 92 #[.pointer (some ⟨g, 0, none⟩), .int .i64 x] w (MPost 94 w0 w g vv ov (mfail m x) (.tuple #[])) := by
  have HM := Aside0.mk hM
  have GL := Aside0.mk hM.lt
  have HK := Aside0.mk (KeepBut.refl w g none)
  clear hM
  unfold mfail
  by_cases c0 : m.e = 0
  · rw [if_pos c0]
    have c1 : (m.e == 0) = true := beq_iff_eq.2 c0
    clear c0
    go_enter Try.func92, Try.ntmps92
    go_wp2_with (first
      | ((with_reducible refine gate_dst (N := 7) rfl ?_); go_must ((refine ev_cell rfl (N := 7) rfl 30 (.tmp 6) rfl ⟨g, 19, none⟩ rfl _ _ HM.out.c19 Try.underlying30 rfl ?_)))
      | ((with_reducible refine gate_ (.store 30 (.tmp 12) (.tmp 10)) rfl ?_); go_must ((refine ev_me rfl rfl (.tmp 12) (.tmp 10) rfl (x) rfl rfl HM.out ?_; intro w1 hm hg; have n0 := Aside0.mk (hm); have n1 := Aside0.mk (keep_grown HK.out hg (.inr rfl)); clear HM HK; have HM := n0; have HK := n1; clear n0 n1; clear hm hg))))
    first | go_end0 | ((try simp only [Exit.inBlock, Exit.then]); refine bodyPost_ret (results_none rfl _ _ _) rfl ?_)
    exact ⟨rfl, HM.out, HK.out⟩
  · rw [if_neg c0]
    have c1 : (m.e == 0) = false := beq_eq_false_iff_ne.2 c0
    clear c0
    go_enter Try.func92, Try.ntmps92
    go_wp2_with (first
      | ((with_reducible refine gate_dst (N := 7) rfl ?_); go_must ((refine ev_cell rfl (N := 7) rfl 30 (.tmp 6) rfl ⟨g, 19, none⟩ rfl _ _ HM.out.c19 Try.underlying30 rfl ?_)))
      | ((with_reducible refine gate_ (.store 30 (.tmp 12) (.tmp 10)) rfl ?_); go_must ((refine ev_me rfl rfl (.tmp 12) (.tmp 10) rfl (x) rfl rfl HM.out ?_; intro w1 hm hg; have n0 := Aside0.mk (hm); have n1 := Aside0.mk (keep_grown HK.out hg (.inr rfl)); clear HM HK; have HM := n0; have HK := n1; clear n0 n1; clear hm hg))))
    first | go_end0 | ((try simp only [Exit.inBlock, Exit.then]); refine bodyPost_ret (results_none rfl _ _ _) rfl ?_)
    exact ⟨rfl, HM.out, HK.out⟩
set_option maxHeartbeats 4000000 in
set_option maxRecDepth 100000 in
theorem burn_calls {w0 w : World} {g : Nat} {vv ov : Value} {m : Mst} (hM : MAt 94 w0 w g vv ov m) : Calls Try.prog 68 #[.pointer (some ⟨g, 0, none⟩)] w (MPost 94 w0 w g vv ov (burnF m).2 (.bool (burnF m).1)) := by
  have HM := Aside0.mk hM
  have GL := Aside0.mk hM.lt
  have HK := Aside0.mk (KeepBut.refl w g none)
  clear hM
  unfold burnF
  by_cases c0 : m.e = 0
  · have c1 : (m.e == 0) = true := beq_iff_eq.2 c0
    by_cases c2 : m.fu ≤ 0
    · simp only [if_pos c0, if_pos c2]
      have c3 : decide (m.fu ≤ 0) = true := decide_eq_true c2
      clear c0
      have e17 := HM.out.c17
      have e19 := HM.out.c19
      go_enter Try.func68, Try.ntmps68
      go_wp2_with (first
        | ((with_reducible refine gate_dst (N := 6) rfl ?_); go_must ((refine ev_cell rfl (N := 6) rfl 30 (.tmp 5) rfl ⟨g, 19, none⟩ rfl _ _ HM.out.c19 Try.underlying30 rfl ?_)))
        | ((with_reducible refine gate_dst (N := 21) rfl ?_); go_must ((refine ev_cell rfl (N := 21) rfl 3 (.tmp 20) rfl ⟨g, 17, none⟩ rfl _ _ HM.out.c17 Try.underlying3 rfl ?_)))
        | ((with_reducible refine gate_dst (N := 28) rfl ?_); go_must ((refine ev_cell rfl (N := 28) rfl 30 (.tmp 27) rfl ⟨g, 19, none⟩ rfl _ _ HM.out.c19 Try.underlying30 rfl ?_)))
        | ((with_reducible refine gate_ (.store 3 (.tmp 24) (.tmp 22)) rfl ?_); go_must ((refine ev_mfu rfl rfl (.tmp 24) (.tmp 22) rfl (wrap64 (m.fu - 1)) rfl rfl HM.out ?_; intro w1 hm hg; have n0 := Aside0.mk (hm); have n1 := Aside0.mk (keep_grown HK.out hg (.inr rfl)); clear HM HK; have HM := n0; have HK := n1; clear n0 n1; clear hm hg)))
        | ((with_reducible refine gate_ (.store 30 (.tmp 17) (.const (.int .i64 11))) rfl ?_); go_must ((refine ev_me rfl rfl (.tmp 17) (.const (.int .i64 11)) rfl (11) rfl rfl HM.out ?_; intro w1 hm hg; have n0 := Aside0.mk (hm); have n1 := Aside0.mk (keep_grown HK.out hg (.inr rfl)); clear HM HK; have HM := n0; have HK := n1; clear n0 n1; clear hm hg))))
      go_ret
      exact ⟨rfl, HM.out, HK.out⟩
    · simp only [if_pos c0, if_neg c2]
      have c3 : decide (m.fu ≤ 0) = false := decide_eq_false c2
      clear c0
      rw [c1]
      have e17 := HM.out.c17
      have e19 := HM.out.c19
      go_enter Try.func68, Try.ntmps68
      go_wp2_with (first
        | ((with_reducible refine gate_dst (N := 6) rfl ?_); go_must ((refine ev_cell rfl (N := 6) rfl 30 (.tmp 5) rfl ⟨g, 19, none⟩ rfl _ _ HM.out.c19 Try.underlying30 rfl ?_)))
        | ((with_reducible refine gate_dst (N := 21) rfl ?_); go_must ((refine ev_cell rfl (N := 21) rfl 3 (.tmp 20) rfl ⟨g, 17, none⟩ rfl _ _ HM.out.c17 Try.underlying3 rfl ?_)))
        | ((with_reducible refine gate_dst (N := 28) rfl ?_); go_must ((refine ev_cell rfl (N := 28) rfl 30 (.tmp 27) rfl ⟨g, 19, none⟩ rfl _ _ HM.out.c19 Try.underlying30 rfl ?_)))
        | ((with_reducible refine gate_ (.store 3 (.tmp 24) (.tmp 22)) rfl ?_); go_must ((refine ev_mfu rfl rfl (.tmp 24) (.tmp 22) rfl (wrap64 (m.fu - 1)) rfl rfl HM.out ?_; intro w1 hm hg; have n0 := Aside0.mk (hm); have n1 := Aside0.mk (keep_grown HK.out hg (.inr rfl)); clear HM HK; have HM := n0; have HK := n1; clear n0 n1; clear hm hg))))
      go_ret
      exact ⟨rfl, HM.out, HK.out⟩
  · have c1 : (m.e == 0) = false := beq_eq_false_iff_ne.2 c0
    simp only [if_neg c0]
    clear c0
    rw [c1]
    have e17 := HM.out.c17
    have e19 := HM.out.c19
    go_enter Try.func68, Try.ntmps68
    go_wp2_with (first
      | ((with_reducible refine gate_dst (N := 6) rfl ?_); go_must ((refine ev_cell rfl (N := 6) rfl 30 (.tmp 5) rfl ⟨g, 19, none⟩ rfl _ _ HM.out.c19 Try.underlying30 rfl ?_)))
      | ((with_reducible refine gate_dst (N := 21) rfl ?_); go_must ((refine ev_cell rfl (N := 21) rfl 3 (.tmp 20) rfl ⟨g, 17, none⟩ rfl _ _ HM.out.c17 Try.underlying3 rfl ?_)))
      | ((with_reducible refine gate_dst (N := 28) rfl ?_); go_must ((refine ev_cell rfl (N := 28) rfl 30 (.tmp 27) rfl ⟨g, 19, none⟩ rfl _ _ HM.out.c19 Try.underlying30 rfl ?_)))
      | ((with_reducible refine gate_ (.store 3 (.tmp 24) (.tmp 22)) rfl ?_); go_must ((refine ev_mfu rfl rfl (.tmp 24) (.tmp 22) rfl (wrap64 (m.fu - 1)) rfl rfl HM.out ?_; intro w1 hm hg; have n0 := Aside0.mk (hm); have n1 := Aside0.mk (keep_grown HK.out hg (.inr rfl)); clear HM HK; have HM := n0; have HK := n1; clear n0 n1; clear hm hg))))
    go_ret
    exact ⟨rfl, HM.out, HK.out⟩
end Go.Proofs.Ytdiadmlgeojefaa.A
namespace Go.Proofs.Ytdiadmlgeojefaa.A
open Go.RowKit Go.Proofs.YtdiadmlgeojefaaW.PrintWords Go.Proofs.YtdiadmlgeojefaaW.PrintLast Go.Proofs.YtdiadmlgeojefaaW.PrintMore
set_option linter.unusedVariables false
set_option linter.unusedSimpArgs false
theorem info65s : (Try.prog.info? 65).map (·.size) = some 2 := by kernel_rfl
def atF (xs : List S65) (s : ByteArray) : Int := idxF (eqN s) xs 0
theorem idxF_lt {α : Type} (p : α → Bool) : ∀ (xs : List α) (k : Int), 0 ≤ k → idxF p xs k = -1 ∨ (k ≤ idxF p xs k ∧ idxF p xs k < k + xs.length)
  | [], k, h => .inl rfl
  | x :: r, k, h => by
    unfold idxF
    split
    · right
      simp only [List.length_cons]
      omega
    · have := idxF_lt p r (k + 1) (by omega)
      simp only [List.length_cons]
      omega
theorem atF_lt (xs : List S65) (s : ByteArray) (h : 0 ≤ atF xs s) : (atF xs s).toNat < xs.length := by
  have := idxF_lt (eqN s) xs 0 (by omega)
  unfold atF at *
  omega
def AtPost (w : World) (n : Int) (e : Ending) (w' : World) : Prop := e = .returned (.int .i64 n) ∧ Below w.heap.size w w'
theorem at_idx {W : World} {A : Option Addr} {c n : Nat} {xs : List S65} {s : ByteArray} {b : Nat} (hn : n = xs.length) (hC : Kd.C k65 W A xs.length xs) (hl : xs.length ≤ 9223372036854775806) (hb : W.heap[b]? = some (.cells [Value.string s].toArray 9 (0, 0))) :
    Calls Try.prog 119 #[.slice A n c, .func (.func 120) #[] #[.pointer (some ⟨b, 0, none⟩)]] W (IdxPost (eqN s) xs W) := by
  subst hn
  exact idxf119 (d := k65) info65s (eqN s) 120 Try.func120 (by kernel_rfl) rfl #[.pointer (some ⟨b, 0, none⟩)] A c xs W hC hl (fun x _ W1 hW cs hK => at1_calls s x cs b W1 hK (below_blk hW hb))
set_option maxHeartbeats 4000000 in
set_option maxRecDepth 100000 in
theorem at_calls {w0 w : World} {g : Nat} {vv ov : Value} {m : Mst} {ok : Nat → Prop} {xs : List S65} (hM : MAt 94 w0 w g vv ov m) (hV : V65 w ok vv xs) (hl : xs.length ≤ 9223372036854775806) (s : ByteArray) : Calls Try.prog 105 #[.pointer (some ⟨g, 0, none⟩), .string s] w (AtPost w (atF xs s)) := by
  obtain ⟨A, c, e0⟩ := Kd.V_slice hV
  subst e0
  have HB := Aside0.mk (Below.refl w.heap.size w)
  have VC := Aside0.mk (Kd.V_reads' hV).2.2
  have HLX := Aside0.mk hl
  have HM := Aside0.mk hM
  obtain ⟨n, en⟩ : ∃ n_, n_ = xs.length := ⟨_, rfl⟩
  have EN := Aside0.mk en
  rw [← en] at HM
  unfold atF
  obtain ⟨k, ek⟩ : ∃ n_, n_ = idxF (eqN s) xs 0 := ⟨_, rfl⟩
  rw [← ek]
  have EK := Aside0.mk ek
  clear hM hV hl en ek
  have hmf : ∀ (fn : Fn) (first cap : Array Value) (w : World), (Instr.makeFunc fn first cap).run Try.prog w = .ok (.func fn first cap) w := fun _ _ _ _ => rfl
  go_enter Try.func105, Try.ntmps105
  go_wp2_with (first
    | ((with_reducible refine gate_dst (N := 3) rfl ?_); go_must ((refine ev_box1 rfl (N := 3) rfl (.tmp 1) rfl (.string s) rfl rfl ?_; intro bn hbn w1 hblk hbel; have GPbn := Aside0.mk (show w.heap.size ≤ bn by have := HB.out.size; omega); have n0 := Aside0.mk (below_step HB.out hbel); have n1 := Aside0.mk (Kd.C_below VC.out hbel); have n2 := Aside0.mk (HM.out.below hbel); clear HB VC HM; have HB := n0; have VC := n1; have HM := n2; clear n0 n1 n2; have BXbn := Aside0.mk hblk; clear hblk hbel hbn)))
    | ((with_reducible refine gate_dst (N := 8) rfl ?_); go_must ((refine ev_cell rfl (N := 8) rfl 45 (.tmp 7) rfl ⟨g, 0, none⟩ rfl _ _ HM.out.c0 Try.underlying45 rfl ?_)))
    | ((with_reducible refine gate_dst (N := 10) rfl ?_); go_must ((refine goesL_ (some 10) rfl rfl Try.func119 (by kernel_rfl) rfl #[.slice A n c, .func (.func 120) #[] #[.pointer (some ⟨bn, 0, none⟩)]] rfl (by (try simp only [List.map_toArray, List.map_cons, List.map_nil]); first | done | rfl) ?_; refine (at_idx (A := A) (c := c) EN.out VC.out HLX.out BXbn.out).mono ?_; rintro e w1 ⟨rfl, hbel⟩; refine ⟨_, rfl, ?_⟩; rw [← EK.out]; have n0 := Aside0.mk (below_step HB.out hbel); have n1 := Aside0.mk (below_blk hbel BXbn.out); have n2 := Aside0.mk (Kd.C_below VC.out hbel); have n3 := Aside0.mk (HM.out.below hbel); clear HB BXbn VC HM; have HB := n0; have BXbn := n1; have VC := n2; have HM := n3; clear n0 n1 n2 n3; clear hbel; go_frame))))
  go_ret
  exact ⟨rfl, HB.out⟩
def nameF (xs : List S65) (m : Mst) (s : ByteArray) : Int :=
  if decide (0 ≤ atF xs s) = true then (xs.getD (atF xs s).toNat z65).f1
  else if (s.toList == [117, 110, 105, 116]) = true then m.un
  else if (s.toList == [112, 111, 114, 116]) = true then m.po
  else wrap64 (m.hd.getD (fieldF s).1.toNat 0)
theorem fieldF_rng (s : ByteArray) : 0 ≤ (fieldF s).1 ∧ (fieldF s).1 < 12 := by
  have := idxF_lt (eqN s) fldL 0 (by omega)
  have hl : fldL.length = 12 := rfl
  unfold fieldF
  simp only
  omega
theorem V65_elem {W : World} {ok : Nat → Prop} {A : Option Addr} {c : Nat} {xs : List S65} (h : V65 W ok (.slice A xs.length c) xs) {k : Nat} (hk : k < xs.length) :
    ∃ ad ap, A = some ad ∧ ad.add (k * 2) = ap ∧ W.cell? ap = some (.string (xs.getD k z65).f0) ∧ W.cell? ⟨ap.block, ap.off + 1, none⟩ = some (.int .i64 (xs.getD k z65).f1) := by
  obtain ⟨ad, cs, e, hl, hK, hc⟩ := C_elem (Kd.V_reads' h).2.2 hk
  obtain rfl := k65_open hK
  have e1 : xs.getD k z65 = xs[k] := by simp [hk]
  rw [e1]
  refine ⟨ad, _, e, rfl, ?_, ?_⟩
  · have := hc 0 _ rfl
    rwa [addr_zero] at this
  · have := hc 1 _ rfl
    have e2 : (ad.add (k * 2)).add 1 = ⟨(ad.add (k * 2)).block, (ad.add (k * 2)).off + 1, none⟩ := by
      have := add_field (ad.add (k * 2)) 0 1 (by omega)
      simpa [addr_zero] using this
    exact e2 ▸ this
end Go.Proofs.Ytdiadmlgeojefaa.A
namespace Go.Proofs.Ytdiadmlgeojefaa.A
open Go.RowKit Go.Proofs.YtdiadmlgeojefaaW.PrintWords Go.Proofs.YtdiadmlgeojefaaW.PrintLast Go.Proofs.YtdiadmlgeojefaaW.PrintMore
set_option linter.unusedVariables false
set_option linter.unusedSimpArgs false
def NamePost (w : World) (n : Int) (e : Ending) (w' : World) : Prop := e = .returned (.int .i64 n) ∧ Below w.heap.size w w'
theorem at_n {w0 w : World} {g l : Nat} {A : Option Addr} {c : Nat} {ov : Value} {m : Mst} {ok : Nat → Prop} {xs : List S65} (hn : l = xs.length) (hM : MAt 94 w0 w g (.slice A l c) ov m) (hV : V65 w ok (.slice A xs.length c) xs) (hl : xs.length ≤ 9223372036854775806) (s : ByteArray) : Calls Try.prog 105 #[.pointer (some ⟨g, 0, none⟩), .string s] w (AtPost w (atF xs s)) := by
  subst hn
  exact at_calls hM hV hl s
set_option maxHeartbeats 4000000 in
set_option maxRecDepth 100000 in
theorem name_calls {w0 w : World} {g : Nat} {vv ov : Value} {m : Mst} {ok : Nat → Prop} {xs : List S65} (hM : MAt 94 w0 w g vv ov m) (hV : V65 w ok vv xs) (hl : xs.length ≤ 9223372036854775806) (s : ByteArray) : Calls Try.prog 106 #[.pointer (some ⟨g, 0, none⟩), .string s] w (NamePost w (nameF xs m s)) := by
  obtain ⟨A, c, e0⟩ := Kd.V_slice hV
  subst e0
  have HB := Aside0.mk (Below.refl w.heap.size w)
  have VA := Aside0.mk hV
  have HLX := Aside0.mk hl
  have HM := Aside0.mk hM
  unfold nameF
  obtain ⟨n, en⟩ : ∃ n_, n_ = atF xs s := ⟨_, rfl⟩
  rw [← en]
  have EN := Aside0.mk en
  obtain ⟨l, el⟩ : ∃ n_, n_ = xs.length := ⟨_, rfl⟩
  have EL := Aside0.mk el
  rw [← el] at HM
  rcases Bool.eq_false_or_eq_true (decide (0 ≤ n)) with c0 | c0
  · rw [if_pos c0]
    have h0 : 0 ≤ n := of_decide_eq_true c0
    have hlt := atF_lt xs s (by rw [← en]; exact h0)
    rw [← en] at hlt
    obtain ⟨k, ek⟩ : ∃ k : Nat, n = (k : Int) := ⟨n.toNat, by omega⟩
    subst ek
    simp only [Int.toNat_natCast] at hlt ⊢
    obtain ⟨x, ex⟩ : ∃ x_, x_ = xs.getD k z65 := ⟨_, rfl⟩
    rw [← ex]
    have HX := Aside0.mk (show x = xs.getD k z65 from ex)
    have HLT := Aside0.mk (show k < l by rw [el]; exact hlt)
    have HLX2 := Aside0.mk hlt
    clear hM hV hl en el ex hlt h0
    go_enter Try.func106, Try.ntmps106
    go_wp2_with (first
      | ((with_reducible refine gate_dst (N := 10) rfl ?_); go_must ((refine goesL_ (some 10) rfl rfl Try.func105 (by kernel_rfl) rfl #[.pointer (some ⟨g, 0, none⟩), .string s] rfl (by (try simp only [List.map_toArray, List.map_cons, List.map_nil]); first | done | rfl) ?_; refine (at_n EL.out HM.out VA.out HLX.out s).mono ?_; rintro e w1 ⟨rfl, hbel⟩; refine ⟨_, rfl, ?_⟩; rw [← EN.out]; have n0 := Aside0.mk (below_step HB.out hbel); have n1 := Aside0.mk (Kd.V_below VA.out hbel); have n2 := Aside0.mk (HM.out.below hbel); clear HB VA HM; have HB := n0; have VA := n1; have HM := n2; clear n0 n1 n2; clear hbel; go_frame)))
      | ((with_reducible refine gate_dst (N := 16) rfl ?_); go_must ((refine ev_cell rfl (N := 16) rfl 45 (.tmp 15) rfl ⟨g, 0, none⟩ rfl _ _ HM.out.c0 Try.underlying45 rfl ?_; obtain ⟨ad, ap, eA, eP, hc0, hc1⟩ := V65_elem VA.out HLX2.out; rw [← HX.out] at hc0 hc1; have EA := Aside0.mk eA; have EP := Aside0.mk eP; have HC1 := Aside0.mk hc1; clear eA eP hc0 hc1)))
      | ((with_reducible refine gate_dst (N := 18) rfl ?_); go_must ((refine ev_index rfl (N := 18) rfl 45 65 (.tmp 16) (.tmp 17) rfl (ad := ad) (n := l) (c := c) (k := k) (sz := 2) (congrArg (fun A => Value.slice A l c) EA.out) rfl HLT.out EP.out Try.underlying45 info65s ?_)))
      | ((with_reducible refine gate_dst (N := 20) rfl ?_); go_must ((refine ev_cell rfl (N := 20) rfl 3 (.tmp 19) rfl ⟨ap.block, ap.off + 1, none⟩ rfl _ _ HC1.out Try.underlying3 rfl ?_))))
    go_ret
    exact ⟨rfl, HB.out⟩
  · rw [if_neg (by rw [c0]; decide)]
    rcases Bool.eq_false_or_eq_true (s.toList == [117, 110, 105, 116]) with c1 | c1
    · rw [if_pos c1]
      clear hM hV hl en el
      go_enter Try.func106, Try.ntmps106
      go_wp2_with (first
        | ((with_reducible refine gate_dst (N := 10) rfl ?_); go_must ((refine goesL_ (some 10) rfl rfl Try.func105 (by kernel_rfl) rfl #[.pointer (some ⟨g, 0, none⟩), .string s] rfl (by (try simp only [List.map_toArray, List.map_cons, List.map_nil]); first | done | rfl) ?_; refine (at_n EL.out HM.out VA.out HLX.out s).mono ?_; rintro e w1 ⟨rfl, hbel⟩; refine ⟨_, rfl, ?_⟩; rw [← EN.out]; have n0 := Aside0.mk (below_step HB.out hbel); have n1 := Aside0.mk (Kd.V_below VA.out hbel); have n2 := Aside0.mk (HM.out.below hbel); clear HB VA HM; have HB := n0; have VA := n1; have HM := n2; clear n0 n1 n2; clear hbel; go_frame)))
        | ((with_reducible refine gate_dst (N := 28) rfl ?_); go_must ((refine ev_cell rfl (N := 28) rfl 3 (.tmp 27) rfl ⟨g, 2, none⟩ rfl _ _ HM.out.c2 Try.underlying3 rfl ?_))))
      go_ret
      exact ⟨rfl, HB.out⟩
    · rw [if_neg (by rw [c1]; decide)]
      rcases Bool.eq_false_or_eq_true (s.toList == [112, 111, 114, 116]) with c2 | c2
      · rw [if_pos c2]
        clear hM hV hl en el
        go_enter Try.func106, Try.ntmps106
        go_wp2_with (first
          | ((with_reducible refine gate_dst (N := 10) rfl ?_); go_must ((refine goesL_ (some 10) rfl rfl Try.func105 (by kernel_rfl) rfl #[.pointer (some ⟨g, 0, none⟩), .string s] rfl (by (try simp only [List.map_toArray, List.map_cons, List.map_nil]); first | done | rfl) ?_; refine (at_n EL.out HM.out VA.out HLX.out s).mono ?_; rintro e w1 ⟨rfl, hbel⟩; refine ⟨_, rfl, ?_⟩; rw [← EN.out]; have n0 := Aside0.mk (below_step HB.out hbel); have n1 := Aside0.mk (Kd.V_below VA.out hbel); have n2 := Aside0.mk (HM.out.below hbel); clear HB VA HM; have HB := n0; have VA := n1; have HM := n2; clear n0 n1 n2; clear hbel; go_frame)))
          | ((with_reducible refine gate_dst (N := 35) rfl ?_); go_must ((refine ev_cell rfl (N := 35) rfl 3 (.tmp 34) rfl ⟨g, 3, none⟩ rfl _ _ HM.out.c3 Try.underlying3 rfl ?_))))
        go_ret
        exact ⟨rfl, HB.out⟩
      · rw [if_neg (by rw [c2]; decide)]
        have hr := fieldF_rng s
        obtain ⟨k, ek⟩ : ∃ k : Nat, (fieldF s).1 = (k : Int) := ⟨(fieldF s).1.toNat, by omega⟩
        rw [ek] at hr ⊢
        simp only [Int.toNat_natCast]
        have hk : k < 12 := by omega
        have FC := Aside0.mk (show ∀ w, Calls Try.prog 29 #[.string s] w fun e w' => e = .returned (.tuple #[.int .i64 (k : Int), .bool (fieldF s).2]) ∧ Below w.heap.size w w' by rw [← ek]; exact fun w => field_calls s w)
        obtain ⟨hx, ehx⟩ : ∃ n_, n_ = m.hd.getD k 0 := ⟨_, rfl⟩
        rw [← ehx]
        have EHX := Aside0.mk ehx
        clear hM hV hl en el hr ek ehx
        go_enter Try.func106, Try.ntmps106
        go_wp2_with (first
          | ((with_reducible refine gate_dst (N := 10) rfl ?_); go_must ((refine goesL_ (some 10) rfl rfl Try.func105 (by kernel_rfl) rfl #[.pointer (some ⟨g, 0, none⟩), .string s] rfl (by (try simp only [List.map_toArray, List.map_cons, List.map_nil]); first | done | rfl) ?_; refine (at_n EL.out HM.out VA.out HLX.out s).mono ?_; rintro e w1 ⟨rfl, hbel⟩; refine ⟨_, rfl, ?_⟩; rw [← EN.out]; have n0 := Aside0.mk (below_step HB.out hbel); have n1 := Aside0.mk (Kd.V_below VA.out hbel); have n2 := Aside0.mk (HM.out.below hbel); clear HB VA HM; have HB := n0; have VA := n1; have HM := n2; clear n0 n1 n2; clear hbel; go_frame)))
          | ((with_reducible refine gate_dst (N := 38) rfl ?_); go_must ((refine goesL_ (some 38) rfl rfl Try.func29 (by kernel_rfl) rfl #[.string s] rfl (by (try simp only [List.map_toArray, List.map_cons, List.map_nil]); first | done | rfl) ?_; refine (FC.out _).mono ?_; rintro e w1 ⟨rfl, hbel⟩; refine ⟨_, rfl, ?_⟩; have n0 := Aside0.mk (below_step HB.out hbel); have n1 := Aside0.mk (Kd.V_below VA.out hbel); have n2 := Aside0.mk (HM.out.below hbel); clear HB VA HM; have HB := n0; have VA := n1; have HM := n2; clear n0 n1 n2; clear hbel)))
          | ((with_reducible refine gate_dst (N := 47) rfl ?_); go_must ((refine ev_cell rfl (N := 47) rfl 38 (.tmp 46) rfl ⟨g, 4 + k, none⟩ rfl (.int .u64 hx) _ (by rw [EHX.out]; exact HM.out.ch hk) Try.underlying38 rfl ?_))))
        go_ret
        exact ⟨rfl, HB.out⟩
end Go.Proofs.Ytdiadmlgeojefaa.A
namespace Go.Proofs.Ytdiadmlgeojefaa.A
open Go.RowKit Go.Proofs.YtdiadmlgeojefaaW.PrintWords Go.Proofs.YtdiadmlgeojefaaW.PrintLast Go.Proofs.YtdiadmlgeojefaaW.PrintMore
set_option linter.unusedVariables false
set_option linter.unusedSimpArgs false
def sumF (m : Mst) (s : ByteArray) (a b : Int) : Option (Int × Mst) := (eval_asked.f s a b).bind fun r =>
  if r.2 = true then some (r.1, m)
  else if (s.toList == [43]) = true then some (wrap64 (a + b), m)
  else if (s.toList == [45]) = true then some (wrap64 (a - b), m)
  else if (s.toList == [42]) = true then some (wrap64 (a * b), m)
  else if (b == 0) = true then some (0, mfail m 12)
  else if (s.toList == [47]) = true then some (wrap64 (a.tdiv b), m)
  else some (a.tmod b, m)
set_option maxHeartbeats 4000000 in
set_option maxRecDepth 100000 in
theorem sum_calls {w0 w : World} {g : Nat} {vv ov : Value} {m m' : Mst} {s : ByteArray} {a b r : Int} (hM : MAt 94 w0 w g vv ov m) (h : sumF m s a b = some (r, m')) : Calls Try.prog 121 #[.pointer (some ⟨g, 0, none⟩), .string s, .int .i64 a, .int .i64 b] w (MPost 94 w0 w g vv ov m' (.int .i64 r)) := by
  have HM := Aside0.mk hM
  have GL := Aside0.mk hM.lt
  have HK := Aside0.mk (KeepBut.refl w g none)
  clear hM
  obtain ⟨⟨r1, r2⟩, h1, h⟩ := Option.bind_eq_some_iff.1 h
  have H1 := Aside0.mk h1
  clear h1
  simp only at h
  cases r2
  · rw [if_neg (by decide)] at h
    rcases Bool.eq_false_or_eq_true (s.toList == [43]) with c1 | c1
    · rw [if_pos c1] at h
      simp only [Option.some.injEq, Prod.mk.injEq] at h
      obtain ⟨rfl, rfl⟩ := h
      go_enter Try.func121, Try.ntmps121
      go_wp2_with (first
        | ((with_reducible refine gate_dst (N := 15) rfl ?_); go_must ((refine goesL_ (some 15) rfl rfl Try.func125 (by kernel_rfl) rfl #[.string s, .int .i64 a, .int .i64 b] rfl (by (try simp only [List.map_toArray, List.map_cons, List.map_nil]); first | done | rfl) ?_; refine (eval_asked.calls _ _ _ _ _ _ H1.out).mono ?_; rintro e w1 ⟨rfl, hd9⟩; refine ⟨_, rfl, ?_⟩; have hbel := hd9.below; clear hd9; have n0 := Aside0.mk (HM.out.below hbel); have n1 := Aside0.mk (keep_below HK.out hbel); clear HM HK; have HM := n0; have HK := n1; clear n0 n1; clear hbel))))
      go_ret
      exact ⟨rfl, HM.out, HK.out⟩
    · rw [if_neg (by rw [c1]; decide)] at h
      rcases Bool.eq_false_or_eq_true (s.toList == [45]) with c2 | c2
      · rw [if_pos c2] at h
        simp only [Option.some.injEq, Prod.mk.injEq] at h
        obtain ⟨rfl, rfl⟩ := h
        go_enter Try.func121, Try.ntmps121
        go_wp2_with (first
          | ((with_reducible refine gate_dst (N := 15) rfl ?_); go_must ((refine goesL_ (some 15) rfl rfl Try.func125 (by kernel_rfl) rfl #[.string s, .int .i64 a, .int .i64 b] rfl (by (try simp only [List.map_toArray, List.map_cons, List.map_nil]); first | done | rfl) ?_; refine (eval_asked.calls _ _ _ _ _ _ H1.out).mono ?_; rintro e w1 ⟨rfl, hd9⟩; refine ⟨_, rfl, ?_⟩; have hbel := hd9.below; clear hd9; have n0 := Aside0.mk (HM.out.below hbel); have n1 := Aside0.mk (keep_below HK.out hbel); clear HM HK; have HM := n0; have HK := n1; clear n0 n1; clear hbel))))
        go_ret
        exact ⟨rfl, HM.out, HK.out⟩
      · rw [if_neg (by rw [c2]; decide)] at h
        rcases Bool.eq_false_or_eq_true (s.toList == [42]) with c3 | c3
        · rw [if_pos c3] at h
          simp only [Option.some.injEq, Prod.mk.injEq] at h
          obtain ⟨rfl, rfl⟩ := h
          go_enter Try.func121, Try.ntmps121
          go_wp2_with (first
            | ((with_reducible refine gate_dst (N := 15) rfl ?_); go_must ((refine goesL_ (some 15) rfl rfl Try.func125 (by kernel_rfl) rfl #[.string s, .int .i64 a, .int .i64 b] rfl (by (try simp only [List.map_toArray, List.map_cons, List.map_nil]); first | done | rfl) ?_; refine (eval_asked.calls _ _ _ _ _ _ H1.out).mono ?_; rintro e w1 ⟨rfl, hd9⟩; refine ⟨_, rfl, ?_⟩; have hbel := hd9.below; clear hd9; have n0 := Aside0.mk (HM.out.below hbel); have n1 := Aside0.mk (keep_below HK.out hbel); clear HM HK; have HM := n0; have HK := n1; clear n0 n1; clear hbel))))
          go_ret
          exact ⟨rfl, HM.out, HK.out⟩
        · rw [if_neg (by rw [c3]; decide)] at h
          rcases Bool.eq_false_or_eq_true (b == 0) with c4 | c4
          · rw [if_pos c4] at h
            simp only [Option.some.injEq, Prod.mk.injEq] at h
            obtain ⟨rfl, rfl⟩ := h
            go_enter Try.func121, Try.ntmps121
            go_wp2_with (first
              | ((with_reducible refine gate_dst (N := 15) rfl ?_); go_must ((refine goesL_ (some 15) rfl rfl Try.func125 (by kernel_rfl) rfl #[.string s, .int .i64 a, .int .i64 b] rfl (by (try simp only [List.map_toArray, List.map_cons, List.map_nil]); first | done | rfl) ?_; refine (eval_asked.calls _ _ _ _ _ _ H1.out).mono ?_; rintro e w1 ⟨rfl, hd9⟩; refine ⟨_, rfl, ?_⟩; have hbel := hd9.below; clear hd9; have n0 := Aside0.mk (HM.out.below hbel); have n1 := Aside0.mk (keep_below HK.out hbel); clear HM HK; have HM := n0; have HK := n1; clear n0 n1; clear hbel)))
              | ((with_reducible refine gate_dst (N := 39) rfl ?_); go_must ((refine goesL_ (some 39) rfl rfl Try.func92 (by kernel_rfl) rfl #[.pointer (some ⟨g, 0, none⟩), .int .i64 12] rfl (by (try simp only [List.map_toArray, List.map_cons, List.map_nil]); first | done | rfl) ?_; refine (mfail_calls HM.out 12).mono ?_; rintro e w1 ⟨rfl, he, hk⟩; refine ⟨_, rfl, ?_⟩; have n0 := Aside0.mk (he); have n1 := Aside0.mk (keep_keep HK.out hk); clear HM HK; have HM := n0; have HK := n1; clear n0 n1; clear he hk))))
            go_ret
            exact ⟨rfl, HM.out, HK.out⟩
          · rw [if_neg (by rw [c4]; decide)] at h
            have hb : ¬ b = 0 := by simpa using c4
            have hb2 : b ≠ 0 := hb
            rcases Bool.eq_false_or_eq_true (s.toList == [47]) with c5 | c5
            · rw [if_pos c5] at h
              simp only [Option.some.injEq, Prod.mk.injEq] at h
              obtain ⟨rfl, rfl⟩ := h
              go_enter Try.func121, Try.ntmps121
              go_wp2_with (first
                | ((with_reducible refine gate_dst (N := 15) rfl ?_); go_must ((refine goesL_ (some 15) rfl rfl Try.func125 (by kernel_rfl) rfl #[.string s, .int .i64 a, .int .i64 b] rfl (by (try simp only [List.map_toArray, List.map_cons, List.map_nil]); first | done | rfl) ?_; refine (eval_asked.calls _ _ _ _ _ _ H1.out).mono ?_; rintro e w1 ⟨rfl, hd9⟩; refine ⟨_, rfl, ?_⟩; have hbel := hd9.below; clear hd9; have n0 := Aside0.mk (HM.out.below hbel); have n1 := Aside0.mk (keep_below HK.out hbel); clear HM HK; have HM := n0; have HK := n1; clear n0 n1; clear hbel))))
              go_ret
              exact ⟨rfl, HM.out, HK.out⟩
            · rw [if_neg (by rw [c5]; decide)] at h
              simp only [Option.some.injEq, Prod.mk.injEq] at h
              obtain ⟨rfl, rfl⟩ := h
              go_enter Try.func121, Try.ntmps121
              go_wp2_with (first
                | ((with_reducible refine gate_dst (N := 15) rfl ?_); go_must ((refine goesL_ (some 15) rfl rfl Try.func125 (by kernel_rfl) rfl #[.string s, .int .i64 a, .int .i64 b] rfl (by (try simp only [List.map_toArray, List.map_cons, List.map_nil]); first | done | rfl) ?_; refine (eval_asked.calls _ _ _ _ _ _ H1.out).mono ?_; rintro e w1 ⟨rfl, hd9⟩; refine ⟨_, rfl, ?_⟩; have hbel := hd9.below; clear hd9; have n0 := Aside0.mk (HM.out.below hbel); have n1 := Aside0.mk (keep_below HK.out hbel); clear HM HK; have HM := n0; have HK := n1; clear n0 n1; clear hbel))))
              go_ret
              exact ⟨rfl, HM.out, HK.out⟩
  · rw [if_pos rfl] at h
    simp only [Option.some.injEq, Prod.mk.injEq] at h
    obtain ⟨rfl, rfl⟩ := h
    go_enter Try.func121, Try.ntmps121
    go_wp2_with (first
      | ((with_reducible refine gate_dst (N := 15) rfl ?_); go_must ((refine goesL_ (some 15) rfl rfl Try.func125 (by kernel_rfl) rfl #[.string s, .int .i64 a, .int .i64 b] rfl (by (try simp only [List.map_toArray, List.map_cons, List.map_nil]); first | done | rfl) ?_; refine (eval_asked.calls _ _ _ _ _ _ H1.out).mono ?_; rintro e w1 ⟨rfl, hd9⟩; refine ⟨_, rfl, ?_⟩; have hbel := hd9.below; clear hd9; have n0 := Aside0.mk (HM.out.below hbel); have n1 := Aside0.mk (keep_below HK.out hbel); clear HM HK; have HM := n0; have HK := n1; clear n0 n1; clear hbel))))
    go_ret
    exact ⟨rfl, HM.out, HK.out⟩
end Go.Proofs.Ytdiadmlgeojefaa.A
namespace Go.Proofs.Ytdiadmlgeojefaa.A
open Go.RowKit Go.Proofs.YtdiadmlgeojefaaW.PrintWords Go.Proofs.YtdiadmlgeojefaaW.PrintLast Go.Proofs.YtdiadmlgeojefaaW.PrintMore
set_option linter.unusedVariables false
set_option linter.unusedSimpArgs false
def strK (s : ByteArray) : Lit := .string s.data.toList
def cntL : List ByteArray → ByteArray → Nat
  | [], _ => 0
  | x :: r, s => if x.toList = s.toList then cntL r s + 1 else cntL r s
def dlen : List ByteArray → Nat
  | [] => 0
  | x :: r => if cntL r x = 0 then dlen r + 1 else dlen r
def Mp (W : World) (bm : Nat) (ks : List ByteArray) : Prop :=
  ∃ D : DataW Unit, W.ownsMap Try.prog 9 (plainElem Try.prog 3) bm ks.length D ∧ Maps.Tidy D ∧ (∀ s : ByteArray, D.atKey (strK s) (.lit (.int .i64 0)) = .lit (.int .i64 (cntL ks s))) ∧ (∀ s : ByteArray, Maps.has D (strK s) = decide (cntL ks s ≠ 0)) ∧ Maps.size D = dlen ks
theorem Mp.lt {W : World} {bm : Nat} {ks : List ByteArray} (h : Mp W bm ks) : bm < W.heap.size := by
  obtain ⟨D, h1, _⟩ := h
  exact h1.lt
theorem Mp.blk {W W1 : World} {bm : Nat} {ks : List ByteArray} (h : Mp W bm ks) (he : W1.heap[bm]? = W.heap[bm]?) : Mp W1 bm ks := by
  obtain ⟨D, ⟨es, clock, hb, h1⟩, h2⟩ := h
  exact ⟨D, ⟨es, clock, he.trans hb, h1⟩, h2⟩
theorem Mp.below {W W1 : World} {bm : Nat} {ks : List ByteArray} (h : Mp W bm ks) (hb : Below W.heap.size W W1) : Mp W1 bm ks := h.blk (hb.block bm h.lt)
theorem Mp.keep {W W1 : World} {g bm : Nat} {ks : List ByteArray} (h : Mp W bm ks) (hk : KeepBut W W1 g none) (hne : bm ≠ g) : Mp W1 bm ks := h.blk (hk.2 bm h.lt hne (by simp))
theorem Mp.grown {W W1 : World} {row : Option Nat} {bm : Nat} {ks : List ByteArray} (h : Mp W bm ks) (hg : W.grownBy W1 row) (hne : some bm ≠ row) : Mp W1 bm ks := h.blk (hg.block bm h.lt hne)
theorem Mp.len {W : World} {bm : Nat} {ks : List ByteArray} (h : Mp W bm ks) (ty : TypeId) : (Builtin.len_ #[86] ty #[.map (some bm)]).run Try.prog W = .ok (.int .i64 (dlen ks)) W := by
  obtain ⟨D, h1, h2, h3, h4, h5⟩ := h
  rw [h1.len Try.underlying86 ty, h5]
end Go.Proofs.Ytdiadmlgeojefaa.A
namespace Go.Proofs.Ytdiadmlgeojefaa.A
open Go.RowKit Go.Proofs.YtdiadmlgeojefaaW.PrintWords Go.Proofs.YtdiadmlgeojefaaW.PrintLast Go.Proofs.YtdiadmlgeojefaaW.PrintMore
set_option linter.unusedVariables false
set_option linter.unusedSimpArgs false
def ckc (bm : Nat) (on : ByteArray) (f : Int × Int) : List Value := [.map (some bm), .string on, .int .i64 f.1, .int .i64 f.2]
structure CkAt (w0 W : World) (g bm : Nat) (ks : List ByteArray) (on : ByteArray) (f : Int × Int) : Prop where
  blk : W.heap[g]? = some (.cells (ckc bm on f).toArray 88 (0, 0))
  map : Mp W bm ks
  ge : w0.heap.size ≤ g
  geM : w0.heap.size ≤ bm
  bel : Below w0.heap.size w0 W
section
variable {w0 w W W1 : World} {g bm : Nat} {ks : List ByteArray} {on : ByteArray} {f f' : Int × Int}
theorem CkAt.lt (h : CkAt w0 W g bm ks on f) : g < W.heap.size := blk_lt h.blk
theorem CkAt.ne (h : CkAt w0 W g bm ks on f) : bm ≠ g := by
  obtain ⟨D, ⟨es, clock, hb, _⟩, _⟩ := h.map
  intro e
  subst e
  rw [h.blk] at hb
  cases hb
theorem CkAt.below (h : CkAt w0 W g bm ks on f) (hb : Below W.heap.size W W1) : CkAt w0 W1 g bm ks on f := ⟨below_blk hb h.blk, h.map.below hb, h.ge, h.geM, below_step h.bel hb⟩
theorem CkAt.drew (h : CkAt w0 W g bm ks on f) : CkAt w0 W.drew g bm ks on f := ⟨h.blk, h.map.blk rfl, h.ge, h.geM, below_drew h.bel⟩
theorem CkAt.grown {b : Nat} (h : CkAt w0 W g bm ks on f) (hg : W.grownBy W1 (some b)) (h1 : b ≠ g) (h2 : b ≠ bm) (h3 : w0.heap.size ≤ b) : CkAt w0 W1 g bm ks on f :=
  ⟨grown_blk hg h.blk (Ne.symm h1), h.map.grown hg (by simpa using Ne.symm h2), h.ge, h.geM, pw_below_grown h.bel _ h.bel.size hg (by intro k hk; injection hk with hk; omega)⟩
end
end Go.Proofs.Ytdiadmlgeojefaa.A
namespace Go.Proofs.Ytdiadmlgeojefaa.A
open Go.RowKit Go.Proofs.YtdiadmlgeojefaaW.PrintWords Go.Proofs.YtdiadmlgeojefaaW.PrintLast Go.Proofs.YtdiadmlgeojefaaW.PrintMore
set_option linter.unusedVariables false
set_option linter.unusedSimpArgs false
theorem run_loadT {o : Oper} {a : Act} {ty : TypeId} {x : Operand} (ho : o.op = .load ty x) {ad : Addr} {v : Value} {d : TypeDesc} (hx : a.eval x = .pointer (some ad)) {w : World} (hc : w.cell? ad = some v) (hu : Try.prog.underlying ty = some d) (hd : (match d with | .struct _ | .array _ _ => true | _ => false) = false) : (execOp a.eval o).run Try.prog w = .ok (.value v) w := by
  unfold execOp
  simp only [ho, hx, Instr.loadAt, Instr.sureAddr, Sem.run_bind, Sem.run_pure, Result.andThen_ok, run_loadVar_cell w ad ty v d hc hu hd]
section
variable {o : Oper} {a : Act} {x y z : Operand}
theorem run_assign (ho : o.op = .assign x) {v : Value} (hx : a.eval x = v) : ∀ w, (execOp a.eval o).run Try.prog w = .ok (.value v) w := by
  intro w
  unfold execOp
  simp only [ho, hx]
  rfl
end
structure fld4yChk (ops : Array Oper) : Prop where
  f0 : anyB .any ops #[false, false, false, false, false, false, false, false, false, false, false] #[true, false, false, false, false, false, false, false, false, false, false] 0 = true
  f1 : takeB .any ops [] #[true, false, false, false, false, false, false, false, false, false, false] #[true, true, false, false, false, false, false, false, false, false, false] 1 = true
  f2 : anyB .any ops #[true, true, false, false, false, false, false, false, false, false, false] #[true, true, true, false, false, false, false, false, false, false, false] 2 = true
  f3 : anyB .any ops #[true, true, true, false, false, false, false, false, false, false, false] #[true, true, true, true, false, false, false, false, false, false, false] 3 = true
  f4 : anyB .any ops #[true, true, true, true, false, false, false, false, false, false, false] #[true, true, true, true, true, false, false, false, false, false, false] 4 = true
  f5 : takeB .any ops [] #[true, true, true, true, true, false, false, false, false, false, false] #[true, true, true, true, true, true, false, false, false, false, false] 5 = true
  f6 : anyB .any ops #[true, true, true, true, true, true, false, false, false, false, false] #[true, true, true, true, true, true, true, false, false, false, false] 6 = true
  f7 : readyB .any ops #[true, true, true, true, true, true, true, false, false, false, false] #[true, true, true, true, true, true, true, true, false, false, false] 7 = true
  f8 : anyB .any ops #[true, true, true, true, true, true, true, true, false, false, false] #[true, true, true, true, true, true, true, true, true, false, false] 8 = true
  f9 : anyB .any ops #[true, true, true, true, true, true, true, true, true, false, false] #[true, true, true, true, true, true, true, true, true, true, false] 9 = true
  f10 : anyB .any ops #[true, true, true, true, true, true, true, true, true, true, false] #[true, true, true, true, true, true, true, true, true, true, true] 10 = true
  f11 : (Region.ready .any ops #[true, true, true, true, true, true, true, true, true, true, true] == []) = true
structure fld4nChk (ops : Array Oper) : Prop where
  f0 : anyB .any ops #[false, false, false, false, false, false, false, false, false, false, false] #[true, false, false, false, false, false, false, false, false, false, false] 0 = true
  f1 : takeB .any ops [] #[true, false, false, false, false, false, false, false, false, false, false] #[true, true, false, false, false, false, false, false, false, false, false] 1 = true
  f2 : anyB .any ops #[true, true, false, false, false, false, false, false, false, false, false] #[true, true, true, false, false, false, false, false, false, false, false] 2 = true
  f3 : anyB .any ops #[true, true, true, false, false, false, false, false, false, false, false] #[true, true, true, true, false, false, false, false, false, false, false] 3 = true
  f4 : anyB .any ops #[true, true, true, true, false, false, false, false, false, false, false] #[true, true, true, true, true, false, false, false, false, false, false] 4 = true
  f5 : anyB .any ops #[true, true, true, true, true, false, false, false, false, false, false] #[true, true, true, true, true, true, false, false, false, false, false] 5 = true
  f6 : anyB .any ops #[true, true, true, true, true, true, false, false, false, false, false] #[true, true, true, true, true, true, true, false, false, false, false] 6 = true
  f7 : anyB .any ops #[true, true, true, true, true, true, true, false, false, false, false] #[true, true, true, true, true, true, true, true, false, false, false] 7 = true
  f8 : anyB .any ops #[true, true, true, true, true, true, true, true, false, false, false] #[true, true, true, true, true, true, true, true, true, false, false] 8 = true
  f9 : anyB .any ops #[true, true, true, true, true, true, true, true, true, false, false] #[true, true, true, true, true, true, true, true, true, true, false] 9 = true
  f10 : anyB .any ops #[true, true, true, true, true, true, true, true, true, true, false] #[true, true, true, true, true, true, true, true, true, true, true] 10 = true
  f11 : (Region.ready .any ops #[true, true, true, true, true, true, true, true, true, true, true] == []) = true
end Go.Proofs.Ytdiadmlgeojefaa.A
namespace Go.Proofs.Ytdiadmlgeojefaa.A
open Go.RowKit Go.Proofs.YtdiadmlgeojefaaW.PrintWords Go.Proofs.YtdiadmlgeojefaaW.PrintLast Go.Proofs.YtdiadmlgeojefaaW.PrintMore
set_option linter.unusedVariables false
set_option linter.unusedSimpArgs false
abbrev Ft := Int × Int
theorem VK_elem {W : World} {ok : Nat → Prop} {A : Option Addr} {c : Nat} {xs : List S29} (h : VK W ok (.slice A xs.length c) xs) {k : Nat} (hk : k < xs.length) :
    ∃ ad ap v, A = some ad ∧ ad.add (k * 5) = ap ∧ (∀ j u, (nc xs[k] v)[j]? = some u → W.cell? (ap.add j) = some u) ∧ VK W ok v xs[k].f3 := by
  obtain ⟨ad, cs0, e0, _⟩ := C_elem (Kd.V_reads' h).2.2 hk
  subst e0
  obtain ⟨cs, hl, hF, hc⟩ := Kd.V_get h z29 (k : Int) (by omega) (by omega)
  have e1 : xs.getD (k : Int).toNat z29 = xs[k] := by simp [hk]
  rw [e1] at hF
  obtain ⟨v, rfl, hV⟩ := nc_of_FK hF
  refine ⟨ad, _, v, rfl, rfl, fun j u hu => ?_, hV⟩
  have := hc j u hu
  have e2 : (ad.add (k * 5)).add j = ad.add (k * 5 + j) := by
    unfold Addr.add
    split <;> split <;> simp_all <;> omega
  rw [e2]
  simpa [show k29.sz = 5 from rfl] using this
theorem VK_len {W : World} {ok : Nat → Prop} {A : Option Addr} {c : Nat} {xs : List S29} (h : VK W ok (.slice A xs.length c) xs) : xs.length ≤ 9223372036854775807 := (Kd.V_reads' h).2.2.2.1
end Go.Proofs.Ytdiadmlgeojefaa.A
namespace Go.Proofs.Ytdiadmlgeojefaa.A
open Go.RowKit Go.Proofs.YtdiadmlgeojefaaW.PrintWords Go.Proofs.YtdiadmlgeojefaaW.PrintLast Go.Proofs.YtdiadmlgeojefaaW.PrintMore
set_option linter.unusedVariables false
set_option linter.unusedSimpArgs false
def truthF (b : Bool) : Int := if b = true then 1 else 0
theorem truthF_some (b : Bool) : eval_truth.f b = some (truthF b) := by cases b <;> rfl
abbrev RecE := Mst → S29 → Option (Int × Mst)
def twoP (rec : RecE) (m : Mst) (T : S29) : Option (Int × Mst) := T.f3[0]?.bind fun k0 => (rec m k0).bind fun a =>
  if (T.f1.toList == [38, 38]) = true ∧ (a.1 == 0) = true then some (0, a.2)
  else if (T.f1.toList == [124, 124]) = true ∧ (a.1 != 0) = true then some (1, a.2)
  else T.f3[1]?.bind fun k1 => (rec a.2 k1).bind fun b =>
    if (T.f1.toList == [38, 38]) = true ∨ (T.f1.toList == [124, 124]) = true then some (truthF (b.1 != 0), b.2)
    else if (b.2.e != 0) = true then some (0, b.2) else sumF b.2 T.f1 a.1 b.1
def exprG (xs : List S65) (rec : RecE) (m : Mst) (T : S29) : Option (Int × Mst) :=
  if (burnF m).1 = true then
    if (T.f0 == 18) = true then some (T.f2, (burnF m).2)
    else if (T.f0 == 19) = true then some (nameF xs (burnF m).2 T.f1, (burnF m).2)
    else if (T.f0 == 20) = true then twoP rec (burnF m).2 T
    else T.f3[0]?.bind fun k0 => (rec (burnF m).2 k0).bind fun a => some (if (T.f1.toList == [33]) = true then truthF (a.1 == 0) else wrap64 (-a.1), a.2)
  else some (0, (burnF m).2)
def exprP (xs : List S65) : Nat → RecE
  | 0 => fun _ _ => none
  | k + 1 => exprG xs (exprP xs k)
def ExprSh (f : Nat) (rec : RecE) (xs : List S65) : Prop :=
  ∀ {w0 w : World} {g : Nat} {vv ov : Value} {m m' : Mst} {ok okv : Nat → Prop} {T : S29} {v : Value} {r : Int}, MAt 94 w0 w g vv ov m → (∀ q, ok q → q ≠ g) → (∀ q, okv q → q ≠ g) → V65 w okv vv xs → VK w ok v T.f3 → rec m T = some (r, m') → Calls Try.prog f #[.pointer (some ⟨g, 0, none⟩), .agg (nc T v).toArray] w (MPost 94 w0 w g vv ov m' (.int .i64 r))
theorem VK_kid {W : World} {ok : Nat → Prop} {A : Option Addr} {c n k : Nat} {xs : List S29} {x : S29} (hn : n = xs.length) (h : VK W ok (.slice A xs.length c) xs) (hk : xs[k]? = some x) :
    k < n ∧ ∃ ad ap v, A = some ad ∧ ad.add (k * 5) = ap ∧ (∀ j u, (nc x v)[j]? = some u → W.cell? (ap.add j) = some u) ∧ VK W ok v x.f3 := by
  have hlt := (List.getElem?_eq_some_iff.1 hk).1
  have hx := (List.getElem?_eq_some_iff.1 hk).2
  obtain ⟨ad, ap, v, eA, eP, hc, hV⟩ := VK_elem h hlt
  rw [hx] at hc hV
  exact ⟨by omega, ad, ap, v, eA, eP, hc, hV⟩
set_option maxHeartbeats 4000000 in
set_option maxRecDepth 100000 in
theorem two_shows {rec : RecE} {xs : List S65} (hE : ExprSh 89 rec xs) (hl : xs.length ≤ 9223372036854775806) : ExprSh 107 (twoP rec) xs := by
  intro w0 w g vv ov m m' ok okv T v0 r hM hok hokv hVA hV h
  have HM := Aside0.mk hM
  have GL := Aside0.mk hM.lt
  have HK := Aside0.mk (KeepBut.refl w g none)
  clear hM
  have HE := Aside0.mk @hE
  clear hE
  have OK := Aside0.mk hok
  have OKV := Aside0.mk hokv
  have VV := Aside0.mk (Kd.V_bound hV)
  have VA := Aside0.mk (Kd.V_bound hVA)
  have HL := Aside0.mk hl
  obtain ⟨A, c, e0⟩ := Kd.V_slice hV
  subst e0
  obtain ⟨n, en⟩ : ∃ n_, n_ = T.f3.length := ⟨_, rfl⟩
  rw [← en]
  have EN := Aside0.mk en
  clear hV hVA hok hokv hl en
  obtain ⟨k0, hk0, h⟩ := Option.bind_eq_some_iff.1 h
  obtain ⟨⟨a, m1⟩, h0, h⟩ := Option.bind_eq_some_iff.1 h
  have K0 := Aside0.mk hk0
  have H0 := Aside0.mk h0
  clear hk0 h0
  simp only at h
  rcases Bool.eq_false_or_eq_true (T.f1.toList == [38, 38]) with ca | ca
  · have cb : (T.f1.toList == [124, 124]) = false := by have := beq_iff_eq.1 ca; rw [this]; decide
    rcases Bool.eq_false_or_eq_true (a == 0) with c0 | c0
    · rw [if_pos ⟨ca, c0⟩] at h
      simp only [Option.some.injEq, Prod.mk.injEq] at h
      obtain ⟨rfl, rfl⟩ := h
      go_enter Try.func107, Try.ntmps107
      go_wp2_with (first
        | ((with_reducible refine gate_dst (N := 3) rfl ?_); go_must ((refine Mine.ev_box rfl (N := 3) rfl (.tmp 1) rfl (nc (T) ((.slice A n c))) rfl ?_; intro b0 hbn w1 hblk hbel; have GBb0 := Aside0.mk (show w.heap.size ≤ b0 by have := HK.out.1; omega); have n0 := Aside0.mk (HM.out.below hbel); have n1 := Aside0.mk (keep_below HK.out hbel); have n2 := Aside0.mk (Kd.V_below VV.out hbel); have n3 := Aside0.mk (Kd.V_below VA.out hbel); clear HM HK VV VA; have HM := n0; have HK := n1; have VV := n2; have VA := n3; clear n0 n1 n2 n3; have BXb0 := Aside0.mk hblk; clear hblk hbel hbn)))
        | ((with_reducible refine gate_dst (N := 9) rfl ?_); go_must ((refine ev_cell rfl (N := 9) rfl 27 (.tmp 8) rfl ⟨b0, 3, none⟩ rfl (.slice A n c) _ ((Mine.blk_cells BXb0.out 3).trans rfl) Try.underlying27 rfl ?_)))
        | ((with_reducible refine gate_dst (N := 10) rfl ?_); go_must ((obtain ⟨hlt0, ad0, ap0, v0, eA, eP, hc, hVx⟩ := VK_kid EN.out VV.out K0.out; have EA0 := Aside0.mk eA; have EP0 := Aside0.mk eP; have HC0 := Aside0.mk hc; have VX0 := Aside0.mk hVx; clear eA eP hc hVx; refine ev_index rfl (N := 10) rfl 27 29 (.tmp 9) (.const (.int .i64 0)) rfl (ad := ad0) (n := n) (c := c) (k := 0) (sz := 5) (congrArg (fun A => Value.slice A n c) EA0.out) rfl hlt0 EP0.out Try.underlying27 info29s ?_)))
        | ((with_reducible refine gate_dst (N := 11) rfl ?_); go_must ((refine Mine.ev_load rfl (N := 11) rfl 29 (.tmp 10) rfl ap0 rfl (nc k0 v0) _ HC0.out Try.underlying29 rfl info29s ?_)))
        | ((with_reducible refine gate_dst (N := 12) rfl ?_); go_must ((refine goesL_ (some 12) rfl rfl Try.func89 (by kernel_rfl) rfl #[.pointer (some ⟨g, 0, none⟩), .agg (nc k0 v0).toArray] rfl (by (try simp only [List.map_toArray, List.map_cons, List.map_nil]); first | done | rfl) ?_; refine (HE.out HM.out (fun q hq => OK.out q hq.1) (fun q hq => OKV.out q hq.1) VA.out VX0.out H0.out).mono ?_; rintro e w1 ⟨rfl, he, hk⟩; refine ⟨_, rfl, ?_⟩; have n0 := Aside0.mk (he); have n1 := Aside0.mk (keep_keep HK.out hk); have n2 := Aside0.mk (keep_blk hk BXb0.out (by have := GBb0.out; have := GL.out; omega)); have n3 := Aside0.mk (Kd.V_keep VV.out hk (fun q hq => OK.out q hq.1)); have n4 := Aside0.mk (Kd.V_keep VA.out hk (fun q hq => OKV.out q hq.1)); clear HM HK BXb0 VV VA; have HM := n0; have HK := n1; have BXb0 := n2; have VV := n3; have VA := n4; clear n0 n1 n2 n3 n4; clear he hk HC0 VX0)))
        | ((with_reducible refine gate_dst (N := 15) rfl ?_); go_must ((refine ev_cell rfl (N := 15) rfl 9 (.tmp 14) rfl ⟨b0, 1, none⟩ rfl (.string T.f1) _ ((Mine.blk_cells BXb0.out 1).trans rfl) Try.underlying9 rfl ?_)))
        | ((with_reducible refine gate_dst (N := 23) rfl ?_); go_must ((refine ev_cell rfl (N := 23) rfl 9 (.tmp 22) rfl ⟨b0, 1, none⟩ rfl (.string T.f1) _ ((Mine.blk_cells BXb0.out 1).trans rfl) Try.underlying9 rfl ?_)))
        | ((with_reducible refine gate_dst (N := 36) rfl ?_); go_must ((refine ev_cell rfl (N := 36) rfl 9 (.tmp 35) rfl ⟨b0, 1, none⟩ rfl (.string T.f1) _ ((Mine.blk_cells BXb0.out 1).trans rfl) Try.underlying9 rfl ?_)))
        | ((with_reducible refine gate_dst (N := 53) rfl ?_); go_must ((refine ev_cell rfl (N := 53) rfl 9 (.tmp 52) rfl ⟨b0, 1, none⟩ rfl (.string T.f1) _ ((Mine.blk_cells BXb0.out 1).trans rfl) Try.underlying9 rfl ?_))))
      go_ret
      exact ⟨rfl, HM.out, HK.out⟩
    · have c1 : (a != 0) = true := by simpa using c0
      rw [if_neg (fun h => by rw [c0] at h; exact absurd h.2 (by decide)), if_neg (fun h => by rw [cb] at h; exact absurd h.1 (by decide))] at h
      obtain ⟨k1, hk1, h⟩ := Option.bind_eq_some_iff.1 h
      obtain ⟨⟨b, m2⟩, h1, h⟩ := Option.bind_eq_some_iff.1 h
      have K1 := Aside0.mk hk1
      have H1 := Aside0.mk h1
      clear hk1 h1
      simp only at h
      rw [if_pos (.inl ca)] at h
      simp only [Option.some.injEq, Prod.mk.injEq] at h
      obtain ⟨rfl, rfl⟩ := h
      go_enter Try.func107, Try.ntmps107
      go_wp2_with (first
        | ((with_reducible refine gate_dst (N := 3) rfl ?_); go_must ((refine Mine.ev_box rfl (N := 3) rfl (.tmp 1) rfl (nc (T) ((.slice A n c))) rfl ?_; intro b0 hbn w1 hblk hbel; have GBb0 := Aside0.mk (show w.heap.size ≤ b0 by have := HK.out.1; omega); have n0 := Aside0.mk (HM.out.below hbel); have n1 := Aside0.mk (keep_below HK.out hbel); have n2 := Aside0.mk (Kd.V_below VV.out hbel); have n3 := Aside0.mk (Kd.V_below VA.out hbel); clear HM HK VV VA; have HM := n0; have HK := n1; have VV := n2; have VA := n3; clear n0 n1 n2 n3; have BXb0 := Aside0.mk hblk; clear hblk hbel hbn)))
        | ((with_reducible refine gate_dst (N := 9) rfl ?_); go_must ((refine ev_cell rfl (N := 9) rfl 27 (.tmp 8) rfl ⟨b0, 3, none⟩ rfl (.slice A n c) _ ((Mine.blk_cells BXb0.out 3).trans rfl) Try.underlying27 rfl ?_)))
        | ((with_reducible refine gate_dst (N := 10) rfl ?_); go_must ((obtain ⟨hlt0, ad0, ap0, v0, eA, eP, hc, hVx⟩ := VK_kid EN.out VV.out K0.out; have EA0 := Aside0.mk eA; have EP0 := Aside0.mk eP; have HC0 := Aside0.mk hc; have VX0 := Aside0.mk hVx; clear eA eP hc hVx; refine ev_index rfl (N := 10) rfl 27 29 (.tmp 9) (.const (.int .i64 0)) rfl (ad := ad0) (n := n) (c := c) (k := 0) (sz := 5) (congrArg (fun A => Value.slice A n c) EA0.out) rfl hlt0 EP0.out Try.underlying27 info29s ?_)))
        | ((with_reducible refine gate_dst (N := 11) rfl ?_); go_must ((refine Mine.ev_load rfl (N := 11) rfl 29 (.tmp 10) rfl ap0 rfl (nc k0 v0) _ HC0.out Try.underlying29 rfl info29s ?_)))
        | ((with_reducible refine gate_dst (N := 12) rfl ?_); go_must ((refine goesL_ (some 12) rfl rfl Try.func89 (by kernel_rfl) rfl #[.pointer (some ⟨g, 0, none⟩), .agg (nc k0 v0).toArray] rfl (by (try simp only [List.map_toArray, List.map_cons, List.map_nil]); first | done | rfl) ?_; refine (HE.out HM.out (fun q hq => OK.out q hq.1) (fun q hq => OKV.out q hq.1) VA.out VX0.out H0.out).mono ?_; rintro e w1 ⟨rfl, he, hk⟩; refine ⟨_, rfl, ?_⟩; have n0 := Aside0.mk (he); have n1 := Aside0.mk (keep_keep HK.out hk); have n2 := Aside0.mk (keep_blk hk BXb0.out (by have := GBb0.out; have := GL.out; omega)); have n3 := Aside0.mk (Kd.V_keep VV.out hk (fun q hq => OK.out q hq.1)); have n4 := Aside0.mk (Kd.V_keep VA.out hk (fun q hq => OKV.out q hq.1)); clear HM HK BXb0 VV VA; have HM := n0; have HK := n1; have BXb0 := n2; have VV := n3; have VA := n4; clear n0 n1 n2 n3 n4; clear he hk HC0 VX0)))
        | ((with_reducible refine gate_dst (N := 15) rfl ?_); go_must ((refine ev_cell rfl (N := 15) rfl 9 (.tmp 14) rfl ⟨b0, 1, none⟩ rfl (.string T.f1) _ ((Mine.blk_cells BXb0.out 1).trans rfl) Try.underlying9 rfl ?_)))
        | ((with_reducible refine gate_dst (N := 23) rfl ?_); go_must ((refine ev_cell rfl (N := 23) rfl 9 (.tmp 22) rfl ⟨b0, 1, none⟩ rfl (.string T.f1) _ ((Mine.blk_cells BXb0.out 1).trans rfl) Try.underlying9 rfl ?_)))
        | ((with_reducible refine gate_dst (N := 36) rfl ?_); go_must ((refine ev_cell rfl (N := 36) rfl 9 (.tmp 35) rfl ⟨b0, 1, none⟩ rfl (.string T.f1) _ ((Mine.blk_cells BXb0.out 1).trans rfl) Try.underlying9 rfl ?_)))
        | ((with_reducible refine gate_dst (N := 53) rfl ?_); go_must ((refine ev_cell rfl (N := 53) rfl 9 (.tmp 52) rfl ⟨b0, 1, none⟩ rfl (.string T.f1) _ ((Mine.blk_cells BXb0.out 1).trans rfl) Try.underlying9 rfl ?_)))
        | ((with_reducible refine gate_dst (N := 31) rfl ?_); go_must ((refine ev_cell rfl (N := 31) rfl 27 (.tmp 30) rfl ⟨b0, 3, none⟩ rfl (.slice A n c) _ ((Mine.blk_cells BXb0.out 3).trans rfl) Try.underlying27 rfl ?_)))
        | ((with_reducible refine gate_dst (N := 32) rfl ?_); go_must ((obtain ⟨hlt1, ad1, ap1, v1, eA, eP, hc, hVx⟩ := VK_kid EN.out VV.out K1.out; have EA1 := Aside0.mk eA; have EP1 := Aside0.mk eP; have HC1 := Aside0.mk hc; have VX1 := Aside0.mk hVx; clear eA eP hc hVx; refine ev_index rfl (N := 32) rfl 27 29 (.tmp 31) (.const (.int .i64 1)) rfl (ad := ad1) (n := n) (c := c) (k := 1) (sz := 5) (congrArg (fun A => Value.slice A n c) EA1.out) rfl hlt1 EP1.out Try.underlying27 info29s ?_)))
        | ((with_reducible refine gate_dst (N := 33) rfl ?_); go_must ((refine Mine.ev_load rfl (N := 33) rfl 29 (.tmp 32) rfl ap1 rfl (nc k1 v1) _ HC1.out Try.underlying29 rfl info29s ?_)))
        | ((with_reducible refine gate_dst (N := 34) rfl ?_); go_must ((refine goesL_ (some 34) rfl rfl Try.func89 (by kernel_rfl) rfl #[.pointer (some ⟨g, 0, none⟩), .agg (nc k1 v1).toArray] rfl (by (try simp only [List.map_toArray, List.map_cons, List.map_nil]); first | done | rfl) ?_; refine (HE.out HM.out (fun q hq => OK.out q hq.1) (fun q hq => OKV.out q hq.1) VA.out VX1.out H1.out).mono ?_; rintro e w1 ⟨rfl, he, hk⟩; refine ⟨_, rfl, ?_⟩; have n0 := Aside0.mk (he); have n1 := Aside0.mk (keep_keep HK.out hk); have n2 := Aside0.mk (keep_blk hk BXb0.out (by have := GBb0.out; have := GL.out; omega)); have n3 := Aside0.mk (Kd.V_keep VV.out hk (fun q hq => OK.out q hq.1)); have n4 := Aside0.mk (Kd.V_keep VA.out hk (fun q hq => OKV.out q hq.1)); clear HM HK BXb0 VV VA; have HM := n0; have HK := n1; have BXb0 := n2; have VV := n3; have VA := n4; clear n0 n1 n2 n3 n4; clear he hk HC1 VX1)))
        | ((with_reducible refine gate_dst (N := 45) rfl ?_); go_must ((refine goesL_ (some 45) rfl rfl Try.func108 (by kernel_rfl) rfl #[.bool (b != 0)] rfl (by (try simp only [List.map_toArray, List.map_cons, List.map_nil]); first | done | rfl) ?_; refine (eval_truth.calls _ _ _ (truthF_some _)).mono ?_; rintro e w1 ⟨rfl, hd9⟩; refine ⟨_, rfl, ?_⟩; have hbel := hd9.below; clear hd9; have n0 := Aside0.mk (HM.out.below hbel); have n1 := Aside0.mk (keep_below HK.out hbel); have n2 := Aside0.mk (below_blk hbel BXb0.out); have n3 := Aside0.mk (Kd.V_below VV.out hbel); have n4 := Aside0.mk (Kd.V_below VA.out hbel); clear HM HK BXb0 VV VA; have HM := n0; have HK := n1; have BXb0 := n2; have VV := n3; have VA := n4; clear n0 n1 n2 n3 n4; clear hbel))))
      go_ret
      exact ⟨rfl, HM.out, HK.out⟩
  · rw [if_neg (fun h => by rw [ca] at h; exact absurd h.1 (by decide))] at h
    rcases Bool.eq_false_or_eq_true (T.f1.toList == [124, 124]) with cb | cb
    · rcases Bool.eq_false_or_eq_true (a != 0) with c0 | c0
      · rw [if_pos ⟨cb, c0⟩] at h
        simp only [Option.some.injEq, Prod.mk.injEq] at h
        obtain ⟨rfl, rfl⟩ := h
        go_enter Try.func107, Try.ntmps107
        go_wp2_with (first
          | ((with_reducible refine gate_dst (N := 3) rfl ?_); go_must ((refine Mine.ev_box rfl (N := 3) rfl (.tmp 1) rfl (nc (T) ((.slice A n c))) rfl ?_; intro b0 hbn w1 hblk hbel; have GBb0 := Aside0.mk (show w.heap.size ≤ b0 by have := HK.out.1; omega); have n0 := Aside0.mk (HM.out.below hbel); have n1 := Aside0.mk (keep_below HK.out hbel); have n2 := Aside0.mk (Kd.V_below VV.out hbel); have n3 := Aside0.mk (Kd.V_below VA.out hbel); clear HM HK VV VA; have HM := n0; have HK := n1; have VV := n2; have VA := n3; clear n0 n1 n2 n3; have BXb0 := Aside0.mk hblk; clear hblk hbel hbn)))
          | ((with_reducible refine gate_dst (N := 9) rfl ?_); go_must ((refine ev_cell rfl (N := 9) rfl 27 (.tmp 8) rfl ⟨b0, 3, none⟩ rfl (.slice A n c) _ ((Mine.blk_cells BXb0.out 3).trans rfl) Try.underlying27 rfl ?_)))
          | ((with_reducible refine gate_dst (N := 10) rfl ?_); go_must ((obtain ⟨hlt0, ad0, ap0, v0, eA, eP, hc, hVx⟩ := VK_kid EN.out VV.out K0.out; have EA0 := Aside0.mk eA; have EP0 := Aside0.mk eP; have HC0 := Aside0.mk hc; have VX0 := Aside0.mk hVx; clear eA eP hc hVx; refine ev_index rfl (N := 10) rfl 27 29 (.tmp 9) (.const (.int .i64 0)) rfl (ad := ad0) (n := n) (c := c) (k := 0) (sz := 5) (congrArg (fun A => Value.slice A n c) EA0.out) rfl hlt0 EP0.out Try.underlying27 info29s ?_)))
          | ((with_reducible refine gate_dst (N := 11) rfl ?_); go_must ((refine Mine.ev_load rfl (N := 11) rfl 29 (.tmp 10) rfl ap0 rfl (nc k0 v0) _ HC0.out Try.underlying29 rfl info29s ?_)))
          | ((with_reducible refine gate_dst (N := 12) rfl ?_); go_must ((refine goesL_ (some 12) rfl rfl Try.func89 (by kernel_rfl) rfl #[.pointer (some ⟨g, 0, none⟩), .agg (nc k0 v0).toArray] rfl (by (try simp only [List.map_toArray, List.map_cons, List.map_nil]); first | done | rfl) ?_; refine (HE.out HM.out (fun q hq => OK.out q hq.1) (fun q hq => OKV.out q hq.1) VA.out VX0.out H0.out).mono ?_; rintro e w1 ⟨rfl, he, hk⟩; refine ⟨_, rfl, ?_⟩; have n0 := Aside0.mk (he); have n1 := Aside0.mk (keep_keep HK.out hk); have n2 := Aside0.mk (keep_blk hk BXb0.out (by have := GBb0.out; have := GL.out; omega)); have n3 := Aside0.mk (Kd.V_keep VV.out hk (fun q hq => OK.out q hq.1)); have n4 := Aside0.mk (Kd.V_keep VA.out hk (fun q hq => OKV.out q hq.1)); clear HM HK BXb0 VV VA; have HM := n0; have HK := n1; have BXb0 := n2; have VV := n3; have VA := n4; clear n0 n1 n2 n3 n4; clear he hk HC0 VX0)))
          | ((with_reducible refine gate_dst (N := 15) rfl ?_); go_must ((refine ev_cell rfl (N := 15) rfl 9 (.tmp 14) rfl ⟨b0, 1, none⟩ rfl (.string T.f1) _ ((Mine.blk_cells BXb0.out 1).trans rfl) Try.underlying9 rfl ?_)))
          | ((with_reducible refine gate_dst (N := 23) rfl ?_); go_must ((refine ev_cell rfl (N := 23) rfl 9 (.tmp 22) rfl ⟨b0, 1, none⟩ rfl (.string T.f1) _ ((Mine.blk_cells BXb0.out 1).trans rfl) Try.underlying9 rfl ?_)))
          | ((with_reducible refine gate_dst (N := 36) rfl ?_); go_must ((refine ev_cell rfl (N := 36) rfl 9 (.tmp 35) rfl ⟨b0, 1, none⟩ rfl (.string T.f1) _ ((Mine.blk_cells BXb0.out 1).trans rfl) Try.underlying9 rfl ?_)))
          | ((with_reducible refine gate_dst (N := 53) rfl ?_); go_must ((refine ev_cell rfl (N := 53) rfl 9 (.tmp 52) rfl ⟨b0, 1, none⟩ rfl (.string T.f1) _ ((Mine.blk_cells BXb0.out 1).trans rfl) Try.underlying9 rfl ?_))))
        go_ret
        exact ⟨rfl, HM.out, HK.out⟩
      · rw [if_neg (fun h => by rw [c0] at h; exact absurd h.2 (by decide))] at h
        obtain ⟨k1, hk1, h⟩ := Option.bind_eq_some_iff.1 h
        obtain ⟨⟨b, m2⟩, h1, h⟩ := Option.bind_eq_some_iff.1 h
        have K1 := Aside0.mk hk1
        have H1 := Aside0.mk h1
        clear hk1 h1
        simp only at h
        rw [if_pos (.inr cb)] at h
        simp only [Option.some.injEq, Prod.mk.injEq] at h
        obtain ⟨rfl, rfl⟩ := h
        go_enter Try.func107, Try.ntmps107
        go_wp2_with (first
          | ((with_reducible refine gate_dst (N := 3) rfl ?_); go_must ((refine Mine.ev_box rfl (N := 3) rfl (.tmp 1) rfl (nc (T) ((.slice A n c))) rfl ?_; intro b0 hbn w1 hblk hbel; have GBb0 := Aside0.mk (show w.heap.size ≤ b0 by have := HK.out.1; omega); have n0 := Aside0.mk (HM.out.below hbel); have n1 := Aside0.mk (keep_below HK.out hbel); have n2 := Aside0.mk (Kd.V_below VV.out hbel); have n3 := Aside0.mk (Kd.V_below VA.out hbel); clear HM HK VV VA; have HM := n0; have HK := n1; have VV := n2; have VA := n3; clear n0 n1 n2 n3; have BXb0 := Aside0.mk hblk; clear hblk hbel hbn)))
          | ((with_reducible refine gate_dst (N := 9) rfl ?_); go_must ((refine ev_cell rfl (N := 9) rfl 27 (.tmp 8) rfl ⟨b0, 3, none⟩ rfl (.slice A n c) _ ((Mine.blk_cells BXb0.out 3).trans rfl) Try.underlying27 rfl ?_)))
          | ((with_reducible refine gate_dst (N := 10) rfl ?_); go_must ((obtain ⟨hlt0, ad0, ap0, v0, eA, eP, hc, hVx⟩ := VK_kid EN.out VV.out K0.out; have EA0 := Aside0.mk eA; have EP0 := Aside0.mk eP; have HC0 := Aside0.mk hc; have VX0 := Aside0.mk hVx; clear eA eP hc hVx; refine ev_index rfl (N := 10) rfl 27 29 (.tmp 9) (.const (.int .i64 0)) rfl (ad := ad0) (n := n) (c := c) (k := 0) (sz := 5) (congrArg (fun A => Value.slice A n c) EA0.out) rfl hlt0 EP0.out Try.underlying27 info29s ?_)))
          | ((with_reducible refine gate_dst (N := 11) rfl ?_); go_must ((refine Mine.ev_load rfl (N := 11) rfl 29 (.tmp 10) rfl ap0 rfl (nc k0 v0) _ HC0.out Try.underlying29 rfl info29s ?_)))
          | ((with_reducible refine gate_dst (N := 12) rfl ?_); go_must ((refine goesL_ (some 12) rfl rfl Try.func89 (by kernel_rfl) rfl #[.pointer (some ⟨g, 0, none⟩), .agg (nc k0 v0).toArray] rfl (by (try simp only [List.map_toArray, List.map_cons, List.map_nil]); first | done | rfl) ?_; refine (HE.out HM.out (fun q hq => OK.out q hq.1) (fun q hq => OKV.out q hq.1) VA.out VX0.out H0.out).mono ?_; rintro e w1 ⟨rfl, he, hk⟩; refine ⟨_, rfl, ?_⟩; have n0 := Aside0.mk (he); have n1 := Aside0.mk (keep_keep HK.out hk); have n2 := Aside0.mk (keep_blk hk BXb0.out (by have := GBb0.out; have := GL.out; omega)); have n3 := Aside0.mk (Kd.V_keep VV.out hk (fun q hq => OK.out q hq.1)); have n4 := Aside0.mk (Kd.V_keep VA.out hk (fun q hq => OKV.out q hq.1)); clear HM HK BXb0 VV VA; have HM := n0; have HK := n1; have BXb0 := n2; have VV := n3; have VA := n4; clear n0 n1 n2 n3 n4; clear he hk HC0 VX0)))
          | ((with_reducible refine gate_dst (N := 15) rfl ?_); go_must ((refine ev_cell rfl (N := 15) rfl 9 (.tmp 14) rfl ⟨b0, 1, none⟩ rfl (.string T.f1) _ ((Mine.blk_cells BXb0.out 1).trans rfl) Try.underlying9 rfl ?_)))
          | ((with_reducible refine gate_dst (N := 23) rfl ?_); go_must ((refine ev_cell rfl (N := 23) rfl 9 (.tmp 22) rfl ⟨b0, 1, none⟩ rfl (.string T.f1) _ ((Mine.blk_cells BXb0.out 1).trans rfl) Try.underlying9 rfl ?_)))
          | ((with_reducible refine gate_dst (N := 36) rfl ?_); go_must ((refine ev_cell rfl (N := 36) rfl 9 (.tmp 35) rfl ⟨b0, 1, none⟩ rfl (.string T.f1) _ ((Mine.blk_cells BXb0.out 1).trans rfl) Try.underlying9 rfl ?_)))
          | ((with_reducible refine gate_dst (N := 53) rfl ?_); go_must ((refine ev_cell rfl (N := 53) rfl 9 (.tmp 52) rfl ⟨b0, 1, none⟩ rfl (.string T.f1) _ ((Mine.blk_cells BXb0.out 1).trans rfl) Try.underlying9 rfl ?_)))
          | ((with_reducible refine gate_dst (N := 31) rfl ?_); go_must ((refine ev_cell rfl (N := 31) rfl 27 (.tmp 30) rfl ⟨b0, 3, none⟩ rfl (.slice A n c) _ ((Mine.blk_cells BXb0.out 3).trans rfl) Try.underlying27 rfl ?_)))
          | ((with_reducible refine gate_dst (N := 32) rfl ?_); go_must ((obtain ⟨hlt1, ad1, ap1, v1, eA, eP, hc, hVx⟩ := VK_kid EN.out VV.out K1.out; have EA1 := Aside0.mk eA; have EP1 := Aside0.mk eP; have HC1 := Aside0.mk hc; have VX1 := Aside0.mk hVx; clear eA eP hc hVx; refine ev_index rfl (N := 32) rfl 27 29 (.tmp 31) (.const (.int .i64 1)) rfl (ad := ad1) (n := n) (c := c) (k := 1) (sz := 5) (congrArg (fun A => Value.slice A n c) EA1.out) rfl hlt1 EP1.out Try.underlying27 info29s ?_)))
          | ((with_reducible refine gate_dst (N := 33) rfl ?_); go_must ((refine Mine.ev_load rfl (N := 33) rfl 29 (.tmp 32) rfl ap1 rfl (nc k1 v1) _ HC1.out Try.underlying29 rfl info29s ?_)))
          | ((with_reducible refine gate_dst (N := 34) rfl ?_); go_must ((refine goesL_ (some 34) rfl rfl Try.func89 (by kernel_rfl) rfl #[.pointer (some ⟨g, 0, none⟩), .agg (nc k1 v1).toArray] rfl (by (try simp only [List.map_toArray, List.map_cons, List.map_nil]); first | done | rfl) ?_; refine (HE.out HM.out (fun q hq => OK.out q hq.1) (fun q hq => OKV.out q hq.1) VA.out VX1.out H1.out).mono ?_; rintro e w1 ⟨rfl, he, hk⟩; refine ⟨_, rfl, ?_⟩; have n0 := Aside0.mk (he); have n1 := Aside0.mk (keep_keep HK.out hk); have n2 := Aside0.mk (keep_blk hk BXb0.out (by have := GBb0.out; have := GL.out; omega)); have n3 := Aside0.mk (Kd.V_keep VV.out hk (fun q hq => OK.out q hq.1)); have n4 := Aside0.mk (Kd.V_keep VA.out hk (fun q hq => OKV.out q hq.1)); clear HM HK BXb0 VV VA; have HM := n0; have HK := n1; have BXb0 := n2; have VV := n3; have VA := n4; clear n0 n1 n2 n3 n4; clear he hk HC1 VX1; have e40 := (Mine.blk_cells BXb0.out 1).trans (show _ = some (Value.string T.f1) from rfl))))
          | ((with_reducible refine gate_dst (N := 45) rfl ?_); go_must ((refine goesL_ (some 45) rfl rfl Try.func108 (by kernel_rfl) rfl #[.bool (b != 0)] rfl (by (try simp only [List.map_toArray, List.map_cons, List.map_nil]); first | done | rfl) ?_; refine (eval_truth.calls _ _ _ (truthF_some _)).mono ?_; rintro e w1 ⟨rfl, hd9⟩; refine ⟨_, rfl, ?_⟩; have hbel := hd9.below; clear hd9; have n0 := Aside0.mk (HM.out.below hbel); have n1 := Aside0.mk (keep_below HK.out hbel); have n2 := Aside0.mk (below_blk hbel BXb0.out); have n3 := Aside0.mk (Kd.V_below VV.out hbel); have n4 := Aside0.mk (Kd.V_below VA.out hbel); clear HM HK BXb0 VV VA; have HM := n0; have HK := n1; have BXb0 := n2; have VV := n3; have VA := n4; clear n0 n1 n2 n3 n4; clear hbel))))
        go_ret
        exact ⟨rfl, HM.out, HK.out⟩
    · rw [if_neg (fun h => by rw [cb] at h; exact absurd h.1 (by decide))] at h
      obtain ⟨k1, hk1, h⟩ := Option.bind_eq_some_iff.1 h
      obtain ⟨⟨b, m2⟩, h1, h⟩ := Option.bind_eq_some_iff.1 h
      have K1 := Aside0.mk hk1
      have H1 := Aside0.mk h1
      clear hk1 h1
      simp only at h
      rw [if_neg (fun h => by rw [ca, cb] at h; exact h.elim (by decide) (by decide))] at h
      rcases Bool.eq_false_or_eq_true (m2.e != 0) with ce | ce
      · rw [if_pos ce] at h
        simp only [Option.some.injEq, Prod.mk.injEq] at h
        obtain ⟨rfl, rfl⟩ := h
        go_enter Try.func107, Try.ntmps107
        go_wp2_with (first
          | ((with_reducible refine gate_dst (N := 3) rfl ?_); go_must ((refine Mine.ev_box rfl (N := 3) rfl (.tmp 1) rfl (nc (T) ((.slice A n c))) rfl ?_; intro b0 hbn w1 hblk hbel; have GBb0 := Aside0.mk (show w.heap.size ≤ b0 by have := HK.out.1; omega); have n0 := Aside0.mk (HM.out.below hbel); have n1 := Aside0.mk (keep_below HK.out hbel); have n2 := Aside0.mk (Kd.V_below VV.out hbel); have n3 := Aside0.mk (Kd.V_below VA.out hbel); clear HM HK VV VA; have HM := n0; have HK := n1; have VV := n2; have VA := n3; clear n0 n1 n2 n3; have BXb0 := Aside0.mk hblk; clear hblk hbel hbn)))
          | ((with_reducible refine gate_dst (N := 9) rfl ?_); go_must ((refine ev_cell rfl (N := 9) rfl 27 (.tmp 8) rfl ⟨b0, 3, none⟩ rfl (.slice A n c) _ ((Mine.blk_cells BXb0.out 3).trans rfl) Try.underlying27 rfl ?_)))
          | ((with_reducible refine gate_dst (N := 10) rfl ?_); go_must ((obtain ⟨hlt0, ad0, ap0, v0, eA, eP, hc, hVx⟩ := VK_kid EN.out VV.out K0.out; have EA0 := Aside0.mk eA; have EP0 := Aside0.mk eP; have HC0 := Aside0.mk hc; have VX0 := Aside0.mk hVx; clear eA eP hc hVx; refine ev_index rfl (N := 10) rfl 27 29 (.tmp 9) (.const (.int .i64 0)) rfl (ad := ad0) (n := n) (c := c) (k := 0) (sz := 5) (congrArg (fun A => Value.slice A n c) EA0.out) rfl hlt0 EP0.out Try.underlying27 info29s ?_)))
          | ((with_reducible refine gate_dst (N := 11) rfl ?_); go_must ((refine Mine.ev_load rfl (N := 11) rfl 29 (.tmp 10) rfl ap0 rfl (nc k0 v0) _ HC0.out Try.underlying29 rfl info29s ?_)))
          | ((with_reducible refine gate_dst (N := 12) rfl ?_); go_must ((refine goesL_ (some 12) rfl rfl Try.func89 (by kernel_rfl) rfl #[.pointer (some ⟨g, 0, none⟩), .agg (nc k0 v0).toArray] rfl (by (try simp only [List.map_toArray, List.map_cons, List.map_nil]); first | done | rfl) ?_; refine (HE.out HM.out (fun q hq => OK.out q hq.1) (fun q hq => OKV.out q hq.1) VA.out VX0.out H0.out).mono ?_; rintro e w1 ⟨rfl, he, hk⟩; refine ⟨_, rfl, ?_⟩; have n0 := Aside0.mk (he); have n1 := Aside0.mk (keep_keep HK.out hk); have n2 := Aside0.mk (keep_blk hk BXb0.out (by have := GBb0.out; have := GL.out; omega)); have n3 := Aside0.mk (Kd.V_keep VV.out hk (fun q hq => OK.out q hq.1)); have n4 := Aside0.mk (Kd.V_keep VA.out hk (fun q hq => OKV.out q hq.1)); clear HM HK BXb0 VV VA; have HM := n0; have HK := n1; have BXb0 := n2; have VV := n3; have VA := n4; clear n0 n1 n2 n3 n4; clear he hk HC0 VX0)))
          | ((with_reducible refine gate_dst (N := 15) rfl ?_); go_must ((refine ev_cell rfl (N := 15) rfl 9 (.tmp 14) rfl ⟨b0, 1, none⟩ rfl (.string T.f1) _ ((Mine.blk_cells BXb0.out 1).trans rfl) Try.underlying9 rfl ?_)))
          | ((with_reducible refine gate_dst (N := 23) rfl ?_); go_must ((refine ev_cell rfl (N := 23) rfl 9 (.tmp 22) rfl ⟨b0, 1, none⟩ rfl (.string T.f1) _ ((Mine.blk_cells BXb0.out 1).trans rfl) Try.underlying9 rfl ?_)))
          | ((with_reducible refine gate_dst (N := 36) rfl ?_); go_must ((refine ev_cell rfl (N := 36) rfl 9 (.tmp 35) rfl ⟨b0, 1, none⟩ rfl (.string T.f1) _ ((Mine.blk_cells BXb0.out 1).trans rfl) Try.underlying9 rfl ?_)))
          | ((with_reducible refine gate_dst (N := 53) rfl ?_); go_must ((refine ev_cell rfl (N := 53) rfl 9 (.tmp 52) rfl ⟨b0, 1, none⟩ rfl (.string T.f1) _ ((Mine.blk_cells BXb0.out 1).trans rfl) Try.underlying9 rfl ?_)))
          | ((with_reducible refine gate_dst (N := 31) rfl ?_); go_must ((refine ev_cell rfl (N := 31) rfl 27 (.tmp 30) rfl ⟨b0, 3, none⟩ rfl (.slice A n c) _ ((Mine.blk_cells BXb0.out 3).trans rfl) Try.underlying27 rfl ?_)))
          | ((with_reducible refine gate_dst (N := 32) rfl ?_); go_must ((obtain ⟨hlt1, ad1, ap1, v1, eA, eP, hc, hVx⟩ := VK_kid EN.out VV.out K1.out; have EA1 := Aside0.mk eA; have EP1 := Aside0.mk eP; have HC1 := Aside0.mk hc; have VX1 := Aside0.mk hVx; clear eA eP hc hVx; refine ev_index rfl (N := 32) rfl 27 29 (.tmp 31) (.const (.int .i64 1)) rfl (ad := ad1) (n := n) (c := c) (k := 1) (sz := 5) (congrArg (fun A => Value.slice A n c) EA1.out) rfl hlt1 EP1.out Try.underlying27 info29s ?_)))
          | ((with_reducible refine gate_dst (N := 33) rfl ?_); go_must ((refine Mine.ev_load rfl (N := 33) rfl 29 (.tmp 32) rfl ap1 rfl (nc k1 v1) _ HC1.out Try.underlying29 rfl info29s ?_)))
          | ((with_reducible refine gate_dst (N := 34) rfl ?_); go_must ((refine goesL_ (some 34) rfl rfl Try.func89 (by kernel_rfl) rfl #[.pointer (some ⟨g, 0, none⟩), .agg (nc k1 v1).toArray] rfl (by (try simp only [List.map_toArray, List.map_cons, List.map_nil]); first | done | rfl) ?_; refine (HE.out HM.out (fun q hq => OK.out q hq.1) (fun q hq => OKV.out q hq.1) VA.out VX1.out H1.out).mono ?_; rintro e w1 ⟨rfl, he, hk⟩; refine ⟨_, rfl, ?_⟩; have n0 := Aside0.mk (he); have n1 := Aside0.mk (keep_keep HK.out hk); have n2 := Aside0.mk (keep_blk hk BXb0.out (by have := GBb0.out; have := GL.out; omega)); have n3 := Aside0.mk (Kd.V_keep VV.out hk (fun q hq => OK.out q hq.1)); have n4 := Aside0.mk (Kd.V_keep VA.out hk (fun q hq => OKV.out q hq.1)); clear HM HK BXb0 VV VA; have HM := n0; have HK := n1; have BXb0 := n2; have VV := n3; have VA := n4; clear n0 n1 n2 n3 n4; clear he hk HC1 VX1; have e40 := (Mine.blk_cells BXb0.out 1).trans (show _ = some (Value.string T.f1) from rfl))))
          | ((with_reducible refine gate_dst (N := 49) rfl ?_); go_must ((refine ev_cell rfl (N := 49) rfl 30 (.tmp 48) rfl ⟨g, 19, none⟩ rfl _ _ HM.out.c19 Try.underlying30 rfl ?_))))
        go_ret
        exact ⟨rfl, HM.out, HK.out⟩
      · rw [if_neg (by rw [ce]; decide)] at h
        have HS := Aside0.mk h
        clear h
        go_enter Try.func107, Try.ntmps107
        go_wp2_with (first
          | ((with_reducible refine gate_dst (N := 3) rfl ?_); go_must ((refine Mine.ev_box rfl (N := 3) rfl (.tmp 1) rfl (nc (T) ((.slice A n c))) rfl ?_; intro b0 hbn w1 hblk hbel; have GBb0 := Aside0.mk (show w.heap.size ≤ b0 by have := HK.out.1; omega); have n0 := Aside0.mk (HM.out.below hbel); have n1 := Aside0.mk (keep_below HK.out hbel); have n2 := Aside0.mk (Kd.V_below VV.out hbel); have n3 := Aside0.mk (Kd.V_below VA.out hbel); clear HM HK VV VA; have HM := n0; have HK := n1; have VV := n2; have VA := n3; clear n0 n1 n2 n3; have BXb0 := Aside0.mk hblk; clear hblk hbel hbn)))
          | ((with_reducible refine gate_dst (N := 9) rfl ?_); go_must ((refine ev_cell rfl (N := 9) rfl 27 (.tmp 8) rfl ⟨b0, 3, none⟩ rfl (.slice A n c) _ ((Mine.blk_cells BXb0.out 3).trans rfl) Try.underlying27 rfl ?_)))
          | ((with_reducible refine gate_dst (N := 10) rfl ?_); go_must ((obtain ⟨hlt0, ad0, ap0, v0, eA, eP, hc, hVx⟩ := VK_kid EN.out VV.out K0.out; have EA0 := Aside0.mk eA; have EP0 := Aside0.mk eP; have HC0 := Aside0.mk hc; have VX0 := Aside0.mk hVx; clear eA eP hc hVx; refine ev_index rfl (N := 10) rfl 27 29 (.tmp 9) (.const (.int .i64 0)) rfl (ad := ad0) (n := n) (c := c) (k := 0) (sz := 5) (congrArg (fun A => Value.slice A n c) EA0.out) rfl hlt0 EP0.out Try.underlying27 info29s ?_)))
          | ((with_reducible refine gate_dst (N := 11) rfl ?_); go_must ((refine Mine.ev_load rfl (N := 11) rfl 29 (.tmp 10) rfl ap0 rfl (nc k0 v0) _ HC0.out Try.underlying29 rfl info29s ?_)))
          | ((with_reducible refine gate_dst (N := 12) rfl ?_); go_must ((refine goesL_ (some 12) rfl rfl Try.func89 (by kernel_rfl) rfl #[.pointer (some ⟨g, 0, none⟩), .agg (nc k0 v0).toArray] rfl (by (try simp only [List.map_toArray, List.map_cons, List.map_nil]); first | done | rfl) ?_; refine (HE.out HM.out (fun q hq => OK.out q hq.1) (fun q hq => OKV.out q hq.1) VA.out VX0.out H0.out).mono ?_; rintro e w1 ⟨rfl, he, hk⟩; refine ⟨_, rfl, ?_⟩; have n0 := Aside0.mk (he); have n1 := Aside0.mk (keep_keep HK.out hk); have n2 := Aside0.mk (keep_blk hk BXb0.out (by have := GBb0.out; have := GL.out; omega)); have n3 := Aside0.mk (Kd.V_keep VV.out hk (fun q hq => OK.out q hq.1)); have n4 := Aside0.mk (Kd.V_keep VA.out hk (fun q hq => OKV.out q hq.1)); clear HM HK BXb0 VV VA; have HM := n0; have HK := n1; have BXb0 := n2; have VV := n3; have VA := n4; clear n0 n1 n2 n3 n4; clear he hk HC0 VX0)))
          | ((with_reducible refine gate_dst (N := 15) rfl ?_); go_must ((refine ev_cell rfl (N := 15) rfl 9 (.tmp 14) rfl ⟨b0, 1, none⟩ rfl (.string T.f1) _ ((Mine.blk_cells BXb0.out 1).trans rfl) Try.underlying9 rfl ?_)))
          | ((with_reducible refine gate_dst (N := 23) rfl ?_); go_must ((refine ev_cell rfl (N := 23) rfl 9 (.tmp 22) rfl ⟨b0, 1, none⟩ rfl (.string T.f1) _ ((Mine.blk_cells BXb0.out 1).trans rfl) Try.underlying9 rfl ?_)))
          | ((with_reducible refine gate_dst (N := 36) rfl ?_); go_must ((refine ev_cell rfl (N := 36) rfl 9 (.tmp 35) rfl ⟨b0, 1, none⟩ rfl (.string T.f1) _ ((Mine.blk_cells BXb0.out 1).trans rfl) Try.underlying9 rfl ?_)))
          | ((with_reducible refine gate_dst (N := 53) rfl ?_); go_must ((refine ev_cell rfl (N := 53) rfl 9 (.tmp 52) rfl ⟨b0, 1, none⟩ rfl (.string T.f1) _ ((Mine.blk_cells BXb0.out 1).trans rfl) Try.underlying9 rfl ?_)))
          | ((with_reducible refine gate_dst (N := 31) rfl ?_); go_must ((refine ev_cell rfl (N := 31) rfl 27 (.tmp 30) rfl ⟨b0, 3, none⟩ rfl (.slice A n c) _ ((Mine.blk_cells BXb0.out 3).trans rfl) Try.underlying27 rfl ?_)))
          | ((with_reducible refine gate_dst (N := 32) rfl ?_); go_must ((obtain ⟨hlt1, ad1, ap1, v1, eA, eP, hc, hVx⟩ := VK_kid EN.out VV.out K1.out; have EA1 := Aside0.mk eA; have EP1 := Aside0.mk eP; have HC1 := Aside0.mk hc; have VX1 := Aside0.mk hVx; clear eA eP hc hVx; refine ev_index rfl (N := 32) rfl 27 29 (.tmp 31) (.const (.int .i64 1)) rfl (ad := ad1) (n := n) (c := c) (k := 1) (sz := 5) (congrArg (fun A => Value.slice A n c) EA1.out) rfl hlt1 EP1.out Try.underlying27 info29s ?_)))
          | ((with_reducible refine gate_dst (N := 33) rfl ?_); go_must ((refine Mine.ev_load rfl (N := 33) rfl 29 (.tmp 32) rfl ap1 rfl (nc k1 v1) _ HC1.out Try.underlying29 rfl info29s ?_)))
          | ((with_reducible refine gate_dst (N := 34) rfl ?_); go_must ((refine goesL_ (some 34) rfl rfl Try.func89 (by kernel_rfl) rfl #[.pointer (some ⟨g, 0, none⟩), .agg (nc k1 v1).toArray] rfl (by (try simp only [List.map_toArray, List.map_cons, List.map_nil]); first | done | rfl) ?_; refine (HE.out HM.out (fun q hq => OK.out q hq.1) (fun q hq => OKV.out q hq.1) VA.out VX1.out H1.out).mono ?_; rintro e w1 ⟨rfl, he, hk⟩; refine ⟨_, rfl, ?_⟩; have n0 := Aside0.mk (he); have n1 := Aside0.mk (keep_keep HK.out hk); have n2 := Aside0.mk (keep_blk hk BXb0.out (by have := GBb0.out; have := GL.out; omega)); have n3 := Aside0.mk (Kd.V_keep VV.out hk (fun q hq => OK.out q hq.1)); have n4 := Aside0.mk (Kd.V_keep VA.out hk (fun q hq => OKV.out q hq.1)); clear HM HK BXb0 VV VA; have HM := n0; have HK := n1; have BXb0 := n2; have VV := n3; have VA := n4; clear n0 n1 n2 n3 n4; clear he hk HC1 VX1; have e40 := (Mine.blk_cells BXb0.out 1).trans (show _ = some (Value.string T.f1) from rfl))))
          | ((with_reducible refine gate_dst (N := 49) rfl ?_); go_must ((refine ev_cell rfl (N := 49) rfl 30 (.tmp 48) rfl ⟨g, 19, none⟩ rfl _ _ HM.out.c19 Try.underlying30 rfl ?_)))
          | ((with_reducible refine gate_dst (N := 56) rfl ?_); go_must ((refine goesL_ (some 56) rfl rfl Try.func121 (by kernel_rfl) rfl #[.pointer (some ⟨g, 0, none⟩), .string T.f1, .int .i64 a, .int .i64 b] rfl (by (try simp only [List.map_toArray, List.map_cons, List.map_nil]); first | done | rfl) ?_; refine (sum_calls HM.out HS.out).mono ?_; rintro e w1 ⟨rfl, he, hk⟩; refine ⟨_, rfl, ?_⟩; have n0 := Aside0.mk (he); have n1 := Aside0.mk (keep_keep HK.out hk); have n2 := Aside0.mk (keep_blk hk BXb0.out (by have := GBb0.out; have := GL.out; omega)); have n3 := Aside0.mk (Kd.V_keep VV.out hk (fun q hq => OK.out q hq.1)); have n4 := Aside0.mk (Kd.V_keep VA.out hk (fun q hq => OKV.out q hq.1)); clear HM HK BXb0 VV VA; have HM := n0; have HK := n1; have BXb0 := n2; have VV := n3; have VA := n4; clear n0 n1 n2 n3 n4; clear he hk))))
        go_ret
        exact ⟨rfl, HM.out, HK.out⟩
end Go.Proofs.Ytdiadmlgeojefaa.A
namespace Go.Proofs.Ytdiadmlgeojefaa.A
open Go.RowKit Go.Proofs.YtdiadmlgeojefaaW.PrintWords Go.Proofs.YtdiadmlgeojefaaW.PrintLast Go.Proofs.YtdiadmlgeojefaaW.PrintMore
set_option linter.unusedVariables false
set_option linter.unusedSimpArgs false
theorem two_n {f n : Nat} {rec : RecE} {xs : List S65} {w0 w : World} {g : Nat} {vv ov : Value} {m m' : Mst} {ok okv : Nat → Prop} {T : S29} {A : Option Addr} {c : Nat} {r : Int} (hn : n = T.f3.length) (hT : ExprSh f rec xs) (hM : MAt 94 w0 w g vv ov m) (hok : ∀ q, ok q → q ≠ g) (hokv : ∀ q, okv q → q ≠ g) (hVA : V65 w okv vv xs) (hV : VK w ok (.slice A T.f3.length c) T.f3) (h : rec m T = some (r, m')) :
    Calls Try.prog f #[.pointer (some ⟨g, 0, none⟩), .agg (nc T (.slice A n c)).toArray] w (MPost 94 w0 w g vv ov m' (.int .i64 r)) := by
  subst hn
  exact hT hM hok hokv hVA hV h
set_option maxHeartbeats 4000000 in
set_option maxRecDepth 100000 in
theorem mexpr_shows {rec : RecE} {xs : List S65} (hE : ExprSh 89 rec xs) (hl : xs.length ≤ 9223372036854775806) : ExprSh 89 (exprG xs rec) xs := by
  intro w0 w g vv ov m m' ok okv T v0 r hM hok hokv hVA hV h
  have HM := Aside0.mk hM
  have GL := Aside0.mk hM.lt
  have HK := Aside0.mk (KeepBut.refl w g none)
  clear hM
  have HE := Aside0.mk @hE
  have HT := Aside0.mk (p := ExprSh 107 (twoP rec) xs) (two_shows hE hl)
  clear hE
  unfold exprG at h
  have OK := Aside0.mk hok
  have OKV := Aside0.mk hokv
  have VV := Aside0.mk (Kd.V_bound hV)
  have VA := Aside0.mk (Kd.V_bound hVA)
  have HL := Aside0.mk hl
  obtain ⟨A, c, e0⟩ := Kd.V_slice hV
  subst e0
  obtain ⟨n, en⟩ : ∃ n_, n_ = T.f3.length := ⟨_, rfl⟩
  rw [← en]
  have EN := Aside0.mk en
  clear hV hVA hok hokv hl en
  obtain ⟨mb, emb⟩ : ∃ b_, b_ = (burnF m).2 := ⟨_, rfl⟩
  obtain ⟨bb, ebb⟩ : ∃ b_, b_ = (burnF m).1 := ⟨_, rfl⟩
  rw [← emb, ← ebb] at h
  have HBU := Aside0.mk (show ∀ {w1 : World}, MAt 94 w0 w1 g vv ov m → Calls Try.prog 68 #[.pointer (some ⟨g, 0, none⟩)] w1 (MPost 94 w0 w1 g vv ov mb (.bool bb)) by rw [emb, ebb]; exact fun hM => burn_calls hM)
  clear emb ebb
  cases bb
  · rw [if_neg (by decide)] at h
    simp only [Option.some.injEq, Prod.mk.injEq] at h
    obtain ⟨rfl, rfl⟩ := h
    go_enter Try.func89, Try.ntmps89
    go_wp2_with (first
      | ((with_reducible refine gate_dst (N := 3) rfl ?_); go_must ((refine Mine.ev_box rfl (N := 3) rfl (.tmp 1) rfl (nc (T) ((.slice A n c))) rfl ?_; intro b0 hbn w1 hblk hbel; have GBb0 := Aside0.mk (show w.heap.size ≤ b0 by have := HK.out.1; omega); have n0 := Aside0.mk (HM.out.below hbel); have n1 := Aside0.mk (keep_below HK.out hbel); have n2 := Aside0.mk (Kd.V_below VV.out hbel); have n3 := Aside0.mk (Kd.V_below VA.out hbel); clear HM HK VV VA; have HM := n0; have HK := n1; have VV := n2; have VA := n3; clear n0 n1 n2 n3; have BXb0 := Aside0.mk hblk; clear hblk hbel hbn)))
      | ((with_reducible refine gate_dst (N := 7) rfl ?_); go_must ((refine goesL_ (some 7) rfl rfl Try.func68 (by kernel_rfl) rfl #[.pointer (some ⟨g, 0, none⟩)] rfl (by (try simp only [List.map_toArray, List.map_cons, List.map_nil]); first | done | rfl) ?_; refine (HBU.out HM.out).mono ?_; rintro e w1 ⟨rfl, he, hk⟩; refine ⟨_, rfl, ?_⟩; have n0 := Aside0.mk (he); have n1 := Aside0.mk (keep_keep HK.out hk); have n2 := Aside0.mk (keep_blk hk BXb0.out (by have := GBb0.out; have := GL.out; omega)); have n3 := Aside0.mk (Kd.V_keep VV.out hk (fun q hq => OK.out q hq.1)); have n4 := Aside0.mk (Kd.V_keep VA.out hk (fun q hq => OKV.out q hq.1)); clear HM HK BXb0 VV VA; have HM := n0; have HK := n1; have BXb0 := n2; have VV := n3; have VA := n4; clear n0 n1 n2 n3 n4; clear he hk))))
    go_ret
    exact ⟨rfl, HM.out, HK.out⟩
  · rw [if_pos rfl] at h
    rcases Bool.eq_false_or_eq_true (T.f0 == 18) with c1 | c1
    · rw [if_pos c1] at h
      simp only [Option.some.injEq, Prod.mk.injEq] at h
      obtain ⟨rfl, rfl⟩ := h
      go_enter Try.func89, Try.ntmps89
      go_wp2_with (first
        | ((with_reducible refine gate_dst (N := 3) rfl ?_); go_must ((refine Mine.ev_box rfl (N := 3) rfl (.tmp 1) rfl (nc (T) ((.slice A n c))) rfl ?_; intro b0 hbn w1 hblk hbel; have GBb0 := Aside0.mk (show w.heap.size ≤ b0 by have := HK.out.1; omega); have n0 := Aside0.mk (HM.out.below hbel); have n1 := Aside0.mk (keep_below HK.out hbel); have n2 := Aside0.mk (Kd.V_below VV.out hbel); have n3 := Aside0.mk (Kd.V_below VA.out hbel); clear HM HK VV VA; have HM := n0; have HK := n1; have VV := n2; have VA := n3; clear n0 n1 n2 n3; have BXb0 := Aside0.mk hblk; clear hblk hbel hbn)))
        | ((with_reducible refine gate_dst (N := 7) rfl ?_); go_must ((refine goesL_ (some 7) rfl rfl Try.func68 (by kernel_rfl) rfl #[.pointer (some ⟨g, 0, none⟩)] rfl (by (try simp only [List.map_toArray, List.map_cons, List.map_nil]); first | done | rfl) ?_; refine (HBU.out HM.out).mono ?_; rintro e w1 ⟨rfl, he, hk⟩; refine ⟨_, rfl, ?_⟩; have n0 := Aside0.mk (he); have n1 := Aside0.mk (keep_keep HK.out hk); have n2 := Aside0.mk (keep_blk hk BXb0.out (by have := GBb0.out; have := GL.out; omega)); have n3 := Aside0.mk (Kd.V_keep VV.out hk (fun q hq => OK.out q hq.1)); have n4 := Aside0.mk (Kd.V_keep VA.out hk (fun q hq => OKV.out q hq.1)); clear HM HK BXb0 VV VA; have HM := n0; have HK := n1; have BXb0 := n2; have VV := n3; have VA := n4; clear n0 n1 n2 n3 n4; clear he hk)))
        | ((with_reducible refine gate_dst (N := 10) rfl ?_); go_must ((refine ev_cell rfl (N := 10) rfl 3 (.tmp 9) rfl ⟨b0, 0, none⟩ rfl (.int .i64 T.f0) _ ((Mine.blk_cells BXb0.out 0).trans rfl) Try.underlying3 rfl ?_)))
        | ((with_reducible refine gate_dst (N := 14) rfl ?_); go_must ((refine ev_cell rfl (N := 14) rfl 3 (.tmp 13) rfl ⟨b0, 2, none⟩ rfl (.int .i64 T.f2) _ ((Mine.blk_cells BXb0.out 2).trans rfl) Try.underlying3 rfl ?_))))
      go_ret
      exact ⟨rfl, HM.out, HK.out⟩
    · rw [if_neg (by rw [c1]; decide)] at h
      rcases Bool.eq_false_or_eq_true (T.f0 == 19) with c2 | c2
      · rw [if_pos c2] at h
        simp only [Option.some.injEq, Prod.mk.injEq] at h
        obtain ⟨rfl, rfl⟩ := h
        go_enter Try.func89, Try.ntmps89
        go_wp2_with (first
          | ((with_reducible refine gate_dst (N := 3) rfl ?_); go_must ((refine Mine.ev_box rfl (N := 3) rfl (.tmp 1) rfl (nc (T) ((.slice A n c))) rfl ?_; intro b0 hbn w1 hblk hbel; have GBb0 := Aside0.mk (show w.heap.size ≤ b0 by have := HK.out.1; omega); have n0 := Aside0.mk (HM.out.below hbel); have n1 := Aside0.mk (keep_below HK.out hbel); have n2 := Aside0.mk (Kd.V_below VV.out hbel); have n3 := Aside0.mk (Kd.V_below VA.out hbel); clear HM HK VV VA; have HM := n0; have HK := n1; have VV := n2; have VA := n3; clear n0 n1 n2 n3; have BXb0 := Aside0.mk hblk; clear hblk hbel hbn)))
          | ((with_reducible refine gate_dst (N := 7) rfl ?_); go_must ((refine goesL_ (some 7) rfl rfl Try.func68 (by kernel_rfl) rfl #[.pointer (some ⟨g, 0, none⟩)] rfl (by (try simp only [List.map_toArray, List.map_cons, List.map_nil]); first | done | rfl) ?_; refine (HBU.out HM.out).mono ?_; rintro e w1 ⟨rfl, he, hk⟩; refine ⟨_, rfl, ?_⟩; have n0 := Aside0.mk (he); have n1 := Aside0.mk (keep_keep HK.out hk); have n2 := Aside0.mk (keep_blk hk BXb0.out (by have := GBb0.out; have := GL.out; omega)); have n3 := Aside0.mk (Kd.V_keep VV.out hk (fun q hq => OK.out q hq.1)); have n4 := Aside0.mk (Kd.V_keep VA.out hk (fun q hq => OKV.out q hq.1)); clear HM HK BXb0 VV VA; have HM := n0; have HK := n1; have BXb0 := n2; have VV := n3; have VA := n4; clear n0 n1 n2 n3 n4; clear he hk)))
          | ((with_reducible refine gate_dst (N := 10) rfl ?_); go_must ((refine ev_cell rfl (N := 10) rfl 3 (.tmp 9) rfl ⟨b0, 0, none⟩ rfl (.int .i64 T.f0) _ ((Mine.blk_cells BXb0.out 0).trans rfl) Try.underlying3 rfl ?_)))
          | ((with_reducible refine gate_dst (N := 19) rfl ?_); go_must ((refine ev_cell rfl (N := 19) rfl 9 (.tmp 18) rfl ⟨b0, 1, none⟩ rfl (.string T.f1) _ ((Mine.blk_cells BXb0.out 1).trans rfl) Try.underlying9 rfl ?_)))
          | ((with_reducible refine gate_dst (N := 20) rfl ?_); go_must ((refine goesL_ (some 20) rfl rfl Try.func106 (by kernel_rfl) rfl #[.pointer (some ⟨g, 0, none⟩), .string T.f1] rfl (by (try simp only [List.map_toArray, List.map_cons, List.map_nil]); first | done | rfl) ?_; refine (name_calls HM.out VA.out HL.out T.f1).mono ?_; rintro e w1 ⟨rfl, hbel⟩; refine ⟨_, rfl, ?_⟩; have n0 := Aside0.mk (HM.out.below hbel); have n1 := Aside0.mk (keep_below HK.out hbel); have n2 := Aside0.mk (below_blk hbel BXb0.out); have n3 := Aside0.mk (Kd.V_below VV.out hbel); have n4 := Aside0.mk (Kd.V_below VA.out hbel); clear HM HK BXb0 VV VA; have HM := n0; have HK := n1; have BXb0 := n2; have VV := n3; have VA := n4; clear n0 n1 n2 n3 n4; clear hbel))))
        go_ret
        exact ⟨rfl, HM.out, HK.out⟩
      · rw [if_neg (by rw [c2]; decide)] at h
        rcases Bool.eq_false_or_eq_true (T.f0 == 20) with c3 | c3
        · rw [if_pos c3] at h
          have H2 := Aside0.mk h
          clear h
          go_enter Try.func89, Try.ntmps89
          go_wp2_with (first
            | ((with_reducible refine gate_dst (N := 3) rfl ?_); go_must ((refine Mine.ev_box rfl (N := 3) rfl (.tmp 1) rfl (nc (T) ((.slice A n c))) rfl ?_; intro b0 hbn w1 hblk hbel; have GBb0 := Aside0.mk (show w.heap.size ≤ b0 by have := HK.out.1; omega); have n0 := Aside0.mk (HM.out.below hbel); have n1 := Aside0.mk (keep_below HK.out hbel); have n2 := Aside0.mk (Kd.V_below VV.out hbel); have n3 := Aside0.mk (Kd.V_below VA.out hbel); clear HM HK VV VA; have HM := n0; have HK := n1; have VV := n2; have VA := n3; clear n0 n1 n2 n3; have BXb0 := Aside0.mk hblk; clear hblk hbel hbn)))
            | ((with_reducible refine gate_dst (N := 7) rfl ?_); go_must ((refine goesL_ (some 7) rfl rfl Try.func68 (by kernel_rfl) rfl #[.pointer (some ⟨g, 0, none⟩)] rfl (by (try simp only [List.map_toArray, List.map_cons, List.map_nil]); first | done | rfl) ?_; refine (HBU.out HM.out).mono ?_; rintro e w1 ⟨rfl, he, hk⟩; refine ⟨_, rfl, ?_⟩; have n0 := Aside0.mk (he); have n1 := Aside0.mk (keep_keep HK.out hk); have n2 := Aside0.mk (keep_blk hk BXb0.out (by have := GBb0.out; have := GL.out; omega)); have n3 := Aside0.mk (Kd.V_keep VV.out hk (fun q hq => OK.out q hq.1)); have n4 := Aside0.mk (Kd.V_keep VA.out hk (fun q hq => OKV.out q hq.1)); clear HM HK BXb0 VV VA; have HM := n0; have HK := n1; have BXb0 := n2; have VV := n3; have VA := n4; clear n0 n1 n2 n3 n4; clear he hk)))
            | ((with_reducible refine gate_dst (N := 10) rfl ?_); go_must ((refine ev_cell rfl (N := 10) rfl 3 (.tmp 9) rfl ⟨b0, 0, none⟩ rfl (.int .i64 T.f0) _ ((Mine.blk_cells BXb0.out 0).trans rfl) Try.underlying3 rfl ?_)))
            | ((with_reducible refine gate_dst (N := 24) rfl ?_); go_must ((refine ev_load29 rfl (N := 24) rfl (.tmp 3) rfl (b := b0) rfl BXb0.out ?_)))
            | ((with_reducible refine gate_dst (N := 25) rfl ?_); go_must ((refine goesL_ (some 25) rfl rfl Try.func107 (by kernel_rfl) rfl #[.pointer (some ⟨g, 0, none⟩), .agg (nc T (.slice A n c)).toArray] rfl (by (try simp only [List.map_toArray, List.map_cons, List.map_nil]); first | done | rfl) ?_; refine (two_n EN.out HT.out HM.out (fun q hq => OK.out q hq.1) (fun q hq => OKV.out q hq.1) VA.out VV.out H2.out).mono ?_; rintro e w1 ⟨rfl, he, hk⟩; refine ⟨_, rfl, ?_⟩; have n0 := Aside0.mk (he); have n1 := Aside0.mk (keep_keep HK.out hk); have n2 := Aside0.mk (keep_blk hk BXb0.out (by have := GBb0.out; have := GL.out; omega)); have n3 := Aside0.mk (Kd.V_keep VV.out hk (fun q hq => OK.out q hq.1)); have n4 := Aside0.mk (Kd.V_keep VA.out hk (fun q hq => OKV.out q hq.1)); clear HM HK BXb0 VV VA; have HM := n0; have HK := n1; have BXb0 := n2; have VV := n3; have VA := n4; clear n0 n1 n2 n3 n4; clear he hk))))
          go_ret
          exact ⟨rfl, HM.out, HK.out⟩
        · rw [if_neg (by rw [c3]; decide)] at h
          obtain ⟨k0, hk0, h⟩ := Option.bind_eq_some_iff.1 h
          obtain ⟨⟨a, m1⟩, h0, h⟩ := Option.bind_eq_some_iff.1 h
          have K0 := Aside0.mk hk0
          have H0 := Aside0.mk h0
          clear hk0 h0
          simp only at h
          rcases Bool.eq_false_or_eq_true (T.f1.toList == [33]) with c4 | c4
          · rw [if_pos c4] at h
            simp only [Option.some.injEq, Prod.mk.injEq] at h
            obtain ⟨rfl, rfl⟩ := h
            go_enter Try.func89, Try.ntmps89
            go_wp2_with (first
              | ((with_reducible refine gate_dst (N := 3) rfl ?_); go_must ((refine Mine.ev_box rfl (N := 3) rfl (.tmp 1) rfl (nc (T) ((.slice A n c))) rfl ?_; intro b0 hbn w1 hblk hbel; have GBb0 := Aside0.mk (show w.heap.size ≤ b0 by have := HK.out.1; omega); have n0 := Aside0.mk (HM.out.below hbel); have n1 := Aside0.mk (keep_below HK.out hbel); have n2 := Aside0.mk (Kd.V_below VV.out hbel); have n3 := Aside0.mk (Kd.V_below VA.out hbel); clear HM HK VV VA; have HM := n0; have HK := n1; have VV := n2; have VA := n3; clear n0 n1 n2 n3; have BXb0 := Aside0.mk hblk; clear hblk hbel hbn)))
              | ((with_reducible refine gate_dst (N := 7) rfl ?_); go_must ((refine goesL_ (some 7) rfl rfl Try.func68 (by kernel_rfl) rfl #[.pointer (some ⟨g, 0, none⟩)] rfl (by (try simp only [List.map_toArray, List.map_cons, List.map_nil]); first | done | rfl) ?_; refine (HBU.out HM.out).mono ?_; rintro e w1 ⟨rfl, he, hk⟩; refine ⟨_, rfl, ?_⟩; have n0 := Aside0.mk (he); have n1 := Aside0.mk (keep_keep HK.out hk); have n2 := Aside0.mk (keep_blk hk BXb0.out (by have := GBb0.out; have := GL.out; omega)); have n3 := Aside0.mk (Kd.V_keep VV.out hk (fun q hq => OK.out q hq.1)); have n4 := Aside0.mk (Kd.V_keep VA.out hk (fun q hq => OKV.out q hq.1)); clear HM HK BXb0 VV VA; have HM := n0; have HK := n1; have BXb0 := n2; have VV := n3; have VA := n4; clear n0 n1 n2 n3 n4; clear he hk)))
              | ((with_reducible refine gate_dst (N := 10) rfl ?_); go_must ((refine ev_cell rfl (N := 10) rfl 3 (.tmp 9) rfl ⟨b0, 0, none⟩ rfl (.int .i64 T.f0) _ ((Mine.blk_cells BXb0.out 0).trans rfl) Try.underlying3 rfl ?_)))
              | ((with_reducible refine gate_dst (N := 28) rfl ?_); go_must ((refine ev_cell rfl (N := 28) rfl 27 (.tmp 27) rfl ⟨b0, 3, none⟩ rfl (.slice A n c) _ ((Mine.blk_cells BXb0.out 3).trans rfl) Try.underlying27 rfl ?_)))
              | ((with_reducible refine gate_dst (N := 29) rfl ?_); go_must ((obtain ⟨hlt0, ad0, ap0, v0, eA, eP, hc, hVx⟩ := VK_kid EN.out VV.out K0.out; have EA0 := Aside0.mk eA; have EP0 := Aside0.mk eP; have HC0 := Aside0.mk hc; have VX0 := Aside0.mk hVx; clear eA eP hc hVx; refine ev_index rfl (N := 29) rfl 27 29 (.tmp 28) (.const (.int .i64 0)) rfl (ad := ad0) (n := n) (c := c) (k := 0) (sz := 5) (congrArg (fun A => Value.slice A n c) EA0.out) rfl hlt0 EP0.out Try.underlying27 info29s ?_)))
              | ((with_reducible refine gate_dst (N := 30) rfl ?_); go_must ((refine Mine.ev_load rfl (N := 30) rfl 29 (.tmp 29) rfl ap0 rfl (nc k0 v0) _ HC0.out Try.underlying29 rfl info29s ?_)))
              | ((with_reducible refine gate_dst (N := 31) rfl ?_); go_must ((refine goesL_ (some 31) rfl rfl Try.func89 (by kernel_rfl) rfl #[.pointer (some ⟨g, 0, none⟩), .agg (nc k0 v0).toArray] rfl (by (try simp only [List.map_toArray, List.map_cons, List.map_nil]); first | done | rfl) ?_; refine (HE.out HM.out (fun q hq => OK.out q hq.1) (fun q hq => OKV.out q hq.1) VA.out VX0.out H0.out).mono ?_; rintro e w1 ⟨rfl, he, hk⟩; refine ⟨_, rfl, ?_⟩; have n0 := Aside0.mk (he); have n1 := Aside0.mk (keep_keep HK.out hk); have n2 := Aside0.mk (keep_blk hk BXb0.out (by have := GBb0.out; have := GL.out; omega)); have n3 := Aside0.mk (Kd.V_keep VV.out hk (fun q hq => OK.out q hq.1)); have n4 := Aside0.mk (Kd.V_keep VA.out hk (fun q hq => OKV.out q hq.1)); clear HM HK BXb0 VV VA; have HM := n0; have HK := n1; have BXb0 := n2; have VV := n3; have VA := n4; clear n0 n1 n2 n3 n4; clear he hk HC0 VX0)))
              | ((with_reducible refine gate_dst (N := 33) rfl ?_); go_must ((refine ev_cell rfl (N := 33) rfl 9 (.tmp 32) rfl ⟨b0, 1, none⟩ rfl (.string T.f1) _ ((Mine.blk_cells BXb0.out 1).trans rfl) Try.underlying9 rfl ?_)))
              | ((with_reducible refine gate_dst (N := 37) rfl ?_); go_must ((refine goesL_ (some 37) rfl rfl Try.func108 (by kernel_rfl) rfl #[.bool (a == 0)] rfl (by (try simp only [List.map_toArray, List.map_cons, List.map_nil]); first | done | rfl) ?_; refine (eval_truth.calls _ _ _ (truthF_some _)).mono ?_; rintro e w1 ⟨rfl, hd9⟩; refine ⟨_, rfl, ?_⟩; have hbel := hd9.below; clear hd9; have n0 := Aside0.mk (HM.out.below hbel); have n1 := Aside0.mk (keep_below HK.out hbel); have n2 := Aside0.mk (below_blk hbel BXb0.out); have n3 := Aside0.mk (Kd.V_below VV.out hbel); have n4 := Aside0.mk (Kd.V_below VA.out hbel); clear HM HK BXb0 VV VA; have HM := n0; have HK := n1; have BXb0 := n2; have VV := n3; have VA := n4; clear n0 n1 n2 n3 n4; clear hbel))))
            go_ret
            exact ⟨rfl, HM.out, HK.out⟩
          · rw [if_neg (by rw [c4]; decide)] at h
            simp only [Option.some.injEq, Prod.mk.injEq] at h
            obtain ⟨rfl, rfl⟩ := h
            go_enter Try.func89, Try.ntmps89
            go_wp2_with (first
              | ((with_reducible refine gate_dst (N := 3) rfl ?_); go_must ((refine Mine.ev_box rfl (N := 3) rfl (.tmp 1) rfl (nc (T) ((.slice A n c))) rfl ?_; intro b0 hbn w1 hblk hbel; have GBb0 := Aside0.mk (show w.heap.size ≤ b0 by have := HK.out.1; omega); have n0 := Aside0.mk (HM.out.below hbel); have n1 := Aside0.mk (keep_below HK.out hbel); have n2 := Aside0.mk (Kd.V_below VV.out hbel); have n3 := Aside0.mk (Kd.V_below VA.out hbel); clear HM HK VV VA; have HM := n0; have HK := n1; have VV := n2; have VA := n3; clear n0 n1 n2 n3; have BXb0 := Aside0.mk hblk; clear hblk hbel hbn)))
              | ((with_reducible refine gate_dst (N := 7) rfl ?_); go_must ((refine goesL_ (some 7) rfl rfl Try.func68 (by kernel_rfl) rfl #[.pointer (some ⟨g, 0, none⟩)] rfl (by (try simp only [List.map_toArray, List.map_cons, List.map_nil]); first | done | rfl) ?_; refine (HBU.out HM.out).mono ?_; rintro e w1 ⟨rfl, he, hk⟩; refine ⟨_, rfl, ?_⟩; have n0 := Aside0.mk (he); have n1 := Aside0.mk (keep_keep HK.out hk); have n2 := Aside0.mk (keep_blk hk BXb0.out (by have := GBb0.out; have := GL.out; omega)); have n3 := Aside0.mk (Kd.V_keep VV.out hk (fun q hq => OK.out q hq.1)); have n4 := Aside0.mk (Kd.V_keep VA.out hk (fun q hq => OKV.out q hq.1)); clear HM HK BXb0 VV VA; have HM := n0; have HK := n1; have BXb0 := n2; have VV := n3; have VA := n4; clear n0 n1 n2 n3 n4; clear he hk)))
              | ((with_reducible refine gate_dst (N := 10) rfl ?_); go_must ((refine ev_cell rfl (N := 10) rfl 3 (.tmp 9) rfl ⟨b0, 0, none⟩ rfl (.int .i64 T.f0) _ ((Mine.blk_cells BXb0.out 0).trans rfl) Try.underlying3 rfl ?_)))
              | ((with_reducible refine gate_dst (N := 28) rfl ?_); go_must ((refine ev_cell rfl (N := 28) rfl 27 (.tmp 27) rfl ⟨b0, 3, none⟩ rfl (.slice A n c) _ ((Mine.blk_cells BXb0.out 3).trans rfl) Try.underlying27 rfl ?_)))
              | ((with_reducible refine gate_dst (N := 29) rfl ?_); go_must ((obtain ⟨hlt0, ad0, ap0, v0, eA, eP, hc, hVx⟩ := VK_kid EN.out VV.out K0.out; have EA0 := Aside0.mk eA; have EP0 := Aside0.mk eP; have HC0 := Aside0.mk hc; have VX0 := Aside0.mk hVx; clear eA eP hc hVx; refine ev_index rfl (N := 29) rfl 27 29 (.tmp 28) (.const (.int .i64 0)) rfl (ad := ad0) (n := n) (c := c) (k := 0) (sz := 5) (congrArg (fun A => Value.slice A n c) EA0.out) rfl hlt0 EP0.out Try.underlying27 info29s ?_)))
              | ((with_reducible refine gate_dst (N := 30) rfl ?_); go_must ((refine Mine.ev_load rfl (N := 30) rfl 29 (.tmp 29) rfl ap0 rfl (nc k0 v0) _ HC0.out Try.underlying29 rfl info29s ?_)))
              | ((with_reducible refine gate_dst (N := 31) rfl ?_); go_must ((refine goesL_ (some 31) rfl rfl Try.func89 (by kernel_rfl) rfl #[.pointer (some ⟨g, 0, none⟩), .agg (nc k0 v0).toArray] rfl (by (try simp only [List.map_toArray, List.map_cons, List.map_nil]); first | done | rfl) ?_; refine (HE.out HM.out (fun q hq => OK.out q hq.1) (fun q hq => OKV.out q hq.1) VA.out VX0.out H0.out).mono ?_; rintro e w1 ⟨rfl, he, hk⟩; refine ⟨_, rfl, ?_⟩; have n0 := Aside0.mk (he); have n1 := Aside0.mk (keep_keep HK.out hk); have n2 := Aside0.mk (keep_blk hk BXb0.out (by have := GBb0.out; have := GL.out; omega)); have n3 := Aside0.mk (Kd.V_keep VV.out hk (fun q hq => OK.out q hq.1)); have n4 := Aside0.mk (Kd.V_keep VA.out hk (fun q hq => OKV.out q hq.1)); clear HM HK BXb0 VV VA; have HM := n0; have HK := n1; have BXb0 := n2; have VV := n3; have VA := n4; clear n0 n1 n2 n3 n4; clear he hk HC0 VX0)))
              | ((with_reducible refine gate_dst (N := 33) rfl ?_); go_must ((refine ev_cell rfl (N := 33) rfl 9 (.tmp 32) rfl ⟨b0, 1, none⟩ rfl (.string T.f1) _ ((Mine.blk_cells BXb0.out 1).trans rfl) Try.underlying9 rfl ?_))))
            go_ret
            exact ⟨rfl, HM.out, HK.out⟩
theorem exprs_sh {xs : List S65} (hl : xs.length ≤ 9223372036854775806) : ∀ k, ExprSh 89 (exprP xs k) xs
  | 0 => fun _ _ _ _ _ h => by cases h
  | k + 1 => mexpr_shows (exprs_sh hl k) hl
end Go.Proofs.Ytdiadmlgeojefaa.A
namespace Go.Proofs.Ytdiadmlgeojefaa.A
open Go.RowKit Go.Proofs.YtdiadmlgeojefaaW.PrintWords Go.Proofs.YtdiadmlgeojefaaW.PrintLast Go.Proofs.YtdiadmlgeojefaaW.PrintMore
set_option linter.unusedVariables false
set_option linter.unusedSimpArgs false
structure Sg where
  m : Mst
  xs : List S65
  ds : List S61
def Mb (ty : Nat) (w : World) (i : Nat) : Prop := ∃ cs t, w.heap[i]? = some (.cells cs t (0, 0)) ∧ (t = ty ∨ t = 65 ∨ t = 61)
def Fr (ty : Nat) (w0 w W : World) : Prop := w.heap.size ≤ W.heap.size ∧ ∀ i, i < w.heap.size → (i < w0.heap.size ∨ ¬ Mb ty w i) → W.heap[i]? = w.heap[i]?
structure SAo (ty : Nat) (w0 W : World) (g : Nat) (vv ov : Value) (s : Sg) : Prop where
  hty : ty = 94 ∨ ty = 97
  hm : MAt ty w0 W g vv ov s.m
  hx : Kd.N k65 65 W w0.heap.size (fun k => some k = vv.ownBlock) vv s.xs
  hd : ∃ okd : Nat → Prop, (∀ k, okd k → w0.heap.size ≤ k ∧ ∃ cs t, W.heap[k]? = some (.cells cs t (0, 0)) ∧ (t = 61 ∨ t = 122)) ∧ Kd.N k61 61 W w0.heap.size okd ov s.ds
  hl : s.xs.length ≤ 9223372036854775806
def SAt (ty : Nat) (w0 W : World) (g : Nat) (s : Sg) : Prop := ∃ vv ov, SAo ty w0 W g vv ov s
section
variable {ty g b k : Nat} {w0 w W W1 : World} {vv ov : Value} {s : Sg} {m : Mst}
theorem SAo.step (h : SAo ty w0 W g vv ov s) (hM : MAt ty w0 W1 g vv ov m) (hk : ∀ k, k < W.heap.size → (∃ cs t, W.heap[k]? = some (.cells cs t (0, 0)) ∧ (t = 65 ∨ t = 61 ∨ t = 122)) → W1.heap[k]? = W.heap[k]?) : SAo ty w0 W1 g vv ov { s with m := m } := by
  refine ⟨h.hty, hM, Kd.N_step h.hx (fun k ho hlt => ?_), ?_, h.hl⟩
  · obtain ⟨cs, hcs⟩ := Kd.N_typed h.hx k ho.symm
    exact hk k hlt ⟨cs, 65, hcs, .inl rfl⟩
  · obtain ⟨okd, h1, h2⟩ := h.hd
    have h3 : ∀ k, okd k → W1.heap[k]? = W.heap[k]? := fun k ho => by
      obtain ⟨_, cs, t, hc, ht⟩ := h1 k ho
      exact hk k (blk_lt hc) ⟨cs, t, hc, .inr ht⟩
    exact ⟨okd, fun k ho => ⟨(h1 k ho).1, by rw [h3 k ho]; exact (h1 k ho).2⟩, Kd.N_step h2 (fun k ho _ => h3 k ho)⟩
theorem SAo.below (h : SAo ty w0 W g vv ov s) (hb : Below W.heap.size W W1) : SAo ty w0 W1 g vv ov s := h.step (h.hm.below hb) (fun k hk _ => hb.block k hk)
theorem SAt.below (h : SAt ty w0 W g s) (hb : Below W.heap.size W W1) : SAt ty w0 W1 g s := by
  obtain ⟨vv, ov, h⟩ := h
  exact ⟨vv, ov, h.below hb⟩
theorem SAo.grown {t : Nat} {cs : Array Value} (h : SAo ty w0 W g vv ov s) (hg : W.grownBy W1 (some b)) (hb : W.heap[b]? = some (.cells cs t (0, 0))) (ht : t ≠ 94 ∧ t ≠ 97 ∧ t ≠ 65 ∧ t ≠ 61 ∧ t ≠ 122) (h0 : w0.heap.size ≤ b) : SAo ty w0 W1 g vv ov s := by
  refine h.step (h.hm.grown hg (fun e => ?_) h0) (fun k hk h1 => hg.block k hk (fun e => ?_))
  · subst e
    rw [h.hm.blk] at hb
    injection hb with hb
    injection hb with _ e
    have h9 := h.hty
    simp only [ne_eq] at ht
    rcases h9 with h9 | h9
    · exact ht.1 (e.symm.trans h9)
    · exact ht.2.1 (e.symm.trans h9)
  · injection e with e
    subst e
    obtain ⟨cs2, t2, hc, h2⟩ := h1
    rw [hb] at hc
    injection hc with hc
    injection hc with _ e
    subst e
    rcases h2 with h2 | h2 | h2
    · exact ht.2.2.1 h2
    · exact ht.2.2.2.1 h2
    · exact ht.2.2.2.2 h2
theorem SAt.grown {t : Nat} {cs : Array Value} (h : SAt ty w0 W g s) (hg : W.grownBy W1 (some b)) (hb : W.heap[b]? = some (.cells cs t (0, 0))) (ht : t ≠ 94 ∧ t ≠ 97 ∧ t ≠ 65 ∧ t ≠ 61 ∧ t ≠ 122) (h0 : w0.heap.size ≤ b) : SAt ty w0 W1 g s := by
  obtain ⟨vv, ov, h⟩ := h
  exact ⟨vv, ov, h.grown hg hb ht h0⟩
theorem SAo.keep (h : SAo ty w0 W g vv ov s) (hM : MAt ty w0 W1 g vv ov m) (hk : KeepBut W W1 g none) : SAo ty w0 W1 g vv ov { s with m := m } :=
  h.step hM (fun k hlt h1 => hk.2 k hlt (fun e => by
    subst e
    obtain ⟨cs2, t2, hc, h2⟩ := h1
    rw [h.hm.blk] at hc
    injection hc with hc
    injection hc with _ e
    have h9 := h.hty
    rw [e] at h9
    rcases h9 with rfl | rfl <;> revert h2 <;> decide) (by simp))
theorem SAt.e_cell (h : SAt ty w0 W g s) : W.cell? ⟨g, 19, none⟩ = some (.int .i64 s.m.e) := by
  obtain ⟨vv, ov, h⟩ := h
  exact h.hm.c19
theorem SAt.bel (h : SAt ty w0 W g s) : Below w0.heap.size w0 W := by
  obtain ⟨vv, ov, h⟩ := h
  exact h.hm.bel
theorem SAt.ge (h : SAt ty w0 W g s) : w0.heap.size ≤ g := by
  obtain ⟨vv, ov, h⟩ := h
  exact h.hm.ge
theorem Fr.refl : Fr ty w0 w w := ⟨Nat.le_refl _, fun _ _ _ => rfl⟩
theorem Fr.trans (h : Fr ty w0 w W) (k : Fr ty w0 W W1) : Fr ty w0 w W1 := by
  refine ⟨Nat.le_trans h.1 k.1, fun i hi h1 => ?_⟩
  have h2 := h.2 i hi h1
  refine (k.2 i (Nat.lt_of_lt_of_le hi h.1) ?_).trans h2
  rcases h1 with h1 | h1
  · exact .inl h1
  · refine .inr (fun h3 => h1 ?_)
    obtain ⟨cs, t, hc, ht⟩ := h3
    exact ⟨cs, t, by rw [← h2]; exact hc, ht⟩
theorem Fr.of_below (hb : Below W.heap.size W W1) : Fr ty w0 W W1 := ⟨hb.size, fun i hi _ => hb.block i hi⟩
theorem Fr.below (h : Fr ty w0 w W) (hb : Below W.heap.size W W1) : Fr ty w0 w W1 := h.trans (Fr.of_below hb)
theorem Fr.grown (h : Fr ty w0 w W) (hg : W.grownBy W1 (some b)) (hb : w.heap.size ≤ b) : Fr ty w0 w W1 :=
  ⟨Nat.le_trans h.1 hg.size, fun i hi h1 => (hg.block i (Nat.lt_of_lt_of_le hi h.1) (by intro e; injection e with e; omega)).trans (h.2 i hi h1)⟩
theorem Fr.of_keep (hM : MAt ty w0 W g vv ov m) (hk : KeepBut W W1 g none) : Fr ty w0 W W1 :=
  ⟨hk.1, fun i hi h1 => hk.2 i hi (fun e => by
    subst e
    rcases h1 with h1 | h1
    · have := hM.ge
      omega
    · exact h1 ⟨_, _, hM.blk, .inl rfl⟩) (by simp)⟩
theorem Fr.blk {t : Nat} {cs : Array Value} (h : Fr ty w0 W W1) (hty : ty = 94 ∨ ty = 97) (hb : W.heap[b]? = some (.cells cs t (0, 0))) (ht : t ≠ 94 ∧ t ≠ 97 ∧ t ≠ 65 ∧ t ≠ 61 ∧ t ≠ 122) : W1.heap[b]? = some (.cells cs t (0, 0)) := by
  refine (h.2 b (blk_lt hb) (.inr (fun h1 => ?_))).trans hb
  obtain ⟨cs2, t2, hc, h2⟩ := h1
  rw [hb] at hc
  injection hc with hc
  injection hc with _ e
  subst e
  rcases h2 with h2 | h2 | h2
  · subst h2
    rcases hty with h | h
    · exact ht.1 h
    · exact ht.2.1 h
  · exact ht.2.2.1 h2
  · exact ht.2.2.2.1 h2
theorem VK_up {ok : Nat → Prop} {v : Value} {xs : List S29} (hb : Below w0.heap.size w0 W) (h : VK w0 ok v xs) : VK W (fun q => ok q ∧ q < w0.heap.size) v xs := Kd.V_step (Kd.V_bound h) (fun k hk _ => hb.block k hk.2)
end
def SP (ty : Nat) (w0 w : World) (g : Nat) (s : Sg) (r : Value) (x : Ending) (w' : World) : Prop := x = .returned r ∧ SAt ty w0 w' g s ∧ Fr ty w0 w w'
theorem SP.of {ty : Nat} {w0 w w' : World} {g : Nat} {vv ov : Value} {s : Sg} {m : Mst} {r : Value} {x : Ending} (h : SAo ty w0 w g vv ov s) (hp : MPost ty w0 w g vv ov m r x w') : SP ty w0 w g { s with m := m } r x w' :=
  ⟨hp.1, ⟨vv, ov, h.keep hp.2.1 hp.2.2⟩, Fr.of_keep h.hm hp.2.2⟩
theorem s_expr {w0 w : World} {g k : Nat} {s : Sg} {m : Mst} {ok : Nat → Prop} {v : Value} {T : S29} {r : Int} (hS : SAt 94 w0 w g s) (hV : VK w0 ok v T.f3) (h : exprP s.xs k s.m T = some (r, m)) :
    Calls Try.prog 89 #[.pointer (some ⟨g, 0, none⟩), .agg (nc T v).toArray] w (SP 94 w0 w g { s with m := m } (.int .i64 r)) := by
  obtain ⟨vv, ov, hS⟩ := hS
  exact (exprs_sh hS.hl k hS.hm (fun q hq e => by have h9 : q < w0.heap.size := hq.2; have := hS.hm.ge; omega) (fun q hq e => Kd.N_ne hS.hx hS.hm.blk (by rcases hS.hty with h | h <;> omega) (by rw [← e]; exact hq)) (Kd.N_V (base' := 0) hS.hx) (VK_up hS.hm.bel hV) h).mono (fun x w' hp => SP.of hS hp)
theorem s_at {w0 w : World} {g : Nat} {s : Sg} (hS : SAt 94 w0 w g s) (t : ByteArray) : Calls Try.prog 105 #[.pointer (some ⟨g, 0, none⟩), .string t] w (AtPost w (atF s.xs t)) := by
  obtain ⟨vv, ov, hS⟩ := hS
  exact at_calls hS.hm (Kd.N_V (base' := 0) hS.hx) hS.hl t
theorem s_burn {w0 w : World} {g : Nat} {s : Sg} (hS : SAt 94 w0 w g s) : Calls Try.prog 68 #[.pointer (some ⟨g, 0, none⟩)] w (SP 94 w0 w g { s with m := (burnF s.m).2 } (.bool (burnF s.m).1)) := by
  obtain ⟨vv, ov, hS⟩ := hS
  exact (burn_calls hS.hm).mono (fun x w' hp => SP.of hS hp)
theorem s_fail {w0 w : World} {g : Nat} {s : Sg} (hS : SAt 94 w0 w g s) (n : Int) : Calls Try.prog 92 #[.pointer (some ⟨g, 0, none⟩), .int .i64 n] w (SP 94 w0 w g { s with m := mfail s.m n } (.tuple #[])) := by
  obtain ⟨vv, ov, hS⟩ := hS
  exact (mfail_calls hS.hm n).mono (fun x w' hp => SP.of hS hp)
end Go.Proofs.Ytdiadmlgeojefaa.A
namespace Go.Proofs.Ytdiadmlgeojefaa.A
open Go.RowKit Go.Proofs.YtdiadmlgeojefaaW.PrintWords Go.Proofs.YtdiadmlgeojefaaW.PrintLast Go.Proofs.YtdiadmlgeojefaaW.PrintMore
set_option linter.unusedVariables false
set_option linter.unusedSimpArgs false
theorem w64_in {n : Int} (h : -9223372036854775808 ≤ n ∧ n ≤ 9223372036854775807) : wrap64 n = n := by unfold wrap64; omega
theorem cell_up {w0 W : World} (h : Below w0.heap.size w0 W) {a : Addr} {v : Value} (hc : w0.cell? a = some v) : W.cell? a = some v := pw_cell_below h hc
def setV (s : Sg) (t : ByteArray) (a : Int) : Sg := if decide (0 ≤ atF s.xs t) = true then (if (s.m.e == 0) = true then { s with xs := s.xs.set (atF s.xs t).toNat ⟨(s.xs.getD (atF s.xs t).toNat z65).f0, a⟩ } else s) else s
def setP (k : Nat) (s : Sg) (T : S29) : Option Sg := T.f3[0]?.bind fun k0 => (exprP s.xs k s.m k0).bind fun a => some (setV { s with m := a.2 } T.f1 a.1)
def stmtsP (stm : Sg → S29 → Option Sg) : Sg → List S29 → Option Sg
  | s, [] => some s
  | s, T :: r => (if (burnF s.m).1 = true then stm { s with m := (burnF s.m).2 } T else some { s with m := (burnF s.m).2 }).bind fun s2 => stmtsP stm s2 r
theorem stmtsP_drop (stm : Sg → S29 → Option Sg) (s : Sg) (xs : List S29) {k : Nat} (hk : k < xs.length) : stmtsP stm s (xs.drop k) = (if (burnF s.m).1 = true then stm { s with m := (burnF s.m).2 } xs[k] else some { s with m := (burnF s.m).2 }).bind fun s2 => stmtsP stm s2 (xs.drop (k + 1)) := by
  rw [List.drop_eq_getElem_cons hk]
  rfl
def StmSh (f : Nat) (stm : Sg → S29 → Option Sg) : Prop := ∀ {w0 w : World} {g : Nat} {s s' : Sg} {ok : Nat → Prop} {T : S29} {v : Value}, SAt 94 w0 w g s → VK w0 ok v T.f3 → stm s T = some s' → Calls Try.prog f #[.pointer (some ⟨g, 0, none⟩), .agg (nc T v).toArray] w (SP 94 w0 w g s' (.tuple #[]))
def StmsSh (f : Nat) (stm : Sg → S29 → Option Sg) : Prop := ∀ {w0 w : World} {g : Nat} {s s' : Sg} {ok : Nat → Prop} {xs : List S29} {A : Option Addr} {c : Nat}, SAt 94 w0 w g s → VK w0 ok (.slice A xs.length c) xs → stmtsP stm s xs = some s' → Calls Try.prog f #[.pointer (some ⟨g, 0, none⟩), .slice A xs.length c] w (SP 94 w0 w g s' (.tuple #[]))
theorem info65b : (Try.prog.info? 65).map (·.size) = some 2 := by kernel_rfl
theorem SAt.var {w0 W : World} {g : Nat} {s : Sg} {t : ByteArray} (h : SAt 94 w0 W g s) (h0 : 0 ≤ atF s.xs t) :
    ∃ bv c vv ov, vv = Value.slice (some ⟨bv, 0, none⟩) s.xs.length c ∧ SAo 94 w0 W g vv ov s := by
  obtain ⟨vv, ov, h⟩ := h
  have hlt := atF_lt s.xs t h0
  obtain ⟨bv, c, e, _⟩ := Kd.N_form h.hx (by omega)
  exact ⟨bv, c, vv, ov, e, h⟩
section
variable {ops : Array Oper} {rest : List Oper} {o : Oper} {a : Act} {Q : Exit → Act → World → Prop}
theorem ev_var {w0 w W : World} {g bv n c : Nat} {ov : Value} {s : Sg} (hgd : o.guard = none) (hN : o.dst = none) (p x : Operand) (ho : o.op = .store 3 p x) (k o2 : Nat) (hk : k < n) (ho2 : o2 = k * 2 + 1) (u : Int) (hp : a.eval p = .pointer (some ⟨bv, o2, none⟩)) (hx : a.eval x = .int .i64 u)
    (hS : SAo 94 w0 W g (.slice (some ⟨bv, 0, none⟩) n c) ov s) (hF : Fr 94 w0 w W)
    (h : ∀ w1, SAt 94 w0 w1 g { s with xs := s.xs.set k ⟨(s.xs.getD k z65).f0, u⟩ } → Fr 94 w0 w w1 → W.grownBy w1 (some bv) → wpList Try.prog ops Q rest a w1) : wpList Try.prog ops Q (o :: rest) a W := by
  obtain ⟨cs, hcl, hFK, hcc, _⟩ := Kd.N_elem hS.hx z65 (k : Int) (by omega) (by omega)
  have hcs := k65_open (Kd.FK_now hFK)
  have hge := Kd.N_base hS.hx bv (by simp [Value.ownBlock])
  obtain ⟨cs0, hbv⟩ := Kd.N_typed hS.hx bv (by simp [Value.ownBlock])
  rw [show ((k : Int).toNat) = k from rfl] at *
  refine Kd.N_store k65 w0.heap.size hN hgd 3 p x ho 65 (k : Int) 1 s.xs ⟨(s.xs.getD k z65).f0, u⟩ (.int .i64 u) [.int .i64 u] cs _ (fun _ => False) hp (by rw [ho2]; rfl) hx rfl (by kernel_rfl) (by simp [Value.oneCell']) hS.hx (by omega) (by omega) hcl hcc (by show 1 + 1 ≤ k65.sz; decide) ?_ (fun _ hk => hk.elim) hS.hm.bel ?_
  · rw [hcs]
    exact k65_mkF W _ _
  · intro w1 hx1 hb1 hg1
    have hne : bv ≠ g := fun e => by
      subst e
      rw [hS.hm.blk] at hbv
      injection hbv with hbv
      injection hbv with _ e
      exact absurd e (by decide)
    refine h w1 ⟨_, ov, hS.hty, hS.hm.grown hg1 hne hge, hx1, ?_, by simpa using hS.hl⟩ ?_ hg1
    · obtain ⟨okd, h1, h2⟩ := hS.hd
      have h3 : ∀ k, okd k → w1.heap[k]? = W.heap[k]? := fun k hk => by
        obtain ⟨_, cs, t, hc, ht⟩ := h1 k hk
        refine hg1.block k (blk_lt hc) (fun e => ?_)
        injection e with e
        subst e
        rw [hbv] at hc
        injection hc with hc
        injection hc with _ e
        subst e
        revert ht
        decide
      exact ⟨okd, fun k hk => ⟨(h1 k hk).1, by rw [h3 k hk]; exact (h1 k hk).2⟩, Kd.N_step h2 (fun k hk _ => h3 k hk)⟩
    · refine hF.trans ⟨hg1.size, fun i hi h1 => hg1.block i hi (fun e => ?_)⟩
      injection e with e
      subst e
      rcases h1 with h1 | h1
      · omega
      · exact h1 ⟨_, _, hbv, .inr (.inl rfl)⟩
end
set_option maxHeartbeats 4000000 in
set_option maxRecDepth 100000 in
theorem set_shows (k : Nat) : StmSh 88 (setP k) := by
  intro w0 w g s s' ok T v hS hV h
  have HM := Aside0.mk hS
  have GW := Aside0.mk hS.bel.size
  have HK := Aside0.mk (Fr.refl : Fr 94 w0 w w)
  have VT := Aside0.mk hV
  obtain ⟨A, c, e0⟩ := Kd.V_slice hV
  subst e0
  obtain ⟨n, en⟩ : ∃ n_, n_ = T.f3.length := ⟨_, rfl⟩
  rw [← en]
  have EN := Aside0.mk en
  clear hV hS en
  obtain ⟨k0, hk0, h⟩ := Option.bind_eq_some_iff.1 h
  obtain ⟨hlt0, ad0, ap0, v0, eA, eP, hc, hVx⟩ := VK_kid EN.out VT.out hk0
  have EA0 := Aside0.mk eA
  have EP0 := Aside0.mk eP
  have HC0 := Aside0.mk hc
  have VX0 := Aside0.mk hVx
  clear eA eP hc hVx
  obtain ⟨⟨a, m1⟩, h0, h⟩ := Option.bind_eq_some_iff.1 h
  have H0 := Aside0.mk h0
  simp only [Option.some.injEq] at h
  obtain ⟨s1, es1⟩ : ∃ s_, s_ = ({ s with m := m1 } : Sg) := ⟨_, rfl⟩
  rw [← es1] at h
  have HE := Aside0.mk (show ∀ {w1 : World}, SAt 94 w0 w1 g s → Calls Try.prog 89 #[.pointer (some ⟨g, 0, none⟩), .agg (nc k0 v0).toArray] w1 (SP 94 w0 w1 g s1 (.int .i64 a)) by rw [es1]; exact fun hS => s_expr hS VX0.out h0)
  clear hk0 h0 es1 H0
  unfold setV at h
  obtain ⟨p, ep⟩ : ∃ p_, p_ = atF s1.xs T.f1 := ⟨_, rfl⟩
  have HA := Aside0.mk (show ∀ {w1 : World}, SAt 94 w0 w1 g s1 → Calls Try.prog 105 #[.pointer (some ⟨g, 0, none⟩), .string T.f1] w1 (AtPost w1 p) by rw [ep]; exact fun hS => s_at hS T.f1)
  rcases Bool.eq_false_or_eq_true (decide (0 ≤ p)) with c0 | c0
  · rw [← ep, if_pos c0] at h
    have h0p : 0 ≤ p := of_decide_eq_true c0
    rcases Bool.eq_false_or_eq_true (s1.m.e == 0) with c1 | c1
    · rw [if_pos c1] at h
      obtain ⟨q, eq⟩ : ∃ q : Nat, p = (q : Int) := ⟨p.toNat, by omega⟩
      subst eq
      have hq := atF_lt s1.xs T.f1 (by rw [← ep]; exact h0p)
      rw [← ep] at hq
      simp only [Int.toNat_natCast] at hq h
      obtain ⟨nx, enx⟩ : ∃ n_, n_ = s1.xs.length := ⟨_, rfl⟩
      rw [← enx] at hq
      have HQ := Aside0.mk hq
      have HN := Aside0.mk enx
      have HP := Aside0.mk (show 0 ≤ atF s1.xs T.f1 by rw [← ep]; exact h0p)
      have HS' := Aside0.mk h
      clear h ep enx hq
      go_enter Try.func88, Try.ntmps88
      go_wp2_with (first
        | ((with_reducible refine gate_dst (N := 3) rfl ?_); refine Mine.ev_box rfl (N := 3) rfl (.tmp 1) rfl (nc (T) ((.slice A n c))) rfl ?_; intro b0 hbn w1 hblk hbel; have GBb0 := Aside0.mk (show w.heap.size ≤ b0 by have := HK.out.1; omega); have n0 := Aside0.mk (HM.out.below hbel); have n1 := Aside0.mk (HK.out.below hbel); clear HM HK; have HM := n0; have HK := n1; clear n0 n1; have BXb0 := Aside0.mk hblk; clear hblk hbel hbn)
        | ((with_reducible refine gate_dst (N := 8) rfl ?_); refine ev_cell rfl (N := 8) rfl 27 (.tmp 7) rfl ⟨b0, 3, none⟩ rfl (.slice A n c) _ ((Mine.blk_cells BXb0.out 3).trans rfl) Try.underlying27 rfl ?_)
        | ((with_reducible refine gate_dst (N := 9) rfl ?_); refine ev_index rfl (N := 9) rfl 27 29 (.tmp 8) (.const (.int .i64 0)) rfl (ad := ad0) (n := n) (c := c) (k := 0) (sz := 5) (congrArg (fun A => Value.slice A n c) EA0.out) rfl hlt0 EP0.out Try.underlying27 info29s ?_)
        | ((with_reducible refine gate_dst (N := 10) rfl ?_); refine Mine.ev_load rfl (N := 10) rfl 29 (.tmp 9) rfl ap0 rfl (nc k0 v0) _ (fun j u hu => cell_up HM.out.bel (HC0.out j u hu)) Try.underlying29 rfl info29s ?_)
        | ((with_reducible refine gate_dst (N := 11) rfl ?_); refine goesL_ (some 11) rfl rfl Try.func89 (by kernel_rfl) rfl #[.pointer (some ⟨g, 0, none⟩), .agg (nc k0 v0).toArray] rfl (by (try simp only [List.map_toArray, List.map_cons, List.map_nil]); first | done | rfl) ?_; refine (HE.out HM.out).mono ?_; rintro e w1 ⟨rfl, he, hk⟩; refine ⟨_, rfl, ?_⟩; have n0 := Aside0.mk (he); have n1 := Aside0.mk (HK.out.trans hk); have n2 := Aside0.mk (Fr.blk hk (.inl rfl) BXb0.out (by decide)); clear HM HK BXb0; have HM := n0; have HK := n1; have BXb0 := n2; clear n0 n1 n2; clear he hk)
        | ((with_reducible refine gate_dst (N := 14) rfl ?_); refine ev_cell rfl (N := 14) rfl 9 (.tmp 13) rfl ⟨b0, 1, none⟩ rfl (.string T.f1) _ ((Mine.blk_cells BXb0.out 1).trans rfl) Try.underlying9 rfl ?_)
        | ((with_reducible refine gate_dst (N := 15) rfl ?_); refine goesL_ (some 15) rfl rfl Try.func105 (by kernel_rfl) rfl #[.pointer (some ⟨g, 0, none⟩), .string T.f1] rfl (by (try simp only [List.map_toArray, List.map_cons, List.map_nil]); first | done | rfl) ?_; refine (HA.out HM.out).mono ?_; rintro e w1 ⟨rfl, hbel⟩; refine ⟨_, rfl, ?_⟩; have n0 := Aside0.mk (HM.out.below hbel); have n1 := Aside0.mk (HK.out.below hbel); have n2 := Aside0.mk (below_blk hbel BXb0.out); clear HM HK BXb0; have HM := n0; have HK := n1; have BXb0 := n2; clear n0 n1 n2; clear hbel); have he1 := HM.out.e_cell; obtain ⟨bv, cv, vv, ov, hvv, hso⟩ := SAt.var HM.out HP.out; obtain ⟨o2, ho2⟩ : ∃ o_, o_ = q * 2 := ⟨_, rfl⟩; have HVV := Aside0.mk hvv; have HSO := Aside0.mk hso; have HO2 := Aside0.mk ho2; clear hvv hso ho2
        | ((with_reducible refine gate_dst (N := 28) rfl ?_); refine ev_cell rfl (N := 28) rfl 45 (.tmp 27) rfl ⟨g, 0, none⟩ rfl (.slice (some ⟨bv, 0, none⟩) nx cv) _ (HSO.out.hm.c0.trans (by rw [HVV.out, HN.out])) Try.underlying45 rfl ?_)
        | ((with_reducible refine gate_dst (N := 31) rfl ?_); refine ev_index rfl (N := 31) rfl 45 65 (.tmp 28) (.tmp 29) rfl (ad := ⟨bv, 0, none⟩) (n := nx) (c := cv) (k := q) (sz := 2) rfl rfl (ap := ⟨bv, o2, none⟩) HQ.out (by rw [HO2.out]; simp [Addr.add]; omega) Try.underlying45 info65b ?_)
        | ((with_reducible refine gate_ (.store 3 (.tmp 32) (.tmp 30)) rfl ?_); refine ev_var rfl rfl (.tmp 32) (.tmp 30) rfl q (o2 + 1) HQ.out (by rw [HO2.out]) a rfl rfl (by rw [HN.out, ← HVV.out]; exact HSO.out) HK.out ?_; intro w1 hs1 hf1 hg1; have n0 := Aside0.mk hs1; have n1 := Aside0.mk hf1; clear HM HK HSO BXb0; have HM := n0; have HK := n1; clear n0 n1 hs1 hf1 hg1))
      first | go_end0 | ((try simp only [Exit.inBlock, Exit.then]); refine bodyPost_ret (results_none rfl _ _ _) rfl ?_)
      rw [← HS'.out]
      exact ⟨rfl, HM.out, HK.out⟩
    · rw [if_neg (by rw [c1]; decide)] at h
      subst h
      clear ep
      go_enter Try.func88, Try.ntmps88
      go_wp2_with (first
        | ((with_reducible refine gate_dst (N := 3) rfl ?_); refine Mine.ev_box rfl (N := 3) rfl (.tmp 1) rfl (nc (T) ((.slice A n c))) rfl ?_; intro b0 hbn w1 hblk hbel; have GBb0 := Aside0.mk (show w.heap.size ≤ b0 by have := HK.out.1; omega); have n0 := Aside0.mk (HM.out.below hbel); have n1 := Aside0.mk (HK.out.below hbel); clear HM HK; have HM := n0; have HK := n1; clear n0 n1; have BXb0 := Aside0.mk hblk; clear hblk hbel hbn)
        | ((with_reducible refine gate_dst (N := 8) rfl ?_); refine ev_cell rfl (N := 8) rfl 27 (.tmp 7) rfl ⟨b0, 3, none⟩ rfl (.slice A n c) _ ((Mine.blk_cells BXb0.out 3).trans rfl) Try.underlying27 rfl ?_)
        | ((with_reducible refine gate_dst (N := 9) rfl ?_); refine ev_index rfl (N := 9) rfl 27 29 (.tmp 8) (.const (.int .i64 0)) rfl (ad := ad0) (n := n) (c := c) (k := 0) (sz := 5) (congrArg (fun A => Value.slice A n c) EA0.out) rfl hlt0 EP0.out Try.underlying27 info29s ?_)
        | ((with_reducible refine gate_dst (N := 10) rfl ?_); refine Mine.ev_load rfl (N := 10) rfl 29 (.tmp 9) rfl ap0 rfl (nc k0 v0) _ (fun j u hu => cell_up HM.out.bel (HC0.out j u hu)) Try.underlying29 rfl info29s ?_)
        | ((with_reducible refine gate_dst (N := 11) rfl ?_); refine goesL_ (some 11) rfl rfl Try.func89 (by kernel_rfl) rfl #[.pointer (some ⟨g, 0, none⟩), .agg (nc k0 v0).toArray] rfl (by (try simp only [List.map_toArray, List.map_cons, List.map_nil]); first | done | rfl) ?_; refine (HE.out HM.out).mono ?_; rintro e w1 ⟨rfl, he, hk⟩; refine ⟨_, rfl, ?_⟩; have n0 := Aside0.mk (he); have n1 := Aside0.mk (HK.out.trans hk); have n2 := Aside0.mk (Fr.blk hk (.inl rfl) BXb0.out (by decide)); clear HM HK BXb0; have HM := n0; have HK := n1; have BXb0 := n2; clear n0 n1 n2; clear he hk)
        | ((with_reducible refine gate_dst (N := 14) rfl ?_); refine ev_cell rfl (N := 14) rfl 9 (.tmp 13) rfl ⟨b0, 1, none⟩ rfl (.string T.f1) _ ((Mine.blk_cells BXb0.out 1).trans rfl) Try.underlying9 rfl ?_)
        | ((with_reducible refine gate_dst (N := 15) rfl ?_); refine goesL_ (some 15) rfl rfl Try.func105 (by kernel_rfl) rfl #[.pointer (some ⟨g, 0, none⟩), .string T.f1] rfl (by (try simp only [List.map_toArray, List.map_cons, List.map_nil]); first | done | rfl) ?_; refine (HA.out HM.out).mono ?_; rintro e w1 ⟨rfl, hbel⟩; refine ⟨_, rfl, ?_⟩; have n0 := Aside0.mk (HM.out.below hbel); have n1 := Aside0.mk (HK.out.below hbel); have n2 := Aside0.mk (below_blk hbel BXb0.out); clear HM HK BXb0; have HM := n0; have HK := n1; have BXb0 := n2; clear n0 n1 n2; clear hbel); have he1 := HM.out.e_cell)
      first | go_end0 | ((try simp only [Exit.inBlock, Exit.then]); refine bodyPost_ret (results_none rfl _ _ _) rfl ?_)
      exact ⟨rfl, HM.out, HK.out⟩
  · rw [← ep, if_neg (by rw [c0]; decide)] at h
    subst h
    clear ep
    go_enter Try.func88, Try.ntmps88
    go_wp2_with (first
      | ((with_reducible refine gate_dst (N := 3) rfl ?_); refine Mine.ev_box rfl (N := 3) rfl (.tmp 1) rfl (nc (T) ((.slice A n c))) rfl ?_; intro b0 hbn w1 hblk hbel; have GBb0 := Aside0.mk (show w.heap.size ≤ b0 by have := HK.out.1; omega); have n0 := Aside0.mk (HM.out.below hbel); have n1 := Aside0.mk (HK.out.below hbel); clear HM HK; have HM := n0; have HK := n1; clear n0 n1; have BXb0 := Aside0.mk hblk; clear hblk hbel hbn)
      | ((with_reducible refine gate_dst (N := 8) rfl ?_); refine ev_cell rfl (N := 8) rfl 27 (.tmp 7) rfl ⟨b0, 3, none⟩ rfl (.slice A n c) _ ((Mine.blk_cells BXb0.out 3).trans rfl) Try.underlying27 rfl ?_)
      | ((with_reducible refine gate_dst (N := 9) rfl ?_); refine ev_index rfl (N := 9) rfl 27 29 (.tmp 8) (.const (.int .i64 0)) rfl (ad := ad0) (n := n) (c := c) (k := 0) (sz := 5) (congrArg (fun A => Value.slice A n c) EA0.out) rfl hlt0 EP0.out Try.underlying27 info29s ?_)
      | ((with_reducible refine gate_dst (N := 10) rfl ?_); refine Mine.ev_load rfl (N := 10) rfl 29 (.tmp 9) rfl ap0 rfl (nc k0 v0) _ (fun j u hu => cell_up HM.out.bel (HC0.out j u hu)) Try.underlying29 rfl info29s ?_)
      | ((with_reducible refine gate_dst (N := 11) rfl ?_); refine goesL_ (some 11) rfl rfl Try.func89 (by kernel_rfl) rfl #[.pointer (some ⟨g, 0, none⟩), .agg (nc k0 v0).toArray] rfl (by (try simp only [List.map_toArray, List.map_cons, List.map_nil]); first | done | rfl) ?_; refine (HE.out HM.out).mono ?_; rintro e w1 ⟨rfl, he, hk⟩; refine ⟨_, rfl, ?_⟩; have n0 := Aside0.mk (he); have n1 := Aside0.mk (HK.out.trans hk); have n2 := Aside0.mk (Fr.blk hk (.inl rfl) BXb0.out (by decide)); clear HM HK BXb0; have HM := n0; have HK := n1; have BXb0 := n2; clear n0 n1 n2; clear he hk)
      | ((with_reducible refine gate_dst (N := 14) rfl ?_); refine ev_cell rfl (N := 14) rfl 9 (.tmp 13) rfl ⟨b0, 1, none⟩ rfl (.string T.f1) _ ((Mine.blk_cells BXb0.out 1).trans rfl) Try.underlying9 rfl ?_)
      | ((with_reducible refine gate_dst (N := 15) rfl ?_); refine goesL_ (some 15) rfl rfl Try.func105 (by kernel_rfl) rfl #[.pointer (some ⟨g, 0, none⟩), .string T.f1] rfl (by (try simp only [List.map_toArray, List.map_cons, List.map_nil]); first | done | rfl) ?_; refine (HA.out HM.out).mono ?_; rintro e w1 ⟨rfl, hbel⟩; refine ⟨_, rfl, ?_⟩; have n0 := Aside0.mk (HM.out.below hbel); have n1 := Aside0.mk (HK.out.below hbel); have n2 := Aside0.mk (below_blk hbel BXb0.out); clear HM HK BXb0; have HM := n0; have HK := n1; have BXb0 := n2; clear n0 n1 n2; clear hbel))
    first | go_end0 | ((try simp only [Exit.inBlock, Exit.then]); refine bodyPost_ret (results_none rfl _ _ _) rfl ?_)
    exact ⟨rfl, HM.out, HK.out⟩
set_option maxHeartbeats 4000000 in
set_option maxRecDepth 100000 in
theorem stmts_shows {stm : Sg → S29 → Option Sg} (hN : StmSh 69 stm) : StmsSh 42 stm := by
  intro w0 w g s s' ok xs A c hS hV h
  have HM := Aside0.mk hS
  have GW := Aside0.mk hS.bel.size
  have HK := Aside0.mk (Fr.refl : Fr 94 w0 w w)
  have HN := Aside0.mk @hN
  have VT := Aside0.mk hV
  have HH := Aside0.mk h
  have HL := Aside0.mk (VK_len hV)
  obtain ⟨n, en⟩ : ∃ n_, n_ = xs.length := ⟨_, rfl⟩
  rw [← en]
  have EN := Aside0.mk en
  clear hS hV h en hN
  go_enter Try.func42, Try.ntmps42
  go_wp2
  go_loopg [8] (n + 1) (fun kq v8 w' => ∃ (k : Nat) (s2 : Sg), v8 = .int .i64 (k : Int) ∧ Aside0 (kq + k = n + 1) ∧ Aside0 (k ≤ n) ∧ Aside0 (stmtsP stm s2 (xs.drop k) = some s') ∧ Aside0 (SAt 94 w0 w' g s2) ∧ Aside0 (Fr 94 w0 w w'))
  case atStart => exact ⟨0, s, rfl, ⟨rfl⟩, ⟨Nat.zero_le _⟩, HH, HM, HK⟩
  case round =>
    clear HM HK HH
    obtain ⟨k, s2, rfl, KQ, KN, HH, HM, HK⟩ := hrel
    by_cases hlt : k < n
    · have hx : k < xs.length := by have := EN.out; omega
      have hk64 : (k : Int) + 1 ≤ 9223372036854775807 := by have := HL.out; have := EN.out; omega
      have HK64 := Aside0.mk hk64
      clear hk64
      have hh := HH.out
      rw [stmtsP_drop stm s2 xs hx] at hh
      obtain ⟨s3, h3, h4⟩ := Option.bind_eq_some_iff.1 hh
      obtain ⟨ad, ap, v, eA, eP, hcell, hVx⟩ := VK_elem VT.out hx
      obtain ⟨x, ex⟩ : ∃ x_, x_ = xs[k] := ⟨_, rfl⟩
      rw [← ex] at h3 hcell hVx
      have H4 := Aside0.mk h4
      have EAx := Aside0.mk eA
      have EPx := Aside0.mk eP
      have HCx := Aside0.mk hcell
      have VX := Aside0.mk hVx
      obtain ⟨kq, rfl⟩ : ∃ q, gk = q + 1 := ⟨gk - 1, by have := KQ.out; omega⟩
      obtain ⟨sb, esb⟩ : ∃ s_, s_ = ({ s2 with m := (burnF s2.m).2 } : Sg) := ⟨_, rfl⟩
      rw [← esb] at h3
      clear hh h4 eA eP hcell hVx HH ex hx
      rcases Bool.eq_false_or_eq_true (burnF s2.m).1 with c1 | c1
      · rw [if_pos c1] at h3
        have H3 := Aside0.mk h3
        have HBU := Aside0.mk (show ∀ {w1 : World}, SAt 94 w0 w1 g s2 → Calls Try.prog 68 #[.pointer (some ⟨g, 0, none⟩)] w1 (SP 94 w0 w1 g sb (.bool true)) by rw [esb, ← c1]; exact fun hS => s_burn hS)
        clear c1 esb h3
        go_wp2_with (first
          | ((with_reducible refine gate_dst (N := 10) rfl ?_); refine ev_index rfl (N := 10) rfl 27 29 (.tmp 6) (.tmp 8) rfl (ad := ad) (n := n) (c := c) (k := k) (sz := 5) (congrArg (fun A => Value.slice A n c) EAx.out) rfl hlt EPx.out Try.underlying27 info29s ?_)
          | ((with_reducible refine gate_dst (N := 11) rfl ?_); refine Mine.ev_load rfl (N := 11) rfl 29 (.tmp 10) rfl ap rfl (nc x v) _ (fun j u hu => cell_up HM.out.bel (HCx.out j u hu)) Try.underlying29 rfl info29s ?_)
          | ((with_reducible refine gate_dst (N := 5) rfl ?_); refine ev_alloc29 rfl (N := 5) rfl rfl ?_; intro b1 hbn w1 hblk hbel; have GBb1 := Aside0.mk (show w.heap.size ≤ b1 by have := HK.out.1; omega); have n0 := Aside0.mk (HM.out.below hbel); have n1 := Aside0.mk (HK.out.below hbel); clear HM HK; have HM := n0; have HK := n1; clear n0 n1; have BXb1 := Aside0.mk hblk; clear hblk hbel hbn)
          | ((with_reducible refine gate_ (.store 29 (.tmp 5) (.tmp 11)) rfl ?_); refine ev_store29 rfl rfl (.tmp 5) (.tmp 11) rfl (b := b1) (z := x) (v := v) rfl rfl BXb1.out (VK_one VX.out) ?_; intro w1 hblk hg hz; have n0 := Aside0.mk (HM.out.grown hg BXb1.out (by decide) (by have := GBb1.out; have := GW.out; omega)); have n1 := Aside0.mk (HK.out.grown hg GBb1.out); have n2 := Aside0.mk (hblk); clear HM HK BXb1; have HM := n0; have HK := n1; have BXb1 := n2; clear n0 n1 n2; clear hblk hg hz)
          | ((with_reducible refine gate_dst (N := 13) rfl ?_); refine goesL_ (some 13) rfl rfl Try.func68 (by kernel_rfl) rfl #[.pointer (some ⟨g, 0, none⟩)] rfl (by (try simp only [List.map_toArray, List.map_cons, List.map_nil]); first | done | rfl) ?_; refine (HBU.out HM.out).mono ?_; rintro e w1 ⟨rfl, he, hk⟩; refine ⟨_, rfl, ?_⟩; have n0 := Aside0.mk (he); have n1 := Aside0.mk (HK.out.trans hk); have n2 := Aside0.mk (Fr.blk hk (.inl rfl) BXb1.out (by decide)); clear HM HK BXb1; have HM := n0; have HK := n1; have BXb1 := n2; clear n0 n1 n2; clear he hk)
          | ((with_reducible refine gate_dst (N := 15) rfl ?_); refine ev_load29 rfl (N := 15) rfl (.tmp 5) rfl (b := b1) rfl BXb1.out ?_)
          | ((with_reducible refine gate_dst (N := 16) rfl ?_); refine goesL_ (some 16) rfl rfl Try.func69 (by kernel_rfl) rfl #[.pointer (some ⟨g, 0, none⟩), .agg (nc x v).toArray] rfl (by (try simp only [List.map_toArray, List.map_cons, List.map_nil]); first | done | rfl) ?_; refine (HN.out HM.out VX.out H3.out).mono ?_; rintro e w1 ⟨rfl, he, hk⟩; refine ⟨_, rfl, ?_⟩; have n0 := Aside0.mk (he); have n1 := Aside0.mk (HK.out.trans hk); have n2 := Aside0.mk (Fr.blk hk (.inl rfl) BXb1.out (by decide)); clear HM HK BXb1; have HM := n0; have HK := n1; have BXb1 := n2; clear n0 n1 n2; clear he hk))
        go_roundg kq
        case rel => exact ⟨k + 1, s3, by rw [w64_in (by have := HK64.out; omega)]; simp, ⟨by have := KQ.out; omega⟩, ⟨by omega⟩, H4, HM, HK⟩
        case measure => omega
      · rw [if_neg (by rw [c1]; decide)] at h3
        simp only [Option.some.injEq] at h3
        subst h3
        have HBU := Aside0.mk (show ∀ {w1 : World}, SAt 94 w0 w1 g s2 → Calls Try.prog 68 #[.pointer (some ⟨g, 0, none⟩)] w1 (SP 94 w0 w1 g sb (.bool false)) by rw [esb, ← c1]; exact fun hS => s_burn hS)
        clear c1 esb
        go_wp2_with (first
          | ((with_reducible refine gate_dst (N := 10) rfl ?_); refine ev_index rfl (N := 10) rfl 27 29 (.tmp 6) (.tmp 8) rfl (ad := ad) (n := n) (c := c) (k := k) (sz := 5) (congrArg (fun A => Value.slice A n c) EAx.out) rfl hlt EPx.out Try.underlying27 info29s ?_)
          | ((with_reducible refine gate_dst (N := 11) rfl ?_); refine Mine.ev_load rfl (N := 11) rfl 29 (.tmp 10) rfl ap rfl (nc x v) _ (fun j u hu => cell_up HM.out.bel (HCx.out j u hu)) Try.underlying29 rfl info29s ?_)
          | ((with_reducible refine gate_dst (N := 5) rfl ?_); refine ev_alloc29 rfl (N := 5) rfl rfl ?_; intro b1 hbn w1 hblk hbel; have GBb1 := Aside0.mk (show w.heap.size ≤ b1 by have := HK.out.1; omega); have n0 := Aside0.mk (HM.out.below hbel); have n1 := Aside0.mk (HK.out.below hbel); clear HM HK; have HM := n0; have HK := n1; clear n0 n1; have BXb1 := Aside0.mk hblk; clear hblk hbel hbn)
          | ((with_reducible refine gate_ (.store 29 (.tmp 5) (.tmp 11)) rfl ?_); refine ev_store29 rfl rfl (.tmp 5) (.tmp 11) rfl (b := b1) (z := x) (v := v) rfl rfl BXb1.out (VK_one VX.out) ?_; intro w1 hblk hg hz; have n0 := Aside0.mk (HM.out.grown hg BXb1.out (by decide) (by have := GBb1.out; have := GW.out; omega)); have n1 := Aside0.mk (HK.out.grown hg GBb1.out); have n2 := Aside0.mk (hblk); clear HM HK BXb1; have HM := n0; have HK := n1; have BXb1 := n2; clear n0 n1 n2; clear hblk hg hz)
          | ((with_reducible refine gate_dst (N := 13) rfl ?_); refine goesL_ (some 13) rfl rfl Try.func68 (by kernel_rfl) rfl #[.pointer (some ⟨g, 0, none⟩)] rfl (by (try simp only [List.map_toArray, List.map_cons, List.map_nil]); first | done | rfl) ?_; refine (HBU.out HM.out).mono ?_; rintro e w1 ⟨rfl, he, hk⟩; refine ⟨_, rfl, ?_⟩; have n0 := Aside0.mk (he); have n1 := Aside0.mk (HK.out.trans hk); have n2 := Aside0.mk (Fr.blk hk (.inl rfl) BXb1.out (by decide)); clear HM HK BXb1; have HM := n0; have HK := n1; have BXb1 := n2; clear n0 n1 n2; clear he hk))
        go_roundg kq
        case rel => exact ⟨k + 1, sb, by rw [w64_in (by have := HK64.out; omega)]; simp, ⟨by have := KQ.out; omega⟩, ⟨by omega⟩, H4, HM, HK⟩
        case measure => omega
    · have hk : k = n := by have := KN.out; omega
      subst hk
      have hh := HH.out
      rw [EN.out, List.drop_length] at hh
      obtain rfl : s2 = s' := by simpa [stmtsP] using hh
      clear hh
      go_wp2
      first | go_end0 | ((try simp only [Exit.inBlock, Exit.then]); refine bodyPost_ret (results_none rfl _ _ _) rfl ?_)
      exact ⟨rfl, HM.out, HK.out⟩
end Go.Proofs.Ytdiadmlgeojefaa.A
namespace Go.Proofs.Ytdiadmlgeojefaa.A
open Go.RowKit Go.Proofs.YtdiadmlgeojefaaW.PrintWords Go.Proofs.YtdiadmlgeojefaaW.PrintLast Go.Proofs.YtdiadmlgeojefaaW.PrintMore
set_option linter.unusedVariables false
set_option linter.unusedSimpArgs false
section
variable {ops : Array Oper} {rest : List Oper} {o : Oper} {a : Act} {Q : Exit → Act → World → Prop} {W : World}
theorem ev_fa29_3 (hgd : o.guard = none) {N : Tmp} (hd : o.dst = some N) (x : Operand) (ho : o.op = .fieldAddr 29 x 3) {ap aq : Addr} (hx : a.eval x = .pointer (some ap)) (haq : ap.add 3 = aq) (h : wpList Try.prog ops Q rest (a.put o.dst (.pointer (some aq))) W) : wpList Try.prog ops Q (o :: rest) a W := by
  subst haq
  refine wpList_plain hgd fun K hK => ?_
  have hrun : (execOp a.eval o).run Try.prog W = .ok (.value (.pointer (some (ap.add 3)))) W := by
    generalize a.eval = ev at hx
    unfold execOp
    simp only [ho, hx]
    first | (go_simp; done) | (go_simp; rfl)
  unfold Oper.wp
  simp only [hrun]
  exact hK _ _ h
end
def whileP (k : Nat) (stms : Sg → List S29 → Option Sg) (T : S29) (k0 : S29) : Nat → Sg → Option Sg
  | 0, _ => none
  | j + 1, s => (exprP s.xs k s.m k0).bind fun a => if (a.1 != 0) = true then (if (a.2.e == 0) = true then T.f3[1]?.bind fun k1 => (stms { s with m := a.2 } k1.f3).bind (whileP k stms T k0 j) else some { s with m := a.2 }) else some { s with m := a.2 }
def ifP (k : Nat) (stms : Sg → List S29 → Option Sg) (s : Sg) (T : S29) : Option Sg := T.f3[0]?.bind fun k0 => (exprP s.xs k s.m k0).bind fun a =>
  if (a.1 != 0) = true then T.f3[1]?.bind fun k1 => stms { s with m := a.2 } k1.f3
  else if decide ((2 : Int) < (T.f3.length : Int)) = true then (if (a.2.e == 0) = true then T.f3[2]?.bind fun k2 => stms { s with m := a.2 } k2.f3 else some { s with m := a.2 }) else some { s with m := a.2 }
def stmtG (k : Nat) (addP : Sg → S29 → Option Sg) (turnP : Int → Int → Sg → S29 → Option Sg) (stms : Sg → List S29 → Option Sg) (s : Sg) (T : S29) : Option Sg :=
  if (T.f0 == 7) = true then stms s T.f3
  else if (T.f0 == 4) = true then setP k s T
  else if (T.f0 == 5) = true then ifP k stms s T
  else if (T.f0 == 6) = true then T.f3[0]?.bind fun k0 => whileP k stms T k0 k s
  else if (T.f0 == 8) = true then addP s T
  else if (T.f0 == 9) = true then turnP 3 5 s T
  else if (T.f0 == 10) = true then turnP 2 4 s T
  else if (T.f0 == 11) = true then some { s with m := mfail s.m 16 }
  else some s
def TurnSh (f : Nat) (turnP : Int → Int → Sg → S29 → Option Sg) : Prop := ∀ {w0 w : World} {g : Nat} {s s' : Sg} {ok : Nat → Prop} {T : S29} {v : Value} (lo st : Int), SAt 94 w0 w g s → VK w0 ok v T.f3 → turnP lo st s T = some s' → Calls Try.prog f #[.pointer (some ⟨g, 0, none⟩), .agg (nc T v).toArray, .int .i64 lo, .int .i64 st] w (SP 94 w0 w g s' (.tuple #[]))
theorem VK_kid3 {W : World} {ok : Nat → Prop} {A : Option Addr} {c n k : Nat} {xs : List S29} {x : S29} (hn : n = xs.length) (h : VK W ok (.slice A xs.length c) xs) (hk : xs[k]? = some x) :
    k < n ∧ ∃ ad ap aq B d, A = some ad ∧ ad.add (k * 5) = ap ∧ ap.add 3 = aq ∧ W.cell? aq = some (.slice B x.f3.length d) ∧ VK W ok (.slice B x.f3.length d) x.f3 := by
  obtain ⟨hlt, ad, ap, v, eA, eP, hc, hV⟩ := VK_kid hn h hk
  obtain ⟨B, d, e0⟩ := Kd.V_slice hV
  subst e0
  exact ⟨hlt, ad, ap, _, B, d, eA, eP, rfl, hc 3 _ rfl, hV⟩
def StmsF (f : Nat) (stms : Sg → List S29 → Option Sg) : Prop := ∀ {w0 w : World} {g : Nat} {s s' : Sg} {ok : Nat → Prop} {xs : List S29} {A : Option Addr} {c : Nat}, SAt 94 w0 w g s → VK w0 ok (.slice A xs.length c) xs → stms s xs = some s' → Calls Try.prog f #[.pointer (some ⟨g, 0, none⟩), .slice A xs.length c] w (SP 94 w0 w g s' (.tuple #[]))
theorem stms_n {f n : Nat} {stms : Sg → List S29 → Option Sg} {w0 w : World} {g : Nat} {s s' : Sg} {ok : Nat → Prop} {xs : List S29} {A : Option Addr} {c : Nat} (hn : n = xs.length) (hT : StmsF f stms) (hM : SAt 94 w0 w g s) (hV : VK w0 ok (.slice A xs.length c) xs) (h : stms s xs = some s') :
    Calls Try.prog f #[.pointer (some ⟨g, 0, none⟩), .slice A n c] w (SP 94 w0 w g s' (.tuple #[])) := by
  subst hn
  exact hT hM hV h
theorem stm_n {f n : Nat} {stm : Sg → S29 → Option Sg} {w0 w : World} {g : Nat} {s s' : Sg} {ok : Nat → Prop} {T : S29} {A : Option Addr} {c : Nat} (hn : n = T.f3.length) (hT : StmSh f stm) (hM : SAt 94 w0 w g s) (hV : VK w0 ok (.slice A T.f3.length c) T.f3) (h : stm s T = some s') :
    Calls Try.prog f #[.pointer (some ⟨g, 0, none⟩), .agg (nc T (.slice A n c)).toArray] w (SP 94 w0 w g s' (.tuple #[])) := by
  subst hn
  exact hT hM hV h
theorem turn_n {f n : Nat} {turnP : Int → Int → Sg → S29 → Option Sg} {w0 w : World} {g : Nat} {s s' : Sg} {ok : Nat → Prop} {T : S29} {A : Option Addr} {c : Nat} (hn : n = T.f3.length) (lo st : Int) (hT : TurnSh f turnP) (hM : SAt 94 w0 w g s) (hV : VK w0 ok (.slice A T.f3.length c) T.f3) (h : turnP lo st s T = some s') :
    Calls Try.prog f #[.pointer (some ⟨g, 0, none⟩), .agg (nc T (.slice A n c)).toArray, .int .i64 lo, .int .i64 st] w (SP 94 w0 w g s' (.tuple #[])) := by
  subst hn
  exact hT lo st hM hV h
set_option maxHeartbeats 4000000 in
set_option maxRecDepth 100000 in
theorem mstmt_shows {k : Nat} {addP : Sg → S29 → Option Sg} {turnP : Int → Int → Sg → S29 → Option Sg} {stms : Sg → List S29 → Option Sg} (hN : StmsF 42 stms) (hA : StmSh 90 addP) (hT : TurnSh 91 turnP) : StmSh 69 (stmtG k addP turnP stms) := by
  intro w0 w g s s' ok T v hS hV h
  have HM := Aside0.mk hS
  have GW := Aside0.mk hS.bel.size
  have HK := Aside0.mk (Fr.refl : Fr 94 w0 w w)
  have VT := Aside0.mk hV
  obtain ⟨A, c, e0⟩ := Kd.V_slice hV
  subst e0
  obtain ⟨n, en⟩ : ∃ n_, n_ = T.f3.length := ⟨_, rfl⟩
  rw [← en]
  have EN := Aside0.mk en
  clear hV hS en
  have HN := Aside0.mk @hN
  have HADD := Aside0.mk @hA
  have HTURN := Aside0.mk @hT
  have HSET := Aside0.mk (p := StmSh 88 (setP k)) (set_shows k)
  clear hN hA hT
  unfold stmtG at h
  rcases Bool.eq_false_or_eq_true (T.f0 == 7) with c7 | c7
  · rw [if_pos c7] at h
    have H := Aside0.mk h
    clear h
    go_enter Try.func69, Try.ntmps69
    go_wp2_with (first
      | ((with_reducible refine gate_dst (N := 3) rfl ?_); refine Mine.ev_box rfl (N := 3) rfl (.tmp 1) rfl (nc (T) ((.slice A n c))) rfl ?_; intro b0 hbn w1 hblk hbel; have GBb0 := Aside0.mk (show w.heap.size ≤ b0 by have := HK.out.1; omega); have n0 := Aside0.mk (HM.out.below hbel); have n1 := Aside0.mk (HK.out.below hbel); clear HM HK; have HM := n0; have HK := n1; clear n0 n1; have BXb0 := Aside0.mk hblk; clear hblk hbel hbn)
      | ((with_reducible refine gate_dst (N := 5) rfl ?_); refine ev_cell rfl (N := 5) rfl 3 (.tmp 4) rfl ⟨b0, 0, none⟩ rfl (.int .i64 T.f0) _ ((Mine.blk_cells BXb0.out 0).trans rfl) Try.underlying3 rfl ?_)
      | ((with_reducible refine gate_dst (N := 10) rfl ?_); refine ev_cell rfl (N := 10) rfl 27 (.tmp 9) rfl ⟨b0, 3, none⟩ rfl (.slice A n c) _ ((Mine.blk_cells BXb0.out 3).trans rfl) Try.underlying27 rfl ?_)
      | ((with_reducible refine gate_dst (N := 11) rfl ?_); refine goesL_ (some 11) rfl rfl Try.func42 (by kernel_rfl) rfl #[.pointer (some ⟨g, 0, none⟩), .slice A n c] rfl (by (try simp only [List.map_toArray, List.map_cons, List.map_nil]); first | done | rfl) ?_; refine (stms_n EN.out HN.out HM.out VT.out H.out).mono ?_; rintro e w1 ⟨rfl, he, hk⟩; refine ⟨_, rfl, ?_⟩; have n0 := Aside0.mk (he); have n1 := Aside0.mk (HK.out.trans hk); have n2 := Aside0.mk (Fr.blk hk (.inl rfl) BXb0.out (by decide)); clear HM HK BXb0; have HM := n0; have HK := n1; have BXb0 := n2; clear n0 n1 n2; clear he hk))
    first | go_end0 | ((try simp only [Exit.inBlock, Exit.then]); refine bodyPost_ret (results_none rfl _ _ _) rfl ?_)
    exact ⟨rfl, HM.out, HK.out⟩
  rw [if_neg (by rw [c7]; decide)] at h
  rcases Bool.eq_false_or_eq_true (T.f0 == 4) with c4 | c4
  · rw [if_pos c4] at h
    have H := Aside0.mk h
    clear h
    go_enter Try.func69, Try.ntmps69
    go_wp2_with (first
      | ((with_reducible refine gate_dst (N := 3) rfl ?_); refine Mine.ev_box rfl (N := 3) rfl (.tmp 1) rfl (nc (T) ((.slice A n c))) rfl ?_; intro b0 hbn w1 hblk hbel; have GBb0 := Aside0.mk (show w.heap.size ≤ b0 by have := HK.out.1; omega); have n0 := Aside0.mk (HM.out.below hbel); have n1 := Aside0.mk (HK.out.below hbel); clear HM HK; have HM := n0; have HK := n1; clear n0 n1; have BXb0 := Aside0.mk hblk; clear hblk hbel hbn)
      | ((with_reducible refine gate_dst (N := 5) rfl ?_); refine ev_cell rfl (N := 5) rfl 3 (.tmp 4) rfl ⟨b0, 0, none⟩ rfl (.int .i64 T.f0) _ ((Mine.blk_cells BXb0.out 0).trans rfl) Try.underlying3 rfl ?_)
      | ((with_reducible refine gate_dst (N := 15) rfl ?_); refine ev_load29 rfl (N := 15) rfl (.tmp 3) rfl (b := b0) rfl BXb0.out ?_)
      | ((with_reducible refine gate_dst (N := 16) rfl ?_); refine goesL_ (some 16) rfl rfl Try.func88 (by kernel_rfl) rfl #[.pointer (some ⟨g, 0, none⟩), .agg (nc T (.slice A n c)).toArray] rfl (by (try simp only [List.map_toArray, List.map_cons, List.map_nil]); first | done | rfl) ?_; refine (stm_n EN.out HSET.out HM.out VT.out H.out).mono ?_; rintro e w1 ⟨rfl, he, hk⟩; refine ⟨_, rfl, ?_⟩; have n0 := Aside0.mk (he); have n1 := Aside0.mk (HK.out.trans hk); have n2 := Aside0.mk (Fr.blk hk (.inl rfl) BXb0.out (by decide)); clear HM HK BXb0; have HM := n0; have HK := n1; have BXb0 := n2; clear n0 n1 n2; clear he hk))
    first | go_end0 | ((try simp only [Exit.inBlock, Exit.then]); refine bodyPost_ret (results_none rfl _ _ _) rfl ?_)
    exact ⟨rfl, HM.out, HK.out⟩
  rw [if_neg (by rw [c4]; decide)] at h
  rcases Bool.eq_false_or_eq_true (T.f0 == 5) with c5 | c5
  · rw [if_pos c5] at h
    unfold ifP at h
    obtain ⟨k0, hk0, h⟩ := Option.bind_eq_some_iff.1 h
    obtain ⟨hlt0, ad0, ap0, v0, eA, eP, hc, hVx⟩ := VK_kid EN.out VT.out hk0
    have EA0 := Aside0.mk eA
    have EP0 := Aside0.mk eP
    have HC0 := Aside0.mk hc
    have VX0 := Aside0.mk hVx
    clear eA eP hc hVx
    obtain ⟨⟨a, m1⟩, h0, h⟩ := Option.bind_eq_some_iff.1 h
    simp only at h
    obtain ⟨s1, es1⟩ : ∃ s_, s_ = ({ s with m := m1 } : Sg) := ⟨_, rfl⟩
    have em1 : m1 = s1.m := by rw [es1]
    rw [← es1, em1] at h
    have HE := Aside0.mk (show ∀ {w1 : World}, SAt 94 w0 w1 g s → Calls Try.prog 89 #[.pointer (some ⟨g, 0, none⟩), .agg (nc k0 v0).toArray] w1 (SP 94 w0 w1 g s1 (.int .i64 a)) by rw [es1]; exact fun hS => s_expr hS VX0.out h0)
    clear hk0 h0 es1 em1
    rcases Bool.eq_false_or_eq_true (a != 0) with c0 | c0
    · rw [if_pos c0] at h
      obtain ⟨k1, hk1, h⟩ := Option.bind_eq_some_iff.1 h
      have H := Aside0.mk h
      clear h
      obtain ⟨hlt1, ad1, ap1, aq1, B1, d1, eA, eP, eQ, hc, hVx⟩ := VK_kid3 EN.out VT.out hk1
      obtain ⟨n1, en1⟩ : ∃ n_, n_ = k1.f3.length := ⟨_, rfl⟩
      have EA1 := Aside0.mk eA
      have EP1 := Aside0.mk eP
      have EQ1 := Aside0.mk eQ
      have HC1 := Aside0.mk (hc.trans (by rw [← en1] : _ = some (Value.slice B1 n1 d1)))
      have VX1 := Aside0.mk hVx
      have EN1 := Aside0.mk en1
      clear eA eP eQ hc hVx en1
      clear hk1
      go_enter Try.func69, Try.ntmps69
      go_wp2_with (first
        | ((with_reducible refine gate_dst (N := 3) rfl ?_); refine Mine.ev_box rfl (N := 3) rfl (.tmp 1) rfl (nc (T) ((.slice A n c))) rfl ?_; intro b0 hbn w1 hblk hbel; have GBb0 := Aside0.mk (show w.heap.size ≤ b0 by have := HK.out.1; omega); have n0 := Aside0.mk (HM.out.below hbel); have n1 := Aside0.mk (HK.out.below hbel); clear HM HK; have HM := n0; have HK := n1; clear n0 n1; have BXb0 := Aside0.mk hblk; clear hblk hbel hbn)
        | ((with_reducible refine gate_dst (N := 5) rfl ?_); refine ev_cell rfl (N := 5) rfl 3 (.tmp 4) rfl ⟨b0, 0, none⟩ rfl (.int .i64 T.f0) _ ((Mine.blk_cells BXb0.out 0).trans rfl) Try.underlying3 rfl ?_)
        | ((with_reducible refine gate_dst (N := 21) rfl ?_); refine ev_cell rfl (N := 21) rfl 27 (.tmp 20) rfl ⟨b0, 3, none⟩ rfl (.slice A n c) _ ((Mine.blk_cells BXb0.out 3).trans rfl) Try.underlying27 rfl ?_)
        | ((with_reducible refine gate_dst (N := 22) rfl ?_); refine ev_index rfl (N := 22) rfl 27 29 (.tmp 21) (.const (.int .i64 0)) rfl (ad := ad0) (n := n) (c := c) (k := 0) (sz := 5) (congrArg (fun A => Value.slice A n c) EA0.out) rfl hlt0 EP0.out Try.underlying27 info29s ?_)
        | ((with_reducible refine gate_dst (N := 23) rfl ?_); refine Mine.ev_load rfl (N := 23) rfl 29 (.tmp 22) rfl ap0 rfl (nc k0 v0) _ (fun j u hu => cell_up HM.out.bel (HC0.out j u hu)) Try.underlying29 rfl info29s ?_)
        | ((with_reducible refine gate_dst (N := 24) rfl ?_); refine goesL_ (some 24) rfl rfl Try.func89 (by kernel_rfl) rfl #[.pointer (some ⟨g, 0, none⟩), .agg (nc k0 v0).toArray] rfl (by (try simp only [List.map_toArray, List.map_cons, List.map_nil]); first | done | rfl) ?_; refine (HE.out HM.out).mono ?_; rintro e w1 ⟨rfl, he, hk⟩; refine ⟨_, rfl, ?_⟩; have n0 := Aside0.mk (he); have n1 := Aside0.mk (HK.out.trans hk); have n2 := Aside0.mk (Fr.blk hk (.inl rfl) BXb0.out (by decide)); clear HM HK BXb0; have HM := n0; have HK := n1; have BXb0 := n2; clear n0 n1 n2; clear he hk)
        | ((with_reducible refine gate_dst (N := 28) rfl ?_); refine ev_cell rfl (N := 28) rfl 27 (.tmp 27) rfl ⟨b0, 3, none⟩ rfl (.slice A n c) _ ((Mine.blk_cells BXb0.out 3).trans rfl) Try.underlying27 rfl ?_)
        | ((with_reducible refine gate_dst (N := 29) rfl ?_); refine ev_index rfl (N := 29) rfl 27 29 (.tmp 28) (.const (.int .i64 1)) rfl (ad := ad1) (n := n) (c := c) (k := 1) (sz := 5) (congrArg (fun A => Value.slice A n c) EA1.out) rfl hlt1 EP1.out Try.underlying27 info29s ?_)
        | ((with_reducible refine gate_dst (N := 30) rfl ?_); refine ev_fa29_3 rfl (N := 30) rfl (.tmp 29) rfl (ap := ap1) (aq := aq1) rfl EQ1.out ?_)
        | ((with_reducible refine gate_dst (N := 31) rfl ?_); refine ev_cell rfl (N := 31) rfl 27 (.tmp 30) rfl aq1 rfl (.slice B1 n1 d1) _ (cell_up HM.out.bel HC1.out) Try.underlying27 rfl ?_)
        | ((with_reducible refine gate_dst (N := 32) rfl ?_); refine goesL_ (some 32) rfl rfl Try.func42 (by kernel_rfl) rfl #[.pointer (some ⟨g, 0, none⟩), .slice B1 n1 d1] rfl (by (try simp only [List.map_toArray, List.map_cons, List.map_nil]); first | done | rfl) ?_; refine (stms_n EN1.out HN.out HM.out VX1.out H.out).mono ?_; rintro e w1 ⟨rfl, he, hk⟩; refine ⟨_, rfl, ?_⟩; have n0 := Aside0.mk (he); have n1 := Aside0.mk (HK.out.trans hk); have n2 := Aside0.mk (Fr.blk hk (.inl rfl) BXb0.out (by decide)); clear HM HK BXb0; have HM := n0; have HK := n1; have BXb0 := n2; clear n0 n1 n2; clear he hk))
      first | go_end0 | ((try simp only [Exit.inBlock, Exit.then]); refine bodyPost_ret (results_none rfl _ _ _) rfl ?_)
      exact ⟨rfl, HM.out, HK.out⟩
    · rw [if_neg (by rw [c0]; decide), ← EN.out] at h
      rcases Bool.eq_false_or_eq_true (decide ((2 : Int) < (n : Int))) with c2 | c2
      · rw [if_pos c2] at h
        rcases Bool.eq_false_or_eq_true (s1.m.e == 0) with c3 | c3
        · rw [if_pos c3] at h
          obtain ⟨k2, hk2, h⟩ := Option.bind_eq_some_iff.1 h
          have H := Aside0.mk h
          clear h
          obtain ⟨hlt2, ad2, ap2, aq2, B2, d2, eA, eP, eQ, hc, hVx⟩ := VK_kid3 EN.out VT.out hk2
          obtain ⟨n2, en2⟩ : ∃ n_, n_ = k2.f3.length := ⟨_, rfl⟩
          have EA2 := Aside0.mk eA
          have EP2 := Aside0.mk eP
          have EQ2 := Aside0.mk eQ
          have HC2 := Aside0.mk (hc.trans (by rw [← en2] : _ = some (Value.slice B2 n2 d2)))
          have VX2 := Aside0.mk hVx
          have EN2 := Aside0.mk en2
          clear eA eP eQ hc hVx en2
          clear hk2
          go_enter Try.func69, Try.ntmps69
          go_wp2_with (first
            | ((with_reducible refine gate_dst (N := 3) rfl ?_); refine Mine.ev_box rfl (N := 3) rfl (.tmp 1) rfl (nc (T) ((.slice A n c))) rfl ?_; intro b0 hbn w1 hblk hbel; have GBb0 := Aside0.mk (show w.heap.size ≤ b0 by have := HK.out.1; omega); have n0 := Aside0.mk (HM.out.below hbel); have n1 := Aside0.mk (HK.out.below hbel); clear HM HK; have HM := n0; have HK := n1; clear n0 n1; have BXb0 := Aside0.mk hblk; clear hblk hbel hbn)
            | ((with_reducible refine gate_dst (N := 5) rfl ?_); refine ev_cell rfl (N := 5) rfl 3 (.tmp 4) rfl ⟨b0, 0, none⟩ rfl (.int .i64 T.f0) _ ((Mine.blk_cells BXb0.out 0).trans rfl) Try.underlying3 rfl ?_)
            | ((with_reducible refine gate_dst (N := 21) rfl ?_); refine ev_cell rfl (N := 21) rfl 27 (.tmp 20) rfl ⟨b0, 3, none⟩ rfl (.slice A n c) _ ((Mine.blk_cells BXb0.out 3).trans rfl) Try.underlying27 rfl ?_)
            | ((with_reducible refine gate_dst (N := 22) rfl ?_); refine ev_index rfl (N := 22) rfl 27 29 (.tmp 21) (.const (.int .i64 0)) rfl (ad := ad0) (n := n) (c := c) (k := 0) (sz := 5) (congrArg (fun A => Value.slice A n c) EA0.out) rfl hlt0 EP0.out Try.underlying27 info29s ?_)
            | ((with_reducible refine gate_dst (N := 23) rfl ?_); refine Mine.ev_load rfl (N := 23) rfl 29 (.tmp 22) rfl ap0 rfl (nc k0 v0) _ (fun j u hu => cell_up HM.out.bel (HC0.out j u hu)) Try.underlying29 rfl info29s ?_)
            | ((with_reducible refine gate_dst (N := 24) rfl ?_); refine goesL_ (some 24) rfl rfl Try.func89 (by kernel_rfl) rfl #[.pointer (some ⟨g, 0, none⟩), .agg (nc k0 v0).toArray] rfl (by (try simp only [List.map_toArray, List.map_cons, List.map_nil]); first | done | rfl) ?_; refine (HE.out HM.out).mono ?_; rintro e w1 ⟨rfl, he, hk⟩; refine ⟨_, rfl, ?_⟩; have n0 := Aside0.mk (he); have n1 := Aside0.mk (HK.out.trans hk); have n2 := Aside0.mk (Fr.blk hk (.inl rfl) BXb0.out (by decide)); clear HM HK BXb0; have HM := n0; have HK := n1; have BXb0 := n2; clear n0 n1 n2; clear he hk); have he1 := HM.out.e_cell
            | ((with_reducible refine gate_dst (N := 34) rfl ?_); refine ev_cell rfl (N := 34) rfl 27 (.tmp 33) rfl ⟨b0, 3, none⟩ rfl (.slice A n c) _ ((Mine.blk_cells BXb0.out 3).trans rfl) Try.underlying27 rfl ?_)
            | ((with_reducible refine gate_dst (N := 46) rfl ?_); refine ev_cell rfl (N := 46) rfl 27 (.tmp 45) rfl ⟨b0, 3, none⟩ rfl (.slice A n c) _ ((Mine.blk_cells BXb0.out 3).trans rfl) Try.underlying27 rfl ?_)
            | ((with_reducible refine gate_dst (N := 47) rfl ?_); refine ev_index rfl (N := 47) rfl 27 29 (.tmp 46) (.const (.int .i64 2)) rfl (ad := ad2) (n := n) (c := c) (k := 2) (sz := 5) (congrArg (fun A => Value.slice A n c) EA2.out) rfl hlt2 EP2.out Try.underlying27 info29s ?_)
            | ((with_reducible refine gate_dst (N := 48) rfl ?_); refine ev_fa29_3 rfl (N := 48) rfl (.tmp 47) rfl (ap := ap2) (aq := aq2) rfl EQ2.out ?_)
            | ((with_reducible refine gate_dst (N := 49) rfl ?_); refine ev_cell rfl (N := 49) rfl 27 (.tmp 48) rfl aq2 rfl (.slice B2 n2 d2) _ (cell_up HM.out.bel HC2.out) Try.underlying27 rfl ?_)
            | ((with_reducible refine gate_dst (N := 50) rfl ?_); refine goesL_ (some 50) rfl rfl Try.func42 (by kernel_rfl) rfl #[.pointer (some ⟨g, 0, none⟩), .slice B2 n2 d2] rfl (by (try simp only [List.map_toArray, List.map_cons, List.map_nil]); first | done | rfl) ?_; refine (stms_n EN2.out HN.out HM.out VX2.out H.out).mono ?_; rintro e w1 ⟨rfl, he, hk⟩; refine ⟨_, rfl, ?_⟩; have n0 := Aside0.mk (he); have n1 := Aside0.mk (HK.out.trans hk); have n2 := Aside0.mk (Fr.blk hk (.inl rfl) BXb0.out (by decide)); clear HM HK BXb0; have HM := n0; have HK := n1; have BXb0 := n2; clear n0 n1 n2; clear he hk))
          first | go_end0 | ((try simp only [Exit.inBlock, Exit.then]); refine bodyPost_ret (results_none rfl _ _ _) rfl ?_)
          exact ⟨rfl, HM.out, HK.out⟩
        · rw [if_neg (by rw [c3]; decide)] at h
          simp only [Option.some.injEq] at h
          subst h
          go_enter Try.func69, Try.ntmps69
          go_wp2_with (first
            | ((with_reducible refine gate_dst (N := 3) rfl ?_); refine Mine.ev_box rfl (N := 3) rfl (.tmp 1) rfl (nc (T) ((.slice A n c))) rfl ?_; intro b0 hbn w1 hblk hbel; have GBb0 := Aside0.mk (show w.heap.size ≤ b0 by have := HK.out.1; omega); have n0 := Aside0.mk (HM.out.below hbel); have n1 := Aside0.mk (HK.out.below hbel); clear HM HK; have HM := n0; have HK := n1; clear n0 n1; have BXb0 := Aside0.mk hblk; clear hblk hbel hbn)
            | ((with_reducible refine gate_dst (N := 5) rfl ?_); refine ev_cell rfl (N := 5) rfl 3 (.tmp 4) rfl ⟨b0, 0, none⟩ rfl (.int .i64 T.f0) _ ((Mine.blk_cells BXb0.out 0).trans rfl) Try.underlying3 rfl ?_)
            | ((with_reducible refine gate_dst (N := 21) rfl ?_); refine ev_cell rfl (N := 21) rfl 27 (.tmp 20) rfl ⟨b0, 3, none⟩ rfl (.slice A n c) _ ((Mine.blk_cells BXb0.out 3).trans rfl) Try.underlying27 rfl ?_)
            | ((with_reducible refine gate_dst (N := 22) rfl ?_); refine ev_index rfl (N := 22) rfl 27 29 (.tmp 21) (.const (.int .i64 0)) rfl (ad := ad0) (n := n) (c := c) (k := 0) (sz := 5) (congrArg (fun A => Value.slice A n c) EA0.out) rfl hlt0 EP0.out Try.underlying27 info29s ?_)
            | ((with_reducible refine gate_dst (N := 23) rfl ?_); refine Mine.ev_load rfl (N := 23) rfl 29 (.tmp 22) rfl ap0 rfl (nc k0 v0) _ (fun j u hu => cell_up HM.out.bel (HC0.out j u hu)) Try.underlying29 rfl info29s ?_)
            | ((with_reducible refine gate_dst (N := 24) rfl ?_); refine goesL_ (some 24) rfl rfl Try.func89 (by kernel_rfl) rfl #[.pointer (some ⟨g, 0, none⟩), .agg (nc k0 v0).toArray] rfl (by (try simp only [List.map_toArray, List.map_cons, List.map_nil]); first | done | rfl) ?_; refine (HE.out HM.out).mono ?_; rintro e w1 ⟨rfl, he, hk⟩; refine ⟨_, rfl, ?_⟩; have n0 := Aside0.mk (he); have n1 := Aside0.mk (HK.out.trans hk); have n2 := Aside0.mk (Fr.blk hk (.inl rfl) BXb0.out (by decide)); clear HM HK BXb0; have HM := n0; have HK := n1; have BXb0 := n2; clear n0 n1 n2; clear he hk); have he1 := HM.out.e_cell
            | ((with_reducible refine gate_dst (N := 34) rfl ?_); refine ev_cell rfl (N := 34) rfl 27 (.tmp 33) rfl ⟨b0, 3, none⟩ rfl (.slice A n c) _ ((Mine.blk_cells BXb0.out 3).trans rfl) Try.underlying27 rfl ?_))
          first | go_end0 | ((try simp only [Exit.inBlock, Exit.then]); refine bodyPost_ret (results_none rfl _ _ _) rfl ?_)
          exact ⟨rfl, HM.out, HK.out⟩
      · rw [if_neg (by rw [c2]; decide)] at h
        simp only [Option.some.injEq] at h
        subst h
        go_enter Try.func69, Try.ntmps69
        go_wp2_with (first
          | ((with_reducible refine gate_dst (N := 3) rfl ?_); refine Mine.ev_box rfl (N := 3) rfl (.tmp 1) rfl (nc (T) ((.slice A n c))) rfl ?_; intro b0 hbn w1 hblk hbel; have GBb0 := Aside0.mk (show w.heap.size ≤ b0 by have := HK.out.1; omega); have n0 := Aside0.mk (HM.out.below hbel); have n1 := Aside0.mk (HK.out.below hbel); clear HM HK; have HM := n0; have HK := n1; clear n0 n1; have BXb0 := Aside0.mk hblk; clear hblk hbel hbn)
          | ((with_reducible refine gate_dst (N := 5) rfl ?_); refine ev_cell rfl (N := 5) rfl 3 (.tmp 4) rfl ⟨b0, 0, none⟩ rfl (.int .i64 T.f0) _ ((Mine.blk_cells BXb0.out 0).trans rfl) Try.underlying3 rfl ?_)
          | ((with_reducible refine gate_dst (N := 21) rfl ?_); refine ev_cell rfl (N := 21) rfl 27 (.tmp 20) rfl ⟨b0, 3, none⟩ rfl (.slice A n c) _ ((Mine.blk_cells BXb0.out 3).trans rfl) Try.underlying27 rfl ?_)
          | ((with_reducible refine gate_dst (N := 22) rfl ?_); refine ev_index rfl (N := 22) rfl 27 29 (.tmp 21) (.const (.int .i64 0)) rfl (ad := ad0) (n := n) (c := c) (k := 0) (sz := 5) (congrArg (fun A => Value.slice A n c) EA0.out) rfl hlt0 EP0.out Try.underlying27 info29s ?_)
          | ((with_reducible refine gate_dst (N := 23) rfl ?_); refine Mine.ev_load rfl (N := 23) rfl 29 (.tmp 22) rfl ap0 rfl (nc k0 v0) _ (fun j u hu => cell_up HM.out.bel (HC0.out j u hu)) Try.underlying29 rfl info29s ?_)
          | ((with_reducible refine gate_dst (N := 24) rfl ?_); refine goesL_ (some 24) rfl rfl Try.func89 (by kernel_rfl) rfl #[.pointer (some ⟨g, 0, none⟩), .agg (nc k0 v0).toArray] rfl (by (try simp only [List.map_toArray, List.map_cons, List.map_nil]); first | done | rfl) ?_; refine (HE.out HM.out).mono ?_; rintro e w1 ⟨rfl, he, hk⟩; refine ⟨_, rfl, ?_⟩; have n0 := Aside0.mk (he); have n1 := Aside0.mk (HK.out.trans hk); have n2 := Aside0.mk (Fr.blk hk (.inl rfl) BXb0.out (by decide)); clear HM HK BXb0; have HM := n0; have HK := n1; have BXb0 := n2; clear n0 n1 n2; clear he hk)
          | ((with_reducible refine gate_dst (N := 34) rfl ?_); refine ev_cell rfl (N := 34) rfl 27 (.tmp 33) rfl ⟨b0, 3, none⟩ rfl (.slice A n c) _ ((Mine.blk_cells BXb0.out 3).trans rfl) Try.underlying27 rfl ?_))
        first | go_end0 | ((try simp only [Exit.inBlock, Exit.then]); refine bodyPost_ret (results_none rfl _ _ _) rfl ?_)
        exact ⟨rfl, HM.out, HK.out⟩
  rw [if_neg (by rw [c5]; decide)] at h
  rcases Bool.eq_false_or_eq_true (T.f0 == 6) with c6 | c6
  · rw [if_pos c6] at h
    obtain ⟨k0, hk0, h⟩ := Option.bind_eq_some_iff.1 h
    obtain ⟨hlt0, ad0, ap0, v0, eA, eP, hc, hVx⟩ := VK_kid EN.out VT.out hk0
    have EA0 := Aside0.mk eA
    have EP0 := Aside0.mk eP
    have HC0 := Aside0.mk hc
    have VX0 := Aside0.mk hVx
    clear eA eP hc hVx
    have HH := Aside0.mk h
    clear hk0 h
    go_enter Try.func69, Try.ntmps69
    go_wp2_with (first
      | ((with_reducible refine gate_dst (N := 3) rfl ?_); refine Mine.ev_box rfl (N := 3) rfl (.tmp 1) rfl (nc (T) ((.slice A n c))) rfl ?_; intro b0 hbn w1 hblk hbel; have GBb0 := Aside0.mk (show w.heap.size ≤ b0 by have := HK.out.1; omega); have n0 := Aside0.mk (HM.out.below hbel); have n1 := Aside0.mk (HK.out.below hbel); clear HM HK; have HM := n0; have HK := n1; clear n0 n1; have BXb0 := Aside0.mk hblk; clear hblk hbel hbn)
      | ((with_reducible refine gate_dst (N := 5) rfl ?_); refine ev_cell rfl (N := 5) rfl 3 (.tmp 4) rfl ⟨b0, 0, none⟩ rfl (.int .i64 T.f0) _ ((Mine.blk_cells BXb0.out 0).trans rfl) Try.underlying3 rfl ?_))
    go_loopg [] k (fun kq w' => ∃ (s2 : Sg), Aside0 (whileP k stms T k0 kq s2 = some s') ∧ Aside0 (SAt 94 w0 w' g s2) ∧ Aside0 (Fr 94 w0 w w') ∧ Aside0 (w'.heap[b0]? = some (.cells (nc T (.slice A n c)).toArray 29 (0, 0))))
    case atStart => exact ⟨s, HH, HM, HK, BXb0⟩
    case round =>
      clear HM HK HH BXb0
      obtain ⟨s2, HH, HM, HK, BXb0⟩ := hrel
      obtain ⟨kq, rfl⟩ : ∃ q, gk = q + 1 := by
        have hh := HH.out
        cases gk with
        | zero => cases hh
        | succ q => exact ⟨q, rfl⟩
      have hh := HH.out
      unfold whileP at hh
      obtain ⟨⟨a, m1⟩, h0, hh⟩ := Option.bind_eq_some_iff.1 hh
      simp only at hh
      obtain ⟨s1, es1⟩ : ∃ s_, s_ = ({ s2 with m := m1 } : Sg) := ⟨_, rfl⟩
      have em1 : m1 = s1.m := by rw [es1]
      rw [← es1, em1] at hh
      have HE := Aside0.mk (show ∀ {w1 : World}, SAt 94 w0 w1 g s2 → Calls Try.prog 89 #[.pointer (some ⟨g, 0, none⟩), .agg (nc k0 v0).toArray] w1 (SP 94 w0 w1 g s1 (.int .i64 a)) by rw [es1]; exact fun hS => s_expr hS VX0.out h0)
      clear h0 es1 em1 HH
      rcases Bool.eq_false_or_eq_true (a != 0) with c0 | c0
      · rw [if_pos c0] at hh
        rcases Bool.eq_false_or_eq_true (s1.m.e == 0) with c3 | c3
        · rw [if_pos c3] at hh
          obtain ⟨k1, hk1, hh⟩ := Option.bind_eq_some_iff.1 hh
          obtain ⟨s3, h3, h4⟩ := Option.bind_eq_some_iff.1 hh
          have H3 := Aside0.mk h3
          have H4 := Aside0.mk h4
          clear hh h3 h4
          obtain ⟨hlt1, ad1, ap1, aq1, B1, d1, eA, eP, eQ, hc, hVx⟩ := VK_kid3 EN.out VT.out hk1
          obtain ⟨n1, en1⟩ : ∃ n_, n_ = k1.f3.length := ⟨_, rfl⟩
          have EA1 := Aside0.mk eA
          have EP1 := Aside0.mk eP
          have EQ1 := Aside0.mk eQ
          have HC1 := Aside0.mk (hc.trans (by rw [← en1] : _ = some (Value.slice B1 n1 d1)))
          have VX1 := Aside0.mk hVx
          have EN1 := Aside0.mk en1
          clear eA eP eQ hc hVx en1
          clear hk1
          go_wp2_with (first
            | ((with_reducible refine gate_dst (N := 55) rfl ?_); refine ev_cell rfl (N := 55) rfl 27 (.tmp 54) rfl ⟨b0, 3, none⟩ rfl (.slice A n c) _ ((Mine.blk_cells BXb0.out 3).trans rfl) Try.underlying27 rfl ?_)
            | ((with_reducible refine gate_dst (N := 56) rfl ?_); refine ev_index rfl (N := 56) rfl 27 29 (.tmp 55) (.const (.int .i64 0)) rfl (ad := ad0) (n := n) (c := c) (k := 0) (sz := 5) (congrArg (fun A => Value.slice A n c) EA0.out) rfl hlt0 EP0.out Try.underlying27 info29s ?_)
            | ((with_reducible refine gate_dst (N := 57) rfl ?_); refine Mine.ev_load rfl (N := 57) rfl 29 (.tmp 56) rfl ap0 rfl (nc k0 v0) _ (fun j u hu => cell_up HM.out.bel (HC0.out j u hu)) Try.underlying29 rfl info29s ?_)
            | ((with_reducible refine gate_dst (N := 58) rfl ?_); refine goesL_ (some 58) rfl rfl Try.func89 (by kernel_rfl) rfl #[.pointer (some ⟨g, 0, none⟩), .agg (nc k0 v0).toArray] rfl (by (try simp only [List.map_toArray, List.map_cons, List.map_nil]); first | done | rfl) ?_; refine (HE.out HM.out).mono ?_; rintro e w1 ⟨rfl, he, hk⟩; refine ⟨_, rfl, ?_⟩; have n0 := Aside0.mk (he); have n1 := Aside0.mk (HK.out.trans hk); have n2 := Aside0.mk (Fr.blk hk (.inl rfl) BXb0.out (by decide)); clear HM HK BXb0; have HM := n0; have HK := n1; have BXb0 := n2; clear n0 n1 n2; clear he hk); have he1 := HM.out.e_cell
            | ((with_reducible refine gate_dst (N := 69) rfl ?_); refine ev_cell rfl (N := 69) rfl 27 (.tmp 68) rfl ⟨b0, 3, none⟩ rfl (.slice A n c) _ ((Mine.blk_cells BXb0.out 3).trans rfl) Try.underlying27 rfl ?_)
            | ((with_reducible refine gate_dst (N := 70) rfl ?_); refine ev_index rfl (N := 70) rfl 27 29 (.tmp 69) (.const (.int .i64 1)) rfl (ad := ad1) (n := n) (c := c) (k := 1) (sz := 5) (congrArg (fun A => Value.slice A n c) EA1.out) rfl hlt1 EP1.out Try.underlying27 info29s ?_)
            | ((with_reducible refine gate_dst (N := 71) rfl ?_); refine ev_fa29_3 rfl (N := 71) rfl (.tmp 70) rfl (ap := ap1) (aq := aq1) rfl EQ1.out ?_)
            | ((with_reducible refine gate_dst (N := 72) rfl ?_); refine ev_cell rfl (N := 72) rfl 27 (.tmp 71) rfl aq1 rfl (.slice B1 n1 d1) _ (cell_up HM.out.bel HC1.out) Try.underlying27 rfl ?_)
            | ((with_reducible refine gate_dst (N := 73) rfl ?_); refine goesL_ (some 73) rfl rfl Try.func42 (by kernel_rfl) rfl #[.pointer (some ⟨g, 0, none⟩), .slice B1 n1 d1] rfl (by (try simp only [List.map_toArray, List.map_cons, List.map_nil]); first | done | rfl) ?_; refine (stms_n EN1.out HN.out HM.out VX1.out H3.out).mono ?_; rintro e w1 ⟨rfl, he, hk⟩; refine ⟨_, rfl, ?_⟩; have n0 := Aside0.mk (he); have n1 := Aside0.mk (HK.out.trans hk); have n2 := Aside0.mk (Fr.blk hk (.inl rfl) BXb0.out (by decide)); clear HM HK BXb0; have HM := n0; have HK := n1; have BXb0 := n2; clear n0 n1 n2; clear he hk))
          go_roundg kq
          case rel => exact ⟨s3, H4, HM, HK, BXb0⟩
          case measure => omega
        · rw [if_neg (by rw [c3]; decide)] at hh
          simp only [Option.some.injEq] at hh
          subst hh
          go_wp2_with (first
            | ((with_reducible refine gate_dst (N := 55) rfl ?_); refine ev_cell rfl (N := 55) rfl 27 (.tmp 54) rfl ⟨b0, 3, none⟩ rfl (.slice A n c) _ ((Mine.blk_cells BXb0.out 3).trans rfl) Try.underlying27 rfl ?_)
            | ((with_reducible refine gate_dst (N := 56) rfl ?_); refine ev_index rfl (N := 56) rfl 27 29 (.tmp 55) (.const (.int .i64 0)) rfl (ad := ad0) (n := n) (c := c) (k := 0) (sz := 5) (congrArg (fun A => Value.slice A n c) EA0.out) rfl hlt0 EP0.out Try.underlying27 info29s ?_)
            | ((with_reducible refine gate_dst (N := 57) rfl ?_); refine Mine.ev_load rfl (N := 57) rfl 29 (.tmp 56) rfl ap0 rfl (nc k0 v0) _ (fun j u hu => cell_up HM.out.bel (HC0.out j u hu)) Try.underlying29 rfl info29s ?_)
            | ((with_reducible refine gate_dst (N := 58) rfl ?_); refine goesL_ (some 58) rfl rfl Try.func89 (by kernel_rfl) rfl #[.pointer (some ⟨g, 0, none⟩), .agg (nc k0 v0).toArray] rfl (by (try simp only [List.map_toArray, List.map_cons, List.map_nil]); first | done | rfl) ?_; refine (HE.out HM.out).mono ?_; rintro e w1 ⟨rfl, he, hk⟩; refine ⟨_, rfl, ?_⟩; have n0 := Aside0.mk (he); have n1 := Aside0.mk (HK.out.trans hk); have n2 := Aside0.mk (Fr.blk hk (.inl rfl) BXb0.out (by decide)); clear HM HK BXb0; have HM := n0; have HK := n1; have BXb0 := n2; clear n0 n1 n2; clear he hk); have he1 := HM.out.e_cell)
          first | go_end0 | ((try simp only [Exit.inBlock, Exit.then]); refine bodyPost_ret (results_none rfl _ _ _) rfl ?_)
          exact ⟨rfl, HM.out, HK.out⟩
      · rw [if_neg (by rw [c0]; decide)] at hh
        simp only [Option.some.injEq] at hh
        subst hh
        go_wp2_with (first
          | ((with_reducible refine gate_dst (N := 55) rfl ?_); refine ev_cell rfl (N := 55) rfl 27 (.tmp 54) rfl ⟨b0, 3, none⟩ rfl (.slice A n c) _ ((Mine.blk_cells BXb0.out 3).trans rfl) Try.underlying27 rfl ?_)
          | ((with_reducible refine gate_dst (N := 56) rfl ?_); refine ev_index rfl (N := 56) rfl 27 29 (.tmp 55) (.const (.int .i64 0)) rfl (ad := ad0) (n := n) (c := c) (k := 0) (sz := 5) (congrArg (fun A => Value.slice A n c) EA0.out) rfl hlt0 EP0.out Try.underlying27 info29s ?_)
          | ((with_reducible refine gate_dst (N := 57) rfl ?_); refine Mine.ev_load rfl (N := 57) rfl 29 (.tmp 56) rfl ap0 rfl (nc k0 v0) _ (fun j u hu => cell_up HM.out.bel (HC0.out j u hu)) Try.underlying29 rfl info29s ?_)
          | ((with_reducible refine gate_dst (N := 58) rfl ?_); refine goesL_ (some 58) rfl rfl Try.func89 (by kernel_rfl) rfl #[.pointer (some ⟨g, 0, none⟩), .agg (nc k0 v0).toArray] rfl (by (try simp only [List.map_toArray, List.map_cons, List.map_nil]); first | done | rfl) ?_; refine (HE.out HM.out).mono ?_; rintro e w1 ⟨rfl, he, hk⟩; refine ⟨_, rfl, ?_⟩; have n0 := Aside0.mk (he); have n1 := Aside0.mk (HK.out.trans hk); have n2 := Aside0.mk (Fr.blk hk (.inl rfl) BXb0.out (by decide)); clear HM HK BXb0; have HM := n0; have HK := n1; have BXb0 := n2; clear n0 n1 n2; clear he hk))
        first | go_end0 | ((try simp only [Exit.inBlock, Exit.then]); refine bodyPost_ret (results_none rfl _ _ _) rfl ?_)
        exact ⟨rfl, HM.out, HK.out⟩
  rw [if_neg (by rw [c6]; decide)] at h
  rcases Bool.eq_false_or_eq_true (T.f0 == 8) with c8 | c8
  · rw [if_pos c8] at h
    have H := Aside0.mk h
    clear h
    go_enter Try.func69, Try.ntmps69
    go_wp2_with (first
      | ((with_reducible refine gate_dst (N := 3) rfl ?_); refine Mine.ev_box rfl (N := 3) rfl (.tmp 1) rfl (nc (T) ((.slice A n c))) rfl ?_; intro b0 hbn w1 hblk hbel; have GBb0 := Aside0.mk (show w.heap.size ≤ b0 by have := HK.out.1; omega); have n0 := Aside0.mk (HM.out.below hbel); have n1 := Aside0.mk (HK.out.below hbel); clear HM HK; have HM := n0; have HK := n1; clear n0 n1; have BXb0 := Aside0.mk hblk; clear hblk hbel hbn)
      | ((with_reducible refine gate_dst (N := 5) rfl ?_); refine ev_cell rfl (N := 5) rfl 3 (.tmp 4) rfl ⟨b0, 0, none⟩ rfl (.int .i64 T.f0) _ ((Mine.blk_cells BXb0.out 0).trans rfl) Try.underlying3 rfl ?_)
      | ((with_reducible refine gate_dst (N := 77) rfl ?_); refine ev_load29 rfl (N := 77) rfl (.tmp 3) rfl (b := b0) rfl BXb0.out ?_)
      | ((with_reducible refine gate_dst (N := 78) rfl ?_); refine goesL_ (some 78) rfl rfl Try.func90 (by kernel_rfl) rfl #[.pointer (some ⟨g, 0, none⟩), .agg (nc T (.slice A n c)).toArray] rfl (by (try simp only [List.map_toArray, List.map_cons, List.map_nil]); first | done | rfl) ?_; refine (stm_n EN.out HADD.out HM.out VT.out H.out).mono ?_; rintro e w1 ⟨rfl, he, hk⟩; refine ⟨_, rfl, ?_⟩; have n0 := Aside0.mk (he); have n1 := Aside0.mk (HK.out.trans hk); have n2 := Aside0.mk (Fr.blk hk (.inl rfl) BXb0.out (by decide)); clear HM HK BXb0; have HM := n0; have HK := n1; have BXb0 := n2; clear n0 n1 n2; clear he hk))
    first | go_end0 | ((try simp only [Exit.inBlock, Exit.then]); refine bodyPost_ret (results_none rfl _ _ _) rfl ?_)
    exact ⟨rfl, HM.out, HK.out⟩
  rw [if_neg (by rw [c8]; decide)] at h
  rcases Bool.eq_false_or_eq_true (T.f0 == 9) with c9 | c9
  · rw [if_pos c9] at h
    have H := Aside0.mk h
    clear h
    go_enter Try.func69, Try.ntmps69
    go_wp2_with (first
      | ((with_reducible refine gate_dst (N := 3) rfl ?_); refine Mine.ev_box rfl (N := 3) rfl (.tmp 1) rfl (nc (T) ((.slice A n c))) rfl ?_; intro b0 hbn w1 hblk hbel; have GBb0 := Aside0.mk (show w.heap.size ≤ b0 by have := HK.out.1; omega); have n0 := Aside0.mk (HM.out.below hbel); have n1 := Aside0.mk (HK.out.below hbel); clear HM HK; have HM := n0; have HK := n1; clear n0 n1; have BXb0 := Aside0.mk hblk; clear hblk hbel hbn)
      | ((with_reducible refine gate_dst (N := 5) rfl ?_); refine ev_cell rfl (N := 5) rfl 3 (.tmp 4) rfl ⟨b0, 0, none⟩ rfl (.int .i64 T.f0) _ ((Mine.blk_cells BXb0.out 0).trans rfl) Try.underlying3 rfl ?_)
      | ((with_reducible refine gate_dst (N := 82) rfl ?_); refine ev_load29 rfl (N := 82) rfl (.tmp 3) rfl (b := b0) rfl BXb0.out ?_)
      | ((with_reducible refine gate_dst (N := 83) rfl ?_); refine goesL_ (some 83) rfl rfl Try.func91 (by kernel_rfl) rfl #[.pointer (some ⟨g, 0, none⟩), .agg (nc T (.slice A n c)).toArray, .int .i64 3, .int .i64 5] rfl (by (try simp only [List.map_toArray, List.map_cons, List.map_nil]); first | done | rfl) ?_; refine (turn_n EN.out 3 5 HTURN.out HM.out VT.out H.out).mono ?_; rintro e w1 ⟨rfl, he, hk⟩; refine ⟨_, rfl, ?_⟩; have n0 := Aside0.mk (he); have n1 := Aside0.mk (HK.out.trans hk); have n2 := Aside0.mk (Fr.blk hk (.inl rfl) BXb0.out (by decide)); clear HM HK BXb0; have HM := n0; have HK := n1; have BXb0 := n2; clear n0 n1 n2; clear he hk))
    first | go_end0 | ((try simp only [Exit.inBlock, Exit.then]); refine bodyPost_ret (results_none rfl _ _ _) rfl ?_)
    exact ⟨rfl, HM.out, HK.out⟩
  rw [if_neg (by rw [c9]; decide)] at h
  rcases Bool.eq_false_or_eq_true (T.f0 == 10) with c10 | c10
  · rw [if_pos c10] at h
    have H := Aside0.mk h
    clear h
    go_enter Try.func69, Try.ntmps69
    go_wp2_with (first
      | ((with_reducible refine gate_dst (N := 3) rfl ?_); refine Mine.ev_box rfl (N := 3) rfl (.tmp 1) rfl (nc (T) ((.slice A n c))) rfl ?_; intro b0 hbn w1 hblk hbel; have GBb0 := Aside0.mk (show w.heap.size ≤ b0 by have := HK.out.1; omega); have n0 := Aside0.mk (HM.out.below hbel); have n1 := Aside0.mk (HK.out.below hbel); clear HM HK; have HM := n0; have HK := n1; clear n0 n1; have BXb0 := Aside0.mk hblk; clear hblk hbel hbn)
      | ((with_reducible refine gate_dst (N := 5) rfl ?_); refine ev_cell rfl (N := 5) rfl 3 (.tmp 4) rfl ⟨b0, 0, none⟩ rfl (.int .i64 T.f0) _ ((Mine.blk_cells BXb0.out 0).trans rfl) Try.underlying3 rfl ?_)
      | ((with_reducible refine gate_dst (N := 87) rfl ?_); refine ev_load29 rfl (N := 87) rfl (.tmp 3) rfl (b := b0) rfl BXb0.out ?_)
      | ((with_reducible refine gate_dst (N := 88) rfl ?_); refine goesL_ (some 88) rfl rfl Try.func91 (by kernel_rfl) rfl #[.pointer (some ⟨g, 0, none⟩), .agg (nc T (.slice A n c)).toArray, .int .i64 2, .int .i64 4] rfl (by (try simp only [List.map_toArray, List.map_cons, List.map_nil]); first | done | rfl) ?_; refine (turn_n EN.out 2 4 HTURN.out HM.out VT.out H.out).mono ?_; rintro e w1 ⟨rfl, he, hk⟩; refine ⟨_, rfl, ?_⟩; have n0 := Aside0.mk (he); have n1 := Aside0.mk (HK.out.trans hk); have n2 := Aside0.mk (Fr.blk hk (.inl rfl) BXb0.out (by decide)); clear HM HK BXb0; have HM := n0; have HK := n1; have BXb0 := n2; clear n0 n1 n2; clear he hk))
    first | go_end0 | ((try simp only [Exit.inBlock, Exit.then]); refine bodyPost_ret (results_none rfl _ _ _) rfl ?_)
    exact ⟨rfl, HM.out, HK.out⟩
  rw [if_neg (by rw [c10]; decide)] at h
  rcases Bool.eq_false_or_eq_true (T.f0 == 11) with c11 | c11
  · rw [if_pos c11] at h
    simp only [Option.some.injEq] at h
    subst h
    go_enter Try.func69, Try.ntmps69
    go_wp2_with (first
      | ((with_reducible refine gate_dst (N := 3) rfl ?_); refine Mine.ev_box rfl (N := 3) rfl (.tmp 1) rfl (nc (T) ((.slice A n c))) rfl ?_; intro b0 hbn w1 hblk hbel; have GBb0 := Aside0.mk (show w.heap.size ≤ b0 by have := HK.out.1; omega); have n0 := Aside0.mk (HM.out.below hbel); have n1 := Aside0.mk (HK.out.below hbel); clear HM HK; have HM := n0; have HK := n1; clear n0 n1; have BXb0 := Aside0.mk hblk; clear hblk hbel hbn)
      | ((with_reducible refine gate_dst (N := 5) rfl ?_); refine ev_cell rfl (N := 5) rfl 3 (.tmp 4) rfl ⟨b0, 0, none⟩ rfl (.int .i64 T.f0) _ ((Mine.blk_cells BXb0.out 0).trans rfl) Try.underlying3 rfl ?_)
      | ((with_reducible refine gate_dst (N := 92) rfl ?_); refine goesL_ (some 92) rfl rfl Try.func92 (by kernel_rfl) rfl #[.pointer (some ⟨g, 0, none⟩), .int .i64 16] rfl (by (try simp only [List.map_toArray, List.map_cons, List.map_nil]); first | done | rfl) ?_; refine (s_fail HM.out 16).mono ?_; rintro e w1 ⟨rfl, he, hk⟩; refine ⟨_, rfl, ?_⟩; have n0 := Aside0.mk (he); have n1 := Aside0.mk (HK.out.trans hk); have n2 := Aside0.mk (Fr.blk hk (.inl rfl) BXb0.out (by decide)); clear HM HK BXb0; have HM := n0; have HK := n1; have BXb0 := n2; clear n0 n1 n2; clear he hk))
    first | go_end0 | ((try simp only [Exit.inBlock, Exit.then]); refine bodyPost_ret (results_none rfl _ _ _) rfl ?_)
    exact ⟨rfl, HM.out, HK.out⟩
  · rw [if_neg (by rw [c11]; decide)] at h
    simp only [Option.some.injEq] at h
    subst h
    go_enter Try.func69, Try.ntmps69
    go_wp2_with (first
      | ((with_reducible refine gate_dst (N := 3) rfl ?_); refine Mine.ev_box rfl (N := 3) rfl (.tmp 1) rfl (nc (T) ((.slice A n c))) rfl ?_; intro b0 hbn w1 hblk hbel; have GBb0 := Aside0.mk (show w.heap.size ≤ b0 by have := HK.out.1; omega); have n0 := Aside0.mk (HM.out.below hbel); have n1 := Aside0.mk (HK.out.below hbel); clear HM HK; have HM := n0; have HK := n1; clear n0 n1; have BXb0 := Aside0.mk hblk; clear hblk hbel hbn)
      | ((with_reducible refine gate_dst (N := 5) rfl ?_); refine ev_cell rfl (N := 5) rfl 3 (.tmp 4) rfl ⟨b0, 0, none⟩ rfl (.int .i64 T.f0) _ ((Mine.blk_cells BXb0.out 0).trans rfl) Try.underlying3 rfl ?_))
    first | go_end0 | ((try simp only [Exit.inBlock, Exit.then]); refine bodyPost_ret (results_none rfl _ _ _) rfl ?_)
    exact ⟨rfl, HM.out, HK.out⟩
def stmtP (addP : Nat → Sg → S29 → Option Sg) (turnP : Nat → Int → Int → Sg → S29 → Option Sg) : Nat → Sg → S29 → Option Sg
  | 0 => fun _ _ => none
  | k + 1 => stmtG k (addP k) (turnP k) (stmtsP (stmtP addP turnP k))
theorem stmtP_sh {addP : Nat → Sg → S29 → Option Sg} {turnP : Nat → Int → Int → Sg → S29 → Option Sg} (hA : ∀ k, StmSh 90 (addP k)) (hT : ∀ k, TurnSh 91 (turnP k)) : ∀ k, StmSh 69 (stmtP addP turnP k)
  | 0 => fun _ _ h => by cases h
  | k + 1 => mstmt_shows (stmts_shows (stmtP_sh hA hT k)) (hA k) (hT k)
end Go.Proofs.Ytdiadmlgeojefaa.A
namespace Go.Proofs.Ytdiadmlgeojefaa.A
open Go.RowKit Go.Proofs.YtdiadmlgeojefaaW.PrintWords Go.Proofs.YtdiadmlgeojefaaW.PrintLast Go.Proofs.YtdiadmlgeojefaaW.PrintMore
attribute [local go_sem] max2_int min2_int max_two min_two max_three min_three max_four min_four   -- for this text's walks alone
set_option linter.unusedVariables false
set_option linter.unusedSimpArgs false
def api_Var_41.f (l0 : List (S65)) : Option ((List (S65))) := if (l0.length : Int) = 0 then (some ([] : List (S65))) else ((some (([] : List (S65)) : List (S65))).bind fun y533 => (if y533.length + l0.length < 5864062014805 then (some (y533 ++ l0)) else (none)))
set_option maxHeartbeats 8000000 in
set_option maxRecDepth 100000 in
theorem api_Var_41.calls (A0 : Option Addr) (c0 : Nat) (l0 : List (S65)) (r : List (S65)) (w : World) (hr0 : Kd.C k65 w A0 l0.length l0) (hc0 : l0.length ≤ c0) (h : api_Var_41.f l0 = some r) :
    Calls Try.prog 41 #[.slice A0 l0.length c0] w fun e w' => ∃ v0_ : Value, e = .returned (v0_) ∧ Kd.R k65 65 w' w.heap.size (fun _ => True) v0_ r ∧ Below w.heap.size w w' := by
  have hf : r = l0 := by
    unfold api_Var_41.f at h
    by_cases c : (l0.length : Int) = 0
    · rw [if_pos c] at h
      have : l0 = [] := List.length_eq_zero_iff.1 (by omega)
      rw [this]; simpa using h.symm
    · rw [if_neg c] at h
      simp only [Option.bind_some] at h
      split at h
      · simpa using h.symm
      · cases h
  have hlt : ([] : List (S65)).length + l0.length < 5864062014805 := by
    unfold api_Var_41.f at h
    by_cases c : (l0.length : Int) = 0
    · simp only [List.length_nil]; omega
    · rw [if_neg c] at h
      simp only [Option.bind_some] at h
      split at h
      · assumption
      · cases h
  subst hf
  clear h
  have HR0 := Aside0.mk hr0
  have HL := Aside0.mk hlt
  clear hlt
  have HB := Aside0.mk (Below.refl w.heap.size w)
  cases A0 with
  | none =>
    have h0 : r = [] := by
      rcases Nat.eq_zero_or_pos r.length with z | z
      · exact List.length_eq_zero_iff.1 z
      · obtain ⟨ad, e, _⟩ := hr0.2.2 z
        cases e
    subst h0
    clear hr0 hc0
    have hnil : ∀ (W : World) (n c : Nat), (binOp .eql 45 (.slice none n c) (.slice none 0 0)).run Try.prog W = .ok (.bool true) W := fun W n c => Lib.run_eql_slice_nil W 45 65 none n c 0 0 Try.underlying45
    go_enter Try.func41, Try.ntmps41
    go_wp2
    go_ret
    exact ⟨_, rfl, Kd.R_nil _ _ _ _ _, HB.out⟩
  | some ad =>
    have hnil : ∀ (W : World) (n c : Nat), (binOp .eql 45 (.slice (some ad) n c) (.slice none 0 0)).run Try.prog W = .ok (.bool false) W := fun W n c => Lib.run_eql_slice_nil W 45 65 (some ad) n c 0 0 Try.underlying45
    obtain ⟨y106, hy106⟩ : ∃ y_ : List (S65), y_ = (([] : List (S65))) := ⟨_, rfl⟩
    have hlt2 : y106.length + r.length < 5864062014805 := by rw [hy106]; exact HL.out
    obtain ⟨y109, hy109⟩ : ∃ y_ : List (S65), y_ = (y106 ++ r) := ⟨_, rfl⟩
    have hfin : y109 = r := by rw [hy109, hy106]; rfl
    have Ny106 := Aside0.mk hy106
    have Ny109 := Aside0.mk hy109
    have LM := Aside0.mk hlt2
    have FIN := Aside0.mk hfin
    clear hy106 hy109 hlt2 hfin
    clear hr0 hc0
    go_enter Try.func41, Try.ntmps41
    go_wp2_with (first | ((with_reducible refine gate_dst (N := 5) rfl ?_); refine Kd.R_lit k65 _ 65 ?hg (N := 5) ?hd (xs := ([] : List (S65))) (inner := []) (ok := fun _ => True) (okp := fun _ => True) ?hr ?hp (fun _ hk => hk) trivial (Below.refl _ _) (Nat.le_refl _) (by simp) ?_; (case hd => rfl); (case hg => rfl); (case hr => first | (go_simp; done) | (go_simp; rfl)); (case hp => exact (Reps.none _ _)); intro v107 w4 ho5 hb hg_ hnew_; clear hg_ hnew_; rw [← Ny106.out] at ho5; have n0_ := Aside0.mk (Kd.R_lower ho5 (below_size HB.out)); have n1_ := Aside0.mk (below_step HB.out hb); clear HB; have HO108 := n0_; have HB := n1_; clear n0_ n1_; clear hb ho5) | ((with_reducible refine gate_builtin (b := .append) (xs := #[.tmp 5, .tmp 6]) rfl ?_); at_builtin; refine Kd.R_append_rows k65 (w0 := w) w.heap.size rfl (.tmp 5) (.tmp 6) 45 65 (.agg #[(.string ⟨#[]⟩), (.int .i64 0)]) 24 rfl Try.underlying45 info65 rfl (by decide) (by omega) v107 y106 r _ _ _ (fun _ => True) (fun _ => False) rfl rfl ?aO ?aR (fun _ _ h => h) (fun _ h => h.elim) ?aF ?aB ?aS ?aL ?_; (case aR => exact Kd.C_below HR0.out HB.out); (case aB => exact HB.out); (case aF => exact (fun _ _ => trivial)); (case aO => exact HO108.out); (case aS => exact (below_size HB.out)); (case aL => have := LM.out; omega); intro v110 w6 ho hb hg hat; rw [← Ny109.out] at ho; have n0_ := Aside0.mk (hb); have n1_ := Aside0.mk (ho); clear HB; clear HO108; have HB := n0_; have HO111 := n1_; clear n0_ n1_; clear ho hb hg hat))
    go_ret
    exact ⟨_, rfl, FIN.out ▸ HO111.out, HB.out⟩
end Go.Proofs.Ytdiadmlgeojefaa.A
namespace Go.Proofs.Ytdiadmlgeojefaa.A
open Go.RowKit Go.Proofs.YtdiadmlgeojefaaW.PrintWords Go.Proofs.YtdiadmlgeojefaaW.PrintLast Go.Proofs.YtdiadmlgeojefaaW.PrintMore
set_option linter.unusedVariables false
set_option linter.unusedSimpArgs false
attribute [local go_sem] max2_int min2_int max_two min_two
def runL (stms : Sg → List S29 → Option Sg) (on : ByteArray) : Sg → List S29 → Option Sg
  | s, [] => some s
  | s, x :: r => (if (x.f0 == 3) = true then (if (x.f1.toList == on.toList) = true then stms s x.f3 else some s) else some s).bind fun s2 => runL stms on s2 r
def clampF (n : Int) : Int := if (100000 : Int) < (if n < 0 then 0 else n) then 100000 else (if n < 0 then 0 else n)
def runP (stms : Sg → List S29 → Option Sg) (xs : List S65) (m : Mst) (T : S29) : Option Sg := runL stms m.on ⟨{ m with fu := clampF m.fu, e := 0 }, xs, []⟩ T.f3
def evc (m : Mst) : List Value := .string m.on :: .int .i64 m.un :: .int .i64 m.po :: m.hd.map (Value.int .u64)
def RunPost (w : World) (s : Sg) (x : Ending) (w' : World) : Prop := ∃ vv ov, x = .returned (.tuple #[vv, ov, .int .i64 s.m.e]) ∧ Below w.heap.size w w' ∧ (s.m.e ≠ 0 → vv = .slice none 0 0 ∧ ov = .slice none 0 0) ∧
  (s.m.e = 0 → Kd.N k65 65 w' w.heap.size (fun k => some k = vv.ownBlock) vv s.xs ∧ ∃ okd : Nat → Prop, (∀ k, okd k → w.heap.size ≤ k ∧ ∃ cs t, w'.heap[k]? = some (.cells cs t (0, 0)) ∧ (t = 61 ∨ t = 122)) ∧ Kd.N k61 61 w' w.heap.size okd ov s.ds)
theorem N65_tight {e base : Nat} {W : World} {ok : Nat → Prop} {v : Value} {xs : List S65} (h : Kd.N k65 e W base ok v xs) : Kd.N k65 e W base (fun k => some k = v.ownBlock) v xs := by
  obtain ⟨_, rows, hl, hR, hf⟩ := h
  refine ⟨fun k hk => hk.symm, rows, hl, hR, fun j x c hx hc => ?_⟩
  have := k65_open (Kd.FK_now (hf j x c hx hc))
  rw [this]
  exact k65_mkF _ _ _
theorem clone_some (xs : List S65) (h : xs.length < 5864062014805) : api_Var_41.f xs = some xs := by
  unfold api_Var_41.f
  by_cases c : (xs.length : Int) = 0
  · have : xs = [] := List.length_eq_zero_iff.1 (by omega)
    rw [if_pos c, this]
  · rw [if_neg c]
    simp [h]
theorem evc_len {m : Mst} (h : m.hd.length = 12) : (evc m).length = 15 := by simp [evc, h]
theorem info42s : (Try.prog.info? 42).map (·.size) = some 15 := by kernel_rfl
theorem list12 {α : Type} {l : List α} (h : l.length = 12) : ∃ d0 d1 d2 d3 d4 d5 d6 d7 d8 d9 d10 d11, l = [d0, d1, d2, d3, d4, d5, d6, d7, d8, d9, d10, d11] := by
  match l, h with
  | [d0, d1, d2, d3, d4, d5, d6, d7, d8, d9, d10, d11], _ => exact ⟨d0, d1, d2, d3, d4, d5, d6, d7, d8, d9, d10, d11, rfl⟩
section
variable {o : Oper} {a : Act} {x y z : Operand}
theorem run_move9 (ho : o.op = .move x) {v : Value} (hx : a.eval x = v) : ∀ w, (execOp a.eval o).run Try.prog w = .ok (.value v) w := by
  intro w
  generalize a.eval = ev at hx
  unfold execOp
  simp only [ho, hx]
  first | (go_simp; done) | (go_simp; rfl) | rfl
theorem run_max (ho : o.op = .call { callee := .builtin .max, args := #[x, .const (.int .i64 0)], argTypes := #[3, 3] }) {n : Int} (hx : a.eval x = .int .i64 n) : ∀ w, (execOp a.eval o).run Try.prog w = .ok (.value (.int .i64 (if n < 0 then 0 else n))) w := by
  intro w
  have h0 : a.eval (.const (.int .i64 0)) = .int .i64 0 := rfl
  generalize a.eval = ev at hx h0
  unfold execOp
  simp only [ho, List.map_toArray, List.map_cons, List.map_nil, hx, h0]
  first | (go_simp; done) | (go_simp; rfl) | rfl
theorem run_min (ho : o.op = .call { callee := .builtin .min, args := #[x, .const (.int .i64 100000)], argTypes := #[3, 3] }) {n : Int} (hx : a.eval x = .int .i64 n) : ∀ w, (execOp a.eval o).run Try.prog w = .ok (.value (.int .i64 (if (100000 : Int) < n then 100000 else n))) w := by
  intro w
  have h0 : a.eval (.const (.int .i64 100000)) = .int .i64 100000 := rfl
  generalize a.eval = ev at hx h0
  unfold execOp
  simp only [ho, List.map_toArray, List.map_cons, List.map_nil, hx, h0]
  first | (go_simp; done) | (go_simp; rfl) | rfl
set_option maxRecDepth 100000 in
theorem run_build94 {x1 x2 x3 x4 : Operand} (ho : o.op = .build 94 #[(0, x1), (1, x2), (2, x3), (3, x4)]) {A : Option Addr} {n c : Nat} {q : Int} {m : Mst} (h12 : m.hd.length = 12) (h1 : a.eval x1 = .slice A n c) (h2 : a.eval x2 = .agg (evc m).toArray) (h3 : a.eval x3 = .int .i64 m.ow) (h4 : a.eval x4 = .int .i64 q) : ∀ w, (execOp a.eval o).run Try.prog w = .ok (.value (.agg (mcs (.slice A n c) (.slice none 0 0) { m with fu := q, e := 0 }).toArray)) w := by
  intro w
  obtain ⟨on, un, po, hd, ow, fu, e⟩ := m
  obtain ⟨d0, d1, d2, d3, d4, d5, d6, d7, d8, d9, d10, d11, rfl⟩ := list12 h12
  generalize a.eval = ev at h1 h2 h3 h4
  unfold execOp
  simp only [evc, List.map_cons, List.map_nil] at h2 h3 h4
  simp only [ho, List.map_toArray, List.map_cons, List.map_nil, h1, h2, h3, h4, mcs, List.cons_append, List.nil_append]
  first | (go_simp; done) | (go_simp; rfl) | rfl
theorem run_fa94_0 (ho : o.op = .fieldAddr 94 x 0) {b : Nat} (hx : a.eval x = .pointer (some ⟨b, 0, none⟩)) : ∀ w, (execOp a.eval o).run Try.prog w = .ok (.value (.pointer (some ⟨b, 0, none⟩))) w := by
  intro w
  generalize a.eval = ev at hx
  unfold execOp
  simp only [ho, hx]
  first | (go_simp; done) | (go_simp; rfl)
theorem run_fa94_4 (ho : o.op = .fieldAddr 94 x 4) {b : Nat} (hx : a.eval x = .pointer (some ⟨b, 0, none⟩)) : ∀ w, (execOp a.eval o).run Try.prog w = .ok (.value (.pointer (some ⟨b, 18, none⟩))) w := by
  intro w
  generalize a.eval = ev at hx
  unfold execOp
  simp only [ho, hx]
  first | (go_simp; done) | (go_simp; rfl)
theorem run_fa94_5 (ho : o.op = .fieldAddr 94 x 5) {b : Nat} (hx : a.eval x = .pointer (some ⟨b, 0, none⟩)) : ∀ w, (execOp a.eval o).run Try.prog w = .ok (.value (.pointer (some ⟨b, 19, none⟩))) w := by
  intro w
  generalize a.eval = ev at hx
  unfold execOp
  simp only [ho, hx]
  first | (go_simp; done) | (go_simp; rfl)
theorem run_nil9 (ho : o.op = .nilCheck x) {p : Addr} (hx : a.eval x = .pointer (some p)) : ∀ w, (execOp a.eval o).run Try.prog w = .ok (.value (.pointer (some p))) w := by
  intro w
  generalize a.eval = ev at hx
  unfold execOp
  simp only [ho, hx]
  first | (go_simp; done) | (go_simp; rfl)
theorem run_load42 (ho : o.op = .load 42 x) {b : Nat} {m : Mst} (h12 : m.hd.length = 12) (hx : a.eval x = .pointer (some ⟨b, 0, none⟩)) {w : World} (hb : w.heap[b]? = some (.cells (evc m).toArray 42 (0, 0))) : (execOp a.eval o).run Try.prog w = .ok (.value (.agg (evc m).toArray)) w := by
  unfold execOp
  simp only [ho, hx, Instr.loadAt, Instr.sureAddr, Sem.run_bind, Sem.run_pure, Result.andThen_ok, Mine.run_load_cells w ⟨b, 0, none⟩ 42 (evc m) _ (Mine.blk_all hb) Try.underlying42 rfl (by rw [evc_len h12]; exact info42s)]
end
theorem below_weaken_ {W W1 : World} {B : Nat} (h : Below W.heap.size W W1) (hB : B ≤ W.heap.size) : Below B W W1 := ⟨h.os, h.tape, h.output, h.size, fun k hk => h.block k (Nat.lt_of_lt_of_le hk hB)⟩
structure run1Chk (ops : Array Oper) : Prop where
  f0 : takeB .any ops [] #[false, false, false, false, false, false, false, false, false, false] #[false, false, true, false, false, false, false, false, false, false] 2 = true
  f1 : anyB .any ops #[false, false, true, false, false, false, false, false, false, false] #[true, false, true, false, false, false, false, false, false, false] 0 = true
  f2 : anyB .any ops #[true, false, true, false, false, false, false, false, false, false] #[true, false, true, true, false, false, false, false, false, false] 3 = true
  f3 : anyB .any ops #[true, false, true, true, false, false, false, false, false, false] #[true, false, true, true, true, false, false, false, false, false] 4 = true
  f4 : anyB .any ops #[true, false, true, true, true, false, false, false, false, false] #[true, false, true, true, true, true, false, false, false, false] 5 = true
  f5 : anyB .any ops #[true, false, true, true, true, true, false, false, false, false] #[true, false, true, true, true, true, true, false, false, false] 6 = true
  f6 : readyB .any ops #[true, false, true, true, true, true, true, false, false, false] #[true, true, true, true, true, true, true, false, false, false] 1 = true
  f7 : anyB .any ops #[true, true, true, true, true, true, true, false, false, false] #[true, true, true, true, true, true, true, true, false, false] 7 = true
  f8 : readyB .any ops #[true, true, true, true, true, true, true, true, false, false] #[true, true, true, true, true, true, true, true, true, false] 8 = true
  f9 : anyB .any ops #[true, true, true, true, true, true, true, true, true, false] #[true, true, true, true, true, true, true, true, true, true] 9 = true
  f10 : (Region.ready .any ops #[true, true, true, true, true, true, true, true, true, true] == []) = true
set_option maxHeartbeats 1000000 in
theorem run1 {ops : Array Oper} {id : Nat} {Q : Exit → Act → World → Prop} {a : Act} {W : World} {w0 : World} (hB0 : Below w0.heap.size w0 W) {b7 n1 c1 : Nat} {A1 : Option Addr} {m : Mst} {xs : List S65} (hb7 : W.heap[b7]? = some (.cells (evc m).toArray 42 (0, 0))) (h12 : m.hd.length = 12) (hn : n1 = xs.length) (hC : Kd.C k65 W A1 xs.length xs) (hc1 : xs.length ≤ c1) (hl : xs.length < 5864062014805) {q21 : Int} (hq21 : q21 = if m.fu < 0 then 0 else m.fu)
    
    {o0 o1 o2 o3 o4 o5 o6 o7 o8 o9 : Oper} (hsize : ops.size = 10) (h0 : ops[0]? = some o0) (h1 : ops[1]? = some o1) (h2 : ops[2]? = some o2) (h3 : ops[3]? = some o3) (h4 : ops[4]? = some o4) (h5 : ops[5]? = some o5) (h6 : ops[6]? = some o6) (h7 : ops[7]? = some o7) (h8 : ops[8]? = some o8) (h9 : ops[9]? = some o9)
    (g0 : o0.guard = none ∧ o0.dst = some 16) (g1 : o1.guard = none ∧ o1.dst = some 17) (g2 : o2.guard = none ∧ o2.dst = some 18) (g3 : o3.guard = none ∧ o3.dst = some 19) (g4 : o4.guard = none ∧ o4.dst = some 20) (g5 : o5.guard = none ∧ o5.dst = some 21) (g6 : o6.guard = none ∧ o6.dst = some 22) (g7 : o7.guard = none ∧ o7.dst = some 23) (g8 : o8.guard = none ∧ o8.dst = some 24) (g9 : o9.guard = none ∧ o9.dst = some 13)
    (p0 : o0.op = .move (.tmp 1)) (p1 : o1.op = .call { callee := .value (.func 41), args := #[.tmp 16], argTypes := #[45] }) (p2 : o2.op = .load 42 (.tmp 7)) (p3 : o3.op = .move (.tmp 3)) (p4 : o4.op = .move (.tmp 4)) (p5 : o5.op = .call { callee := .builtin .max, args := #[.tmp 20, .const (.int .i64 0)], argTypes := #[3, 3] }) (p6 : o6.op = .call { callee := .builtin .min, args := #[.tmp 21, .const (.int .i64 100000)], argTypes := #[3, 3] }) (p7 : o7.op = .build 94 #[(0, .tmp 17), (1, .tmp 18), (2, .tmp 19), (3, .tmp 22)]) (p8 : o8.op = .box 94 (.tmp 23)) (p9 : o9.op = .assign (.tmp 24))
    
    (hsz : a.tmps.size = 64) (v1 : a.eval (.tmp 1) = .slice A1 n1 c1) (v7 : a.eval (.tmp 7) = .pointer (some ⟨b7, 0, none⟩)) (v3 : a.eval (.tmp 3) = .int .i64 m.ow) (v4 : a.eval (.tmp 4) = .int .i64 m.fu) (hc : run1Chk ops)
    (hQ : ∀ (d : Tmp) v c a w, Q (.panic c) (Act.put a (some d) v) w → Q (.panic c) a w)
    (hpost : ∀ (A2 : Option Addr) (c2 g : Nat) W', SAo 94 w0 W' g (.slice A2 xs.length c2) (.slice none 0 0) ⟨{ m with fu := clampF m.fu, e := 0 }, xs, []⟩ → Below W.heap.size W W' → Q .normal ((((((((((a.put (some 18) (.agg (evc m).toArray)).put (some 16) (.slice A1 xs.length c1)).put (some 19) (.int .i64 m.ow)).put (some 20) (.int .i64 m.fu)).put (some 21) (.int .i64 q21)).put (some 22) (.int .i64 (clampF m.fu))).put (some 17) (.slice A2 xs.length c2)).put (some 23) (.agg (mcs (.slice A2 xs.length c2) (.slice none 0 0) { m with fu := clampF m.fu, e := 0 }).toArray)).put (some 24) (.pointer (some ⟨g, 0, none⟩))).put (some 13) (.pointer (some ⟨g, 0, none⟩))) W') :
    (Code.region id ops true).wp Try.prog Q a W := by
  subst hn
  refine start_ (n := 10) (S := fun w' => w'.heap[b7]? = some (.cells (evc m).toArray 42 (0, 0))) (ds := []) #[false, false, false, false, false, false, false, false, false, false] (by kernel_rfl) hsize rfl hb7 (fun hS2 => ?_)
  refine take_ (i := 2) (N := some 18) (v := (.agg (evc m).toArray)) #[false, false, true, false, false, false, false, false, false, false] h2 g2.2 hc.f0 (fun c a w => by rw [g2.2]; exact hQ _ _ c a w) (Or.inl ⟨(by simp [Region.wanted, g2.1]), fun w9 hw9 => run_load42 p2 h12 (by rw [v7]) hw9⟩) hS2 rfl ?_
  refine pure_ (i := 0) (N := some 16) (v := (.slice A1 xs.length c1)) #[true, false, true, false, false, false, false, false, false, false] h0 g0.2 hc.f1 (fun c a w => by rw [g0.2]; exact hQ _ _ c a w) (Or.inl ⟨(by simp [Region.wanted, g0.1]), run_move9 p0 (by rw [act_ne _ _ (by decide), v1])⟩) rfl ?_
  refine pure_ (i := 3) (N := some 19) (v := (.int .i64 m.ow)) #[true, false, true, true, false, false, false, false, false, false] h3 g3.2 hc.f2 (fun c a w => by rw [g3.2]; exact hQ _ _ c a w) (Or.inl ⟨(by simp [Region.wanted, g3.1]), run_move9 p3 (by rw [act_ne _ _ (by decide), act_ne _ _ (by decide), v3])⟩) rfl ?_
  refine pure_ (i := 4) (N := some 20) (v := (.int .i64 m.fu)) #[true, false, true, true, true, false, false, false, false, false] h4 g4.2 hc.f3 (fun c a w => by rw [g4.2]; exact hQ _ _ c a w) (Or.inl ⟨(by simp [Region.wanted, g4.1]), run_move9 p4 (by rw [act_ne _ _ (by decide), act_ne _ _ (by decide), act_ne _ _ (by decide), v4])⟩) rfl ?_
  refine pure_ (i := 5) (N := some 21) (v := (.int .i64 q21)) #[true, false, true, true, true, true, false, false, false, false] h5 g5.2 hc.f4 (fun c a w => by rw [g5.2]; exact hQ _ _ c a w) (Or.inl ⟨(by simp [Region.wanted, g5.1]), (fun w => (run_max p5 (by rw [act_same _ _ _ (by (try simp only [act_size]); rw [hsz]; decide)]) w).trans (by rw [hq21]))⟩) rfl ?_
  refine pure_ (i := 6) (N := some 22) (v := (.int .i64 (clampF m.fu))) #[true, false, true, true, true, true, true, false, false, false] h6 g6.2 hc.f5 (fun c a w => by rw [g6.2]; exact hQ _ _ c a w) (Or.inl ⟨(by simp [Region.wanted, g6.1]), (fun w => (run_min p6 (by rw [act_same _ _ _ (by (try simp only [act_size]); rw [hsz]; decide)]) w).trans (by rw [hq21]; rfl))⟩) rfl ?_
  refine YtdiadmlgeojefaaW.PrintLast.one_ (i := 1) (N := some 17) #[true, true, true, true, true, true, true, false, false, false] h1 g1.2 hc.f6 (by decide) (fun K hK => goes_ (f := 41) (fn := Try.f41) Try.func41 (by kernel_rfl) rfl #[.slice A1 xs.length c1] (by simp [Region.wanted, g1.1]) g1.2 p1 ?_ ?_)
  · simp only [List.map_toArray, List.map_cons, List.map_nil]
    rw [act_ne _ _ (by decide), act_ne _ _ (by decide), act_ne _ _ (by decide), act_ne _ _ (by decide), act_same _ _ _ (by (try simp only [act_size]); rw [hsz]; decide)]
    try rfl
  refine (api_Var_41.calls A1 c1 xs xs W.drew (Kd.C_below hC (below_drew (Below.refl W.heap.size W))) hc1 (clone_some xs hl)).mono ?_
  rintro e W1 ⟨v0, rfl, hR0, hbel⟩
  have hN0 := N65_tight (Kd.R_N hR0)
  obtain ⟨A2, c2, e0⟩ := Kd.N_slice hN0
  subst e0
  refine ⟨_, rfl, ?_⟩
  have hB9 : Below W.heap.size W W1 := below_step (below_drew (Below.refl W.heap.size W)) hbel
  have h79 := below_blk hB9 hb7
  refine hK _ _ h79 (fun hS3 => ?_)
  clear hS2
  have hS2 := hS3
  refine pure_ (i := 7) (N := some 23) (v := (.agg (mcs (.slice A2 xs.length c2) (.slice none 0 0) { m with fu := clampF m.fu, e := 0 }).toArray)) #[true, true, true, true, true, true, true, true, false, false] h7 g7.2 hc.f7 (fun c a w => by rw [g7.2]; exact hQ _ _ c a w) (Or.inl ⟨(by simp [Region.wanted, g7.1]), run_build94 p7 h12 (by rw [act_same _ _ _ (by (try simp only [act_size]); rw [hsz]; decide)]) (by rw [act_ne _ _ (by decide), act_ne _ _ (by decide), act_ne _ _ (by decide), act_ne _ _ (by decide), act_ne _ _ (by decide), act_ne _ _ (by decide), act_same _ _ _ (by (try simp only [act_size]); rw [hsz]; decide)]) (by rw [act_ne _ _ (by decide), act_ne _ _ (by decide), act_ne _ _ (by decide), act_ne _ _ (by decide), act_same _ _ _ (by (try simp only [act_size]); rw [hsz]; decide)]) (by rw [act_ne _ _ (by decide), act_same _ _ _ (by (try simp only [act_size]); rw [hsz]; decide)])⟩) rfl ?_
  refine YtdiadmlgeojefaaW.PrintLast.one_ (i := 8) (N := some 24) #[true, true, true, true, true, true, true, true, true, false] h8 g8.2 hc.f8 (by decide) (fun K hK => step_of g8.1 g8.2 ?_)
  refine Mine.ev_box g8.1 g8.2 (.tmp 23) p8 _ (by rw [act_same _ _ _ (by (try simp only [act_size]); rw [hsz]; decide)]) ?_
  intro g hbn W2 hblk hbel2
  rw [g8.2]
  refine hK _ _ (below_blk hbel2 h79) (fun hS4 => ?_)
  clear hS2
  have hS2 := hS4
  refine pure_ (i := 9) (N := some 13) (v := (.pointer (some ⟨g, 0, none⟩))) #[true, true, true, true, true, true, true, true, true, true] h9 g9.2 hc.f9 (fun c a w => by rw [g9.2]; exact hQ _ _ c a w) (Or.inl ⟨(by simp [Region.wanted, g9.1]), run_assign p9 (by rw [act_same _ _ _ (by (try simp only [act_size]); rw [hsz]; decide)])⟩) rfl ?_
  refine (done_ hc.f10 ?_)
  have hs9 := hB9.size
  have hs0 := hB0.size
  have hB10 : Below W.heap.size W W2 := hB9.trans (below_weaken_ hbel2 hs9)
  refine hpost A2 c2 g W2 ⟨.inl rfl, ⟨hblk, h12, by omega, below_step hB0 hB10⟩, Kd.N_lower (Kd.N_below hN0 hbel2) hs0, ⟨fun _ => False, fun _ h => h.elim, Kd.N_nil _ _ _ _ _⟩, by show xs.length ≤ _; omega⟩ hB10
structure run9Chk (ops : Array Oper) : Prop where
  f0 : anyB .any ops #[false, false, false, false, false, false, false] #[true, false, false, false, false, false, false] 0 = true
  f1 : anyB .any ops #[true, false, false, false, false, false, false] #[true, true, false, false, false, false, false] 1 = true
  f2 : anyB .any ops #[true, true, false, false, false, false, false] #[true, true, true, false, false, false, false] 2 = true
  f3 : takeB .any ops [] #[true, true, true, false, false, false, false] #[true, true, true, true, false, false, false] 3 = true
  f4 : anyB .any ops #[true, true, true, true, false, false, false] #[true, true, true, true, true, false, false] 4 = true
  f5 : anyB .any ops #[true, true, true, true, true, false, false] #[true, true, true, true, true, true, false] 5 = true
  f6 : anyB .any ops #[true, true, true, true, true, true, false] #[true, true, true, true, true, true, true] 6 = true
  f7 : (Region.ready .any ops #[true, true, true, true, true, true, true] == []) = true
set_option maxHeartbeats 1000000 in
theorem run9 {ops : Array Oper} {id : Nat} {Q : Exit → Act → World → Prop} {a : Act} {W : World} {g : Nat} {e : Int} (he : W.cell? ⟨g, 19, none⟩ = some (.int .i64 e))
    
    {o0 o1 o2 o3 o4 o5 o6 : Oper} (hsize : ops.size = 7) (h0 : ops[0]? = some o0) (h1 : ops[1]? = some o1) (h2 : ops[2]? = some o2) (h3 : ops[3]? = some o3) (h4 : ops[4]? = some o4) (h5 : ops[5]? = some o5) (h6 : ops[6]? = some o6)
    (g0 : o0.guard = none ∧ o0.dst = some 52) (g1 : o1.guard = none ∧ o1.dst = some 53) (g2 : o2.guard = none ∧ o2.dst = some 54) (g3 : o3.guard = none ∧ o3.dst = some 55) (g4 : o4.guard = none ∧ o4.dst = some 10) (g5 : o5.guard = none ∧ o5.dst = some 11) (g6 : o6.guard = none ∧ o6.dst = some 12)
    (p0 : o0.op = .move (.tmp 13)) (p1 : o1.op = .nilCheck (.tmp 52)) (p2 : o2.op = .fieldAddr 94 (.tmp 53) 5) (p3 : o3.op = .load 30 (.tmp 54)) (p4 : o4.op = .assign (.const (.slice none 0 0))) (p5 : o5.op = .assign (.const (.slice none 0 0))) (p6 : o6.op = .assign (.tmp 55))
    
    (hsz : a.tmps.size = 64) (v13 : a.eval (.tmp 13) = .pointer (some ⟨g, 0, none⟩)) (hc : run9Chk ops)
    (hQ : ∀ (d : Tmp) v c a w, Q (.panic c) (Act.put a (some d) v) w → Q (.panic c) a w)
    (hpost : ∀ W', W' = W.drew → Q .normal (((((((a.put (some 52) (.pointer (some ⟨g, 0, none⟩))).put (some 53) (.pointer (some ⟨g, 0, none⟩))).put (some 54) (.pointer (some ⟨g, 19, none⟩))).put (some 55) (.int .i64 e)).put (some 10) (.slice none 0 0)).put (some 11) (.slice none 0 0)).put (some 12) (.int .i64 e)) W') :
    (Code.region id ops true).wp Try.prog Q a W := by
  refine start_ (n := 7) (S := fun w' => w'.cell? ⟨g, 19, none⟩ = some (.int .i64 e)) (ds := []) #[false, false, false, false, false, false, false] (by kernel_rfl) hsize rfl he (fun hS2 => ?_)
  refine pure_ (i := 0) (N := some 52) (v := (.pointer (some ⟨g, 0, none⟩))) #[true, false, false, false, false, false, false] h0 g0.2 hc.f0 (fun c a w => by rw [g0.2]; exact hQ _ _ c a w) (Or.inl ⟨(by simp [Region.wanted, g0.1]), run_move9 p0 (by rw [v13])⟩) rfl ?_
  refine pure_ (i := 1) (N := some 53) (v := (.pointer (some ⟨g, 0, none⟩))) #[true, true, false, false, false, false, false] h1 g1.2 hc.f1 (fun c a w => by rw [g1.2]; exact hQ _ _ c a w) (Or.inl ⟨(by simp [Region.wanted, g1.1]), run_nil9 p1 (by rw [act_same _ _ _ (by (try simp only [act_size]); rw [hsz]; decide)])⟩) rfl ?_
  refine pure_ (i := 2) (N := some 54) (v := (.pointer (some ⟨g, 19, none⟩))) #[true, true, true, false, false, false, false] h2 g2.2 hc.f2 (fun c a w => by rw [g2.2]; exact hQ _ _ c a w) (Or.inl ⟨(by simp [Region.wanted, g2.1]), run_fa94_5 p2 (by rw [act_same _ _ _ (by (try simp only [act_size]); rw [hsz]; decide)])⟩) rfl ?_
  refine take_ (i := 3) (N := some 55) (v := (.int .i64 e)) #[true, true, true, true, false, false, false] h3 g3.2 hc.f3 (fun c a w => by rw [g3.2]; exact hQ _ _ c a w) (Or.inl ⟨(by simp [Region.wanted, g3.1]), fun w9 hw9 => run_loadT p3 (by rw [act_same _ _ _ (by (try simp only [act_size]); rw [hsz]; decide)]) hw9 Try.underlying30 rfl⟩) hS2 rfl ?_
  refine pure_ (i := 4) (N := some 10) (v := (.slice none 0 0)) #[true, true, true, true, true, false, false] h4 g4.2 hc.f4 (fun c a w => by rw [g4.2]; exact hQ _ _ c a w) (Or.inl ⟨(by simp [Region.wanted, g4.1]), run_assign p4 rfl⟩) rfl ?_
  refine pure_ (i := 5) (N := some 11) (v := (.slice none 0 0)) #[true, true, true, true, true, true, false] h5 g5.2 hc.f5 (fun c a w => by rw [g5.2]; exact hQ _ _ c a w) (Or.inl ⟨(by simp [Region.wanted, g5.1]), run_assign p5 rfl⟩) rfl ?_
  refine pure_ (i := 6) (N := some 12) (v := (.int .i64 e)) #[true, true, true, true, true, true, true] h6 g6.2 hc.f6 (fun c a w => by rw [g6.2]; exact hQ _ _ c a w) (Or.inl ⟨(by simp [Region.wanted, g6.1]), run_assign p6 (by rw [act_ne _ _ (by decide), act_ne _ _ (by decide), act_same _ _ _ (by (try simp only [act_size]); rw [hsz]; decide)])⟩) rfl ?_
  refine (done_ hc.f7 ?_)
  exact hpost _ rfl
structure run10Chk (ops : Array Oper) : Prop where
  f0 : anyB .any ops #[false, false, false, false, false, false, false, false, false, false, false] #[true, false, false, false, false, false, false, false, false, false, false] 0 = true
  f1 : anyB .any ops #[true, false, false, false, false, false, false, false, false, false, false] #[true, true, false, false, false, false, false, false, false, false, false] 1 = true
  f2 : anyB .any ops #[true, true, false, false, false, false, false, false, false, false, false] #[true, true, true, false, false, false, false, false, false, false, false] 2 = true
  f3 : takeB .any ops [] #[true, true, true, false, false, false, false, false, false, false, false] #[true, true, true, true, false, false, false, false, false, false, false] 3 = true
  f4 : anyB .any ops #[true, true, true, true, false, false, false, false, false, false, false] #[true, true, true, true, true, false, false, false, false, false, false] 4 = true
  f5 : anyB .any ops #[true, true, true, true, true, false, false, false, false, false, false] #[true, true, true, true, true, true, false, false, false, false, false] 5 = true
  f6 : anyB .any ops #[true, true, true, true, true, true, false, false, false, false, false] #[true, true, true, true, true, true, true, false, false, false, false] 6 = true
  f7 : takeB .any ops [] #[true, true, true, true, true, true, true, false, false, false, false] #[true, true, true, true, true, true, true, true, false, false, false] 7 = true
  f8 : anyB .any ops #[true, true, true, true, true, true, true, true, false, false, false] #[true, true, true, true, true, true, true, true, true, false, false] 8 = true
  f9 : anyB .any ops #[true, true, true, true, true, true, true, true, true, false, false] #[true, true, true, true, true, true, true, true, true, true, false] 9 = true
  f10 : anyB .any ops #[true, true, true, true, true, true, true, true, true, true, false] #[true, true, true, true, true, true, true, true, true, true, true] 10 = true
  f11 : (Region.ready .any ops #[true, true, true, true, true, true, true, true, true, true, true] == []) = true
set_option maxHeartbeats 1000000 in
theorem run10 {ops : Array Oper} {id : Nat} {Q : Exit → Act → World → Prop} {a : Act} {W : World} {g : Nat} {vv ov : Value} (hv : W.cell? ⟨g, 0, none⟩ = some vv) (ho : W.cell? ⟨g, 18, none⟩ = some ov)
    
    {o0 o1 o2 o3 o4 o5 o6 o7 o8 o9 o10 : Oper} (hsize : ops.size = 11) (h0 : ops[0]? = some o0) (h1 : ops[1]? = some o1) (h2 : ops[2]? = some o2) (h3 : ops[3]? = some o3) (h4 : ops[4]? = some o4) (h5 : ops[5]? = some o5) (h6 : ops[6]? = some o6) (h7 : ops[7]? = some o7) (h8 : ops[8]? = some o8) (h9 : ops[9]? = some o9) (h10 : ops[10]? = some o10)
    (g0 : o0.guard = none ∧ o0.dst = some 56) (g1 : o1.guard = none ∧ o1.dst = some 57) (g2 : o2.guard = none ∧ o2.dst = some 58) (g3 : o3.guard = none ∧ o3.dst = some 59) (g4 : o4.guard = none ∧ o4.dst = some 60) (g5 : o5.guard = none ∧ o5.dst = some 61) (g6 : o6.guard = none ∧ o6.dst = some 62) (g7 : o7.guard = none ∧ o7.dst = some 63) (g8 : o8.guard = none ∧ o8.dst = some 10) (g9 : o9.guard = none ∧ o9.dst = some 11) (g10 : o10.guard = none ∧ o10.dst = some 12)
    (p0 : o0.op = .move (.tmp 13)) (p1 : o1.op = .nilCheck (.tmp 56)) (p2 : o2.op = .fieldAddr 94 (.tmp 57) 0) (p3 : o3.op = .load 45 (.tmp 58)) (p4 : o4.op = .move (.tmp 13)) (p5 : o5.op = .nilCheck (.tmp 60)) (p6 : o6.op = .fieldAddr 94 (.tmp 61) 4) (p7 : o7.op = .load 47 (.tmp 62)) (p8 : o8.op = .assign (.tmp 59)) (p9 : o9.op = .assign (.tmp 63)) (p10 : o10.op = .assign (.const (.int .i64 0)))
    
    (hsz : a.tmps.size = 64) (v13 : a.eval (.tmp 13) = .pointer (some ⟨g, 0, none⟩)) (hc : run10Chk ops)
    (hQ : ∀ (d : Tmp) v c a w, Q (.panic c) (Act.put a (some d) v) w → Q (.panic c) a w)
    (hpost : ∀ W', W' = W.drew → Q .normal (((((((((((a.put (some 56) (.pointer (some ⟨g, 0, none⟩))).put (some 57) (.pointer (some ⟨g, 0, none⟩))).put (some 58) (.pointer (some ⟨g, 0, none⟩))).put (some 59) vv).put (some 60) (.pointer (some ⟨g, 0, none⟩))).put (some 61) (.pointer (some ⟨g, 0, none⟩))).put (some 62) (.pointer (some ⟨g, 18, none⟩))).put (some 63) ov).put (some 10) vv).put (some 11) ov).put (some 12) (.int .i64 0)) W') :
    (Code.region id ops true).wp Try.prog Q a W := by
  refine start_ (n := 11) (S := fun w' => w'.cell? ⟨g, 0, none⟩ = some vv ∧ w'.cell? ⟨g, 18, none⟩ = some ov) (ds := []) #[false, false, false, false, false, false, false, false, false, false, false] (by kernel_rfl) hsize rfl ⟨hv, ho⟩ (fun hS2 => ?_)
  refine pure_ (i := 0) (N := some 56) (v := (.pointer (some ⟨g, 0, none⟩))) #[true, false, false, false, false, false, false, false, false, false, false] h0 g0.2 hc.f0 (fun c a w => by rw [g0.2]; exact hQ _ _ c a w) (Or.inl ⟨(by simp [Region.wanted, g0.1]), run_move9 p0 (by rw [v13])⟩) rfl ?_
  refine pure_ (i := 1) (N := some 57) (v := (.pointer (some ⟨g, 0, none⟩))) #[true, true, false, false, false, false, false, false, false, false, false] h1 g1.2 hc.f1 (fun c a w => by rw [g1.2]; exact hQ _ _ c a w) (Or.inl ⟨(by simp [Region.wanted, g1.1]), run_nil9 p1 (by rw [act_same _ _ _ (by (try simp only [act_size]); rw [hsz]; decide)])⟩) rfl ?_
  refine pure_ (i := 2) (N := some 58) (v := (.pointer (some ⟨g, 0, none⟩))) #[true, true, true, false, false, false, false, false, false, false, false] h2 g2.2 hc.f2 (fun c a w => by rw [g2.2]; exact hQ _ _ c a w) (Or.inl ⟨(by simp [Region.wanted, g2.1]), run_fa94_0 p2 (by rw [act_same _ _ _ (by (try simp only [act_size]); rw [hsz]; decide)])⟩) rfl ?_
  refine take_ (i := 3) (N := some 59) (v := vv) #[true, true, true, true, false, false, false, false, false, false, false] h3 g3.2 hc.f3 (fun c a w => by rw [g3.2]; exact hQ _ _ c a w) (Or.inl ⟨(by simp [Region.wanted, g3.1]), fun w9 hw9 => run_loadT p3 (by rw [act_same _ _ _ (by (try simp only [act_size]); rw [hsz]; decide)]) hw9.1 Try.underlying45 rfl⟩) hS2 rfl ?_
  refine pure_ (i := 4) (N := some 60) (v := (.pointer (some ⟨g, 0, none⟩))) #[true, true, true, true, true, false, false, false, false, false, false] h4 g4.2 hc.f4 (fun c a w => by rw [g4.2]; exact hQ _ _ c a w) (Or.inl ⟨(by simp [Region.wanted, g4.1]), run_move9 p4 (by rw [act_ne _ _ (by decide), act_ne _ _ (by decide), act_ne _ _ (by decide), act_ne _ _ (by decide), v13])⟩) rfl ?_
  refine pure_ (i := 5) (N := some 61) (v := (.pointer (some ⟨g, 0, none⟩))) #[true, true, true, true, true, true, false, false, false, false, false] h5 g5.2 hc.f5 (fun c a w => by rw [g5.2]; exact hQ _ _ c a w) (Or.inl ⟨(by simp [Region.wanted, g5.1]), run_nil9 p5 (by rw [act_same _ _ _ (by (try simp only [act_size]); rw [hsz]; decide)])⟩) rfl ?_
  refine pure_ (i := 6) (N := some 62) (v := (.pointer (some ⟨g, 18, none⟩))) #[true, true, true, true, true, true, true, false, false, false, false] h6 g6.2 hc.f6 (fun c a w => by rw [g6.2]; exact hQ _ _ c a w) (Or.inl ⟨(by simp [Region.wanted, g6.1]), run_fa94_4 p6 (by rw [act_same _ _ _ (by (try simp only [act_size]); rw [hsz]; decide)])⟩) rfl ?_
  refine take_ (i := 7) (N := some 63) (v := ov) #[true, true, true, true, true, true, true, true, false, false, false] h7 g7.2 hc.f7 (fun c a w => by rw [g7.2]; exact hQ _ _ c a w) (Or.inl ⟨(by simp [Region.wanted, g7.1]), fun w9 hw9 => run_loadT p7 (by rw [act_same _ _ _ (by (try simp only [act_size]); rw [hsz]; decide)]) hw9.2 Try.underlying47 rfl⟩) hS2 rfl ?_
  refine pure_ (i := 8) (N := some 10) (v := vv) #[true, true, true, true, true, true, true, true, true, false, false] h8 g8.2 hc.f8 (fun c a w => by rw [g8.2]; exact hQ _ _ c a w) (Or.inl ⟨(by simp [Region.wanted, g8.1]), run_assign p8 (by rw [act_ne _ _ (by decide), act_ne _ _ (by decide), act_ne _ _ (by decide), act_ne _ _ (by decide), act_same _ _ _ (by (try simp only [act_size]); rw [hsz]; decide)])⟩) rfl ?_
  refine pure_ (i := 9) (N := some 11) (v := ov) #[true, true, true, true, true, true, true, true, true, true, false] h9 g9.2 hc.f9 (fun c a w => by rw [g9.2]; exact hQ _ _ c a w) (Or.inl ⟨(by simp [Region.wanted, g9.1]), run_assign p9 (by rw [act_ne _ _ (by decide), act_same _ _ _ (by (try simp only [act_size]); rw [hsz]; decide)])⟩) rfl ?_
  refine pure_ (i := 10) (N := some 12) (v := (.int .i64 0)) #[true, true, true, true, true, true, true, true, true, true, true] h10 g10.2 hc.f10 (fun c a w => by rw [g10.2]; exact hQ _ _ c a w) (Or.inl ⟨(by simp [Region.wanted, g10.1]), run_assign p10 rfl⟩) rfl ?_
  refine (done_ hc.f11 ?_)
  exact hpost _ rfl
end Go.Proofs.Ytdiadmlgeojefaa.A
namespace Go.Proofs.Ytdiadmlgeojefaa.A
open Go.RowKit Go.Proofs.YtdiadmlgeojefaaW.PrintWords Go.Proofs.YtdiadmlgeojefaaW.PrintLast Go.Proofs.YtdiadmlgeojefaaW.PrintMore
set_option linter.unusedVariables false
set_option linter.unusedSimpArgs false
theorem runL_drop (stms : Sg → List S29 → Option Sg) (on : ByteArray) (s : Sg) (xs : List S29) {k : Nat} (hk : k < xs.length) : runL stms on s (xs.drop k) = (if (xs[k].f0 == 3) = true then (if (xs[k].f1.toList == on.toList) = true then stms s xs[k].f3 else some s) else some s).bind fun s2 => runL stms on s2 (xs.drop (k + 1)) := by
  rw [List.drop_eq_getElem_cons hk]
  rfl
theorem run_end {w W : World} {g : Nat} {vv ov : Value} {s : Sg} (h : SAo 94 w W g vv ov s) (he : s.m.e = 0) : RunPost w s (.returned (.tuple #[vv, ov, .int .i64 0])) W.drew := by
  have h := h.below (below_drew (Below.refl W.heap.size W))
  exact ⟨vv, ov, by rw [he], h.hm.bel, fun h9 => absurd he h9, fun _ => ⟨h.hx, h.hd⟩⟩
theorem run_err {w W : World} {g : Nat} {s : Sg} (h : SAt 94 w W g s) (he : s.m.e ≠ 0) : RunPost w s (.returned (.tuple #[.slice none 0 0, .slice none 0 0, .int .i64 s.m.e])) W.drew := by
  have h := h.below (below_drew (Below.refl W.heap.size W))
  exact ⟨_, _, rfl, h.bel, fun _ => ⟨rfl, rfl⟩, fun h9 => absurd h9 he⟩
set_option maxHeartbeats 4000000 in
set_option maxRecDepth 100000 in
theorem run_calls {stms : Sg → List S29 → Option Sg} {w : World} {ok : Nat → Prop} {T : S29} {v0 : Value} {xs : List S65} {A1 : Option Addr} {c1 : Nat} {m : Mst} {s' : Sg} (hN : StmsF 42 stms) (hV : VK w ok v0 T.f3) (hC : Kd.C k65 w A1 xs.length xs) (hc1 : xs.length ≤ c1) (hl : xs.length < 5864062014805) (h12 : m.hd.length = 12) (h : runP stms xs m T = some s') :
    Calls Try.prog 22 #[.agg (nc T v0).toArray, .slice A1 xs.length c1, .agg (evc m).toArray, .int .i64 m.ow, .int .i64 m.fu] w (RunPost w s') := by
  have HB := Aside0.mk (Below.refl w.heap.size w)
  have HN := Aside0.mk (p := StmsF 42 stms) @hN
  have VT := Aside0.mk hV
  have HCX := Aside0.mk hC
  have HC1 := Aside0.mk hc1
  have HLX := Aside0.mk hl
  have H12 := Aside0.mk h12
  have HH := Aside0.mk h
  obtain ⟨A, c, e0⟩ := Kd.V_slice hV
  subst e0
  have HL := Aside0.mk (VK_len hV)
  obtain ⟨n, en⟩ : ∃ n_, n_ = T.f3.length := ⟨_, rfl⟩
  rw [← en]
  have EN := Aside0.mk en
  obtain ⟨n1, en1⟩ : ∃ n_, n_ = xs.length := ⟨_, rfl⟩
  rw [← en1]
  have EN1 := Aside0.mk en1
  obtain ⟨ec, eec⟩ : ∃ e_, e_ = evc m := ⟨_, rfl⟩
  have hec1 : ec[0]? = some (.string m.on) := by rw [eec]; rfl
  rw [← eec]
  have HEC := Aside0.mk eec
  have HEC1 := Aside0.mk hec1
  obtain ⟨q21, hq21⟩ : ∃ q_ : Int, q_ = if m.fu < 0 then 0 else m.fu := ⟨_, rfl⟩
  have HQ21 := Aside0.mk hq21
  clear hV hN hC hc1 hl h12 h en en1 eec hec1 hq21
  go_enter Try.func22, Try.ntmps22
  go_wp2_with (first
    | ((with_reducible refine gate_dst (N := 5) rfl ?_); refine Mine.ev_box rfl (N := 5) rfl (.tmp 0) rfl (nc (T) ((.slice A n c))) rfl ?_; intro b5 hbn w1 hblk hbel; have GBb5 := Aside0.mk (show w.heap.size ≤ b5 by have := HB.out.size; omega); have n0 := Aside0.mk (below_step HB.out hbel); clear HB; have HB := n0; clear n0; have BXb5 := Aside0.mk hblk; clear hblk hbel hbn)
    | ((with_reducible refine gate_dst (N := 7) rfl ?_); refine Mine.ev_box rfl (N := 7) rfl (.tmp 2) rfl ec rfl ?_; intro b7 hbn w1 hblk hbel; have GBb7 := Aside0.mk (show w.heap.size ≤ b7 by have := HB.out.size; omega); have LTb5b7 := Aside0.mk (show b5 < b7 by have := blk_lt BXb5.out; omega); have n0 := Aside0.mk (below_step HB.out hbel); have n1 := Aside0.mk (below_blk hbel BXb5.out); clear HB BXb5; have HB := n0; have BXb5 := n1; clear n0 n1; have BXb7 := Aside0.mk hblk; clear hblk hbel hbn))
  refine run1 HB.out (b7 := b7) (n1 := n1) (c1 := c1) (A1 := A1) (m := m) (xs := xs) (by rw [← HEC.out]; exact BXb7.out) H12.out EN1.out (Kd.C_below HCX.out HB.out) HC1.out HLX.out HQ21.out rfl rfl rfl rfl rfl rfl rfl rfl rfl rfl rfl ⟨rfl, rfl⟩ ⟨rfl, rfl⟩ ⟨rfl, rfl⟩ ⟨rfl, rfl⟩ ⟨rfl, rfl⟩ ⟨rfl, rfl⟩ ⟨rfl, rfl⟩ ⟨rfl, rfl⟩ ⟨rfl, rfl⟩ ⟨rfl, rfl⟩ rfl rfl rfl rfl rfl rfl rfl rfl rfl rfl  rfl rfl rfl rfl rfl (by constructor <;> kernel_rfl) (fun _ _ _ _ _ h => h) ?_
  intro A2 c2 g w2 hsa hb2
  obtain ⟨s0, es0⟩ : ∃ s_, s_ = (⟨{ m with fu := clampF m.fu, e := 0 }, xs, []⟩ : Sg) := ⟨_, rfl⟩
  have hh0 : runL stms m.on s0 T.f3 = some s' := by rw [es0]; exact HH.out
  rw [← es0] at hsa
  have H0 := Aside0.mk hh0
  have HM := Aside0.mk (show SAt 94 w w2 g s0 from ⟨_, _, hsa⟩)
  have HK := Aside0.mk (Fr.of_below hsa.hm.bel : Fr 94 w w w2)
  have GW := Aside0.mk (Nat.le_refl w.heap.size)
  have n0 := Aside0.mk (below_blk hb2 BXb5.out)
  have n1 := Aside0.mk (below_blk hb2 BXb7.out)
  have HX1 := Aside0.mk EN1.out
  clear BXb5 BXb7 hb2 hsa es0 hh0 HH HB HCX HC1 HLX EN1 H12
  have BXb5 := n0
  have BXb7 := n1
  clear n0 n1
  simp only [Act.put, List.setIfInBounds_toArray, List.set_cons_zero, List.set_cons_succ]
  go_wp2_with (first
    | ((with_reducible refine gate_dst (N := 26) rfl ?_); refine ev_cell rfl (N := 26) rfl 27 (.tmp 25) rfl ⟨b5, 3, none⟩ rfl (.slice A n c) _ ((Mine.blk_cells BXb5.out 3).trans rfl) Try.underlying27 rfl ?_))
  go_loopg [28] (n + 1) (fun kq v28 w' => ∃ (k : Nat) (s2 : Sg), v28 = .int .i64 (k : Int) ∧ Aside0 (kq + k = n + 1) ∧ Aside0 (k ≤ n) ∧ Aside0 (runL stms m.on s2 (T.f3.drop k) = some s') ∧ Aside0 (SAt 94 w w' g s2) ∧ Aside0 (Fr 94 w w w') ∧ Aside0 (w'.heap[b7]? = some (.cells ec.toArray 42 (0, 0))))
  case atStart => exact ⟨0, s0, rfl, ⟨rfl⟩, ⟨Nat.zero_le _⟩, H0, HM, HK, BXb7⟩
  case round =>
    clear HM HK H0 BXb7 BXb5
    obtain ⟨k, s2, rfl, KQ, KN, HH, HM, HK, BXb7⟩ := hrel
    by_cases hlt : k < n
    · have hx : k < T.f3.length := by have := EN.out; omega
      have hk64 : (k : Int) + 1 ≤ 9223372036854775807 := by have := HL.out; have := EN.out; omega
      have HK64 := Aside0.mk hk64
      clear hk64
      have hh := HH.out
      rw [runL_drop stms m.on s2 T.f3 hx] at hh
      obtain ⟨s3, h3, h4⟩ := Option.bind_eq_some_iff.1 hh
      obtain ⟨ad, ap, v, eA, eP, hcell, hVx⟩ := VK_elem VT.out hx
      obtain ⟨x, ex⟩ : ∃ x_, x_ = T.f3[k] := ⟨_, rfl⟩
      rw [← ex] at h3 hcell hVx
      obtain ⟨A3, c3, ev⟩ := Kd.V_slice hVx
      subst ev
      obtain ⟨n3, en3⟩ : ∃ n_, n_ = x.f3.length := ⟨_, rfl⟩
      have VX := Aside0.mk hVx
      rw [← en3] at hcell
      have EN3 := Aside0.mk en3
      have H4 := Aside0.mk h4
      have EAx := Aside0.mk eA
      have EPx := Aside0.mk eP
      have HCx := Aside0.mk hcell
      obtain ⟨kq, rfl⟩ : ∃ q, gk = q + 1 := ⟨gk - 1, by have := KQ.out; omega⟩
      clear hh h4 eA eP hcell hVx HH ex hx en3
      rcases Bool.eq_false_or_eq_true (x.f0 == 3) with c3' | c3'
      · rw [if_pos c3'] at h3
        rcases Bool.eq_false_or_eq_true (x.f1.toList == m.on.toList) with c4 | c4
        · rw [if_pos c4] at h3
          have H3 := Aside0.mk h3
          clear h3
          go_wp2_with (first
            | ((with_reducible refine gate_dst (N := 30) rfl ?_); refine ev_index rfl (N := 30) rfl 27 29 (.tmp 26) (.tmp 28) rfl (ad := ad) (n := n) (c := c) (k := k) (sz := 5) (congrArg (fun A => Value.slice A n c) EAx.out) rfl hlt EPx.out Try.underlying27 info29s ?_)
            | ((with_reducible refine gate_dst (N := 31) rfl ?_); refine Mine.ev_load rfl (N := 31) rfl 29 (.tmp 30) rfl ap rfl (nc x (.slice A3 n3 c3)) _ (fun j u hu => cell_up HM.out.bel (HCx.out j u hu)) Try.underlying29 rfl info29s ?_)
            | ((with_reducible refine gate_dst (N := 15) rfl ?_); refine ev_alloc29 rfl (N := 15) rfl rfl ?_; intro b1 hbn w1 hblk hbel; have GBb1 := Aside0.mk (show w.heap.size ≤ b1 by have := HK.out.1; omega); have LTb7b1 := Aside0.mk (show b7 < b1 by have := blk_lt BXb7.out; omega); have n0 := Aside0.mk (HM.out.below hbel); have n1 := Aside0.mk (HK.out.below hbel); have n2 := Aside0.mk (below_blk hbel BXb7.out); clear HM HK BXb7; have HM := n0; have HK := n1; have BXb7 := n2; clear n0 n1 n2; have BXb1 := Aside0.mk hblk; clear hblk hbel hbn)
            | ((with_reducible refine gate_ (.store 29 (.tmp 15) (.tmp 31)) rfl ?_); refine ev_store29 rfl rfl (.tmp 15) (.tmp 31) rfl (b := b1) (z := x) (v := (.slice A3 n3 c3)) rfl rfl BXb1.out rfl ?_; intro w1 hblk hg hz; have n0 := Aside0.mk (HM.out.grown hg BXb1.out (by decide) (by have := GBb1.out; have := GW.out; omega)); have n1 := Aside0.mk (HK.out.grown hg GBb1.out); have n2 := Aside0.mk (grown_blk hg BXb7.out (by have := LTb7b1.out; omega)); have n3 := Aside0.mk (hblk); clear HM HK BXb7 BXb1; have HM := n0; have HK := n1; have BXb7 := n2; have BXb1 := n3; clear n0 n1 n2 n3; clear hblk hg hz)
            | ((with_reducible refine gate_dst (N := 33) rfl ?_); have e1 := (Mine.blk_cells BXb1.out 1).trans (show (nc x (Value.slice A3 n3 c3))[1]? = some (.string x.f1) from rfl); have e2 := (Mine.blk_cells BXb7.out 0).trans HEC1.out; refine ev_cell rfl (N := 33) rfl 3 (.tmp 32) rfl ⟨b1, 0, none⟩ rfl (.int .i64 x.f0) _ ((Mine.blk_cells BXb1.out 0).trans rfl) Try.underlying3 rfl ?_)
            | ((with_reducible refine gate_dst (N := 44) rfl ?_); refine ev_cell rfl (N := 44) rfl 27 (.tmp 43) rfl ⟨b1, 3, none⟩ rfl (.slice A3 n3 c3) _ ((Mine.blk_cells BXb1.out 3).trans rfl) Try.underlying27 rfl ?_)
            | ((with_reducible refine gate_dst (N := 45) rfl ?_); refine goesL_ (some 45) rfl rfl Try.func42 (by kernel_rfl) rfl #[.pointer (some ⟨g, 0, none⟩), .slice A3 n3 c3] rfl (by (try simp only [List.map_toArray, List.map_cons, List.map_nil]); first | done | rfl) ?_; refine (stms_n EN3.out HN.out HM.out VX.out H3.out).mono ?_; rintro e w1 ⟨rfl, he, hk⟩; refine ⟨_, rfl, ?_⟩; have n0 := Aside0.mk (he); have n1 := Aside0.mk (HK.out.trans hk); have n2 := Aside0.mk (Fr.blk hk (.inl rfl) BXb7.out (by decide)); have n3 := Aside0.mk (Fr.blk hk (.inl rfl) BXb1.out (by decide)); clear HM HK BXb7 BXb1; have HM := n0; have HK := n1; have BXb7 := n2; have BXb1 := n3; clear n0 n1 n2 n3; clear he hk))
          go_roundg kq
          case rel => exact ⟨k + 1, s3, by rw [w64_in (by have := HK64.out; omega)]; simp, ⟨by have := KQ.out; omega⟩, ⟨by omega⟩, H4, HM, HK, BXb7⟩
          case measure => omega
        · rw [if_neg (by rw [c4]; decide)] at h3
          simp only [Option.some.injEq] at h3
          subst h3
          go_wp2_with (first
            | ((with_reducible refine gate_dst (N := 30) rfl ?_); refine ev_index rfl (N := 30) rfl 27 29 (.tmp 26) (.tmp 28) rfl (ad := ad) (n := n) (c := c) (k := k) (sz := 5) (congrArg (fun A => Value.slice A n c) EAx.out) rfl hlt EPx.out Try.underlying27 info29s ?_)
            | ((with_reducible refine gate_dst (N := 31) rfl ?_); refine Mine.ev_load rfl (N := 31) rfl 29 (.tmp 30) rfl ap rfl (nc x (.slice A3 n3 c3)) _ (fun j u hu => cell_up HM.out.bel (HCx.out j u hu)) Try.underlying29 rfl info29s ?_)
            | ((with_reducible refine gate_dst (N := 15) rfl ?_); refine ev_alloc29 rfl (N := 15) rfl rfl ?_; intro b1 hbn w1 hblk hbel; have GBb1 := Aside0.mk (show w.heap.size ≤ b1 by have := HK.out.1; omega); have LTb7b1 := Aside0.mk (show b7 < b1 by have := blk_lt BXb7.out; omega); have n0 := Aside0.mk (HM.out.below hbel); have n1 := Aside0.mk (HK.out.below hbel); have n2 := Aside0.mk (below_blk hbel BXb7.out); clear HM HK BXb7; have HM := n0; have HK := n1; have BXb7 := n2; clear n0 n1 n2; have BXb1 := Aside0.mk hblk; clear hblk hbel hbn)
            | ((with_reducible refine gate_ (.store 29 (.tmp 15) (.tmp 31)) rfl ?_); refine ev_store29 rfl rfl (.tmp 15) (.tmp 31) rfl (b := b1) (z := x) (v := (.slice A3 n3 c3)) rfl rfl BXb1.out rfl ?_; intro w1 hblk hg hz; have n0 := Aside0.mk (HM.out.grown hg BXb1.out (by decide) (by have := GBb1.out; have := GW.out; omega)); have n1 := Aside0.mk (HK.out.grown hg GBb1.out); have n2 := Aside0.mk (grown_blk hg BXb7.out (by have := LTb7b1.out; omega)); have n3 := Aside0.mk (hblk); clear HM HK BXb7 BXb1; have HM := n0; have HK := n1; have BXb7 := n2; have BXb1 := n3; clear n0 n1 n2 n3; clear hblk hg hz)
            | ((with_reducible refine gate_dst (N := 33) rfl ?_); have e1 := (Mine.blk_cells BXb1.out 1).trans (show (nc x (Value.slice A3 n3 c3))[1]? = some (.string x.f1) from rfl); have e2 := (Mine.blk_cells BXb7.out 0).trans HEC1.out; refine ev_cell rfl (N := 33) rfl 3 (.tmp 32) rfl ⟨b1, 0, none⟩ rfl (.int .i64 x.f0) _ ((Mine.blk_cells BXb1.out 0).trans rfl) Try.underlying3 rfl ?_))
          go_roundg kq
          case rel => exact ⟨k + 1, s2, by rw [w64_in (by have := HK64.out; omega)]; simp, ⟨by have := KQ.out; omega⟩, ⟨by omega⟩, H4, HM, HK, BXb7⟩
          case measure => omega
      · rw [if_neg (by rw [c3']; decide)] at h3
        simp only [Option.some.injEq] at h3
        subst h3
        go_wp2_with (first
          | ((with_reducible refine gate_dst (N := 30) rfl ?_); refine ev_index rfl (N := 30) rfl 27 29 (.tmp 26) (.tmp 28) rfl (ad := ad) (n := n) (c := c) (k := k) (sz := 5) (congrArg (fun A => Value.slice A n c) EAx.out) rfl hlt EPx.out Try.underlying27 info29s ?_)
          | ((with_reducible refine gate_dst (N := 31) rfl ?_); refine Mine.ev_load rfl (N := 31) rfl 29 (.tmp 30) rfl ap rfl (nc x (.slice A3 n3 c3)) _ (fun j u hu => cell_up HM.out.bel (HCx.out j u hu)) Try.underlying29 rfl info29s ?_)
          | ((with_reducible refine gate_dst (N := 15) rfl ?_); refine ev_alloc29 rfl (N := 15) rfl rfl ?_; intro b1 hbn w1 hblk hbel; have GBb1 := Aside0.mk (show w.heap.size ≤ b1 by have := HK.out.1; omega); have LTb7b1 := Aside0.mk (show b7 < b1 by have := blk_lt BXb7.out; omega); have n0 := Aside0.mk (HM.out.below hbel); have n1 := Aside0.mk (HK.out.below hbel); have n2 := Aside0.mk (below_blk hbel BXb7.out); clear HM HK BXb7; have HM := n0; have HK := n1; have BXb7 := n2; clear n0 n1 n2; have BXb1 := Aside0.mk hblk; clear hblk hbel hbn)
          | ((with_reducible refine gate_ (.store 29 (.tmp 15) (.tmp 31)) rfl ?_); refine ev_store29 rfl rfl (.tmp 15) (.tmp 31) rfl (b := b1) (z := x) (v := (.slice A3 n3 c3)) rfl rfl BXb1.out rfl ?_; intro w1 hblk hg hz; have n0 := Aside0.mk (HM.out.grown hg BXb1.out (by decide) (by have := GBb1.out; have := GW.out; omega)); have n1 := Aside0.mk (HK.out.grown hg GBb1.out); have n2 := Aside0.mk (grown_blk hg BXb7.out (by have := LTb7b1.out; omega)); have n3 := Aside0.mk (hblk); clear HM HK BXb7 BXb1; have HM := n0; have HK := n1; have BXb7 := n2; have BXb1 := n3; clear n0 n1 n2 n3; clear hblk hg hz)
          | ((with_reducible refine gate_dst (N := 33) rfl ?_); refine ev_cell rfl (N := 33) rfl 3 (.tmp 32) rfl ⟨b1, 0, none⟩ rfl (.int .i64 x.f0) _ ((Mine.blk_cells BXb1.out 0).trans rfl) Try.underlying3 rfl ?_))
        go_roundg kq
        case rel => exact ⟨k + 1, s2, by rw [w64_in (by have := HK64.out; omega)]; simp, ⟨by have := KQ.out; omega⟩, ⟨by omega⟩, H4, HM, HK, BXb7⟩
        case measure => omega
    · have hk : k = n := by have := KN.out; omega
      subst hk
      have hh := HH.out
      rw [EN.out, List.drop_length] at hh
      obtain rfl : s2 = s' := by simpa [runL] using hh
      clear hh HH
      rcases Bool.eq_false_or_eq_true (s2.m.e != 0) with c5 | c5
      · have HE := Aside0.mk (show s2.m.e ≠ 0 by simpa using c5)
        go_wp2_with (first
          | ((with_reducible refine gate_dst (N := 50) rfl ?_); refine ev_cell rfl (N := 50) rfl 30 (.tmp 49) rfl ⟨g, 19, none⟩ rfl _ _ HM.out.e_cell Try.underlying30 rfl ?_))
        refine run9 (g := g) (e := s2.m.e) HM.out.e_cell rfl rfl rfl rfl rfl rfl rfl rfl ⟨rfl, rfl⟩ ⟨rfl, rfl⟩ ⟨rfl, rfl⟩ ⟨rfl, rfl⟩ ⟨rfl, rfl⟩ ⟨rfl, rfl⟩ ⟨rfl, rfl⟩ rfl rfl rfl rfl rfl rfl rfl  rfl rfl (by constructor <;> kernel_rfl) (fun _ _ _ _ _ h => h) ?_
        intro w3 hw3
        have HW3 := Aside0.mk hw3
        clear hw3
        simp only [Act.put, List.setIfInBounds_toArray, List.set_cons_zero, List.set_cons_succ]
        go_wp2
        refine bodyPost_ret (results_tmp3 rfl _ _ _) rfl ?_
        rw [HW3.out]
        exact run_err HM.out HE.out
      · have HE := Aside0.mk (show s2.m.e = 0 by simpa using c5)
        go_wp2_with (first
          | ((with_reducible refine gate_dst (N := 50) rfl ?_); refine ev_cell rfl (N := 50) rfl 30 (.tmp 49) rfl ⟨g, 19, none⟩ rfl _ _ HM.out.e_cell Try.underlying30 rfl ?_))
        obtain ⟨vv, ov, hso⟩ := HM.out
        have HSO := Aside0.mk hso
        clear hso
        refine run10 (g := g) (vv := vv) (ov := ov) HSO.out.hm.c0 HSO.out.hm.c18 rfl rfl rfl rfl rfl rfl rfl rfl rfl rfl rfl rfl ⟨rfl, rfl⟩ ⟨rfl, rfl⟩ ⟨rfl, rfl⟩ ⟨rfl, rfl⟩ ⟨rfl, rfl⟩ ⟨rfl, rfl⟩ ⟨rfl, rfl⟩ ⟨rfl, rfl⟩ ⟨rfl, rfl⟩ ⟨rfl, rfl⟩ ⟨rfl, rfl⟩ rfl rfl rfl rfl rfl rfl rfl rfl rfl rfl rfl  rfl rfl (by constructor <;> kernel_rfl) (fun _ _ _ _ _ h => h) ?_
        intro w3 hw3
        have HW3 := Aside0.mk hw3
        clear hw3
        simp only [Act.put, List.setIfInBounds_toArray, List.set_cons_zero, List.set_cons_succ]
        go_wp2
        refine bodyPost_ret (results_tmp3 rfl _ _ _) rfl ?_
        rw [HW3.out]
        exact run_end HSO.out HE.out
end Go.Proofs.Ytdiadmlgeojefaa.A
