/- Laws and walks for CheckScopes: texts laid together by my own small program. -/
import Derived.Maps.OwnOps
import Derived.Maps.OwnSet
import Derived.Maps.Views
import Derived.StringKeys
import Derived.Test.YtdiadmlgeojefaaP3
namespace Go.Proofs.Ytdiadmlgeojefaa.A
open Go.RowKit Go.Proofs.YtdiadmlgeojefaaW.PrintWords Go.Proofs.YtdiadmlgeojefaaW.PrintLast Go.Proofs.YtdiadmlgeojefaaW.PrintMore
attribute [local go_sem] max2_int min2_int max_two min_two max_three min_three max_four min_four   -- for this text's walks alone
set_option linter.unusedVariables false
set_option linter.unusedSimpArgs false
def head_there.f (a0 : Int) : Option (Bool) := if a0 ≥ 0 then (some (decide (a0 < 12))) else (some false)
set_option maxHeartbeats 8000000 in
set_option maxRecDepth 100000 in
theorem head_there.calls (a0 : Int) (r : Bool) (w : World) (h : head_there.f a0 = some r) :
    Calls Try.prog 118 #[.int .i64 a0] w fun e w' => e = .returned (.bool r) ∧ Drawn0 w w' := by
  have H : (if a0 ≥ 0 then (some (decide (a0 < 12))) else (some false)) = some r := h
  clear h
  by_cases c2 : a0 ≥ 0
  · rw [if_pos c2] at H
    have c2b0 : decide (0 ≤ a0) = true := decide_eq_true c2
    clear c2
    obtain rfl := Option.some.inj H
    go_enter Try.func118, Try.ntmps118
    go_wp2
    go_ret
    exact ⟨by first | rfl | (simp; done) | (simp [*]; done), by repeat (first | exact Drawn0.refl _ | apply Drawn0.step)⟩
  · rw [if_neg c2] at H
    have c2b0 : decide (0 ≤ a0) = false := decide_eq_false c2
    clear c2
    obtain rfl := Option.some.inj H
    go_enter Try.func118, Try.ntmps118
    go_wp2
    go_ret
    exact ⟨by first | rfl | (simp; done) | (simp [*]; done), by repeat (first | exact Drawn0.refl _ | apply Drawn0.step)⟩
end Go.Proofs.Ytdiadmlgeojefaa.A
namespace Go.Proofs.Ytdiadmlgeojefaa.A
open Go.RowKit Go.Proofs.YtdiadmlgeojefaaW.PrintWords Go.Proofs.YtdiadmlgeojefaaW.PrintLast Go.Proofs.YtdiadmlgeojefaaW.PrintMore
attribute [local go_sem] max2_int min2_int max_two min_two max_three min_three max_four min_four   -- for this text's walks alone
set_option linter.unusedVariables false
set_option linter.unusedSimpArgs false
def podestaref01_Name.f (a0 : Int) : Option (ByteArray) := if a0 < 0 then (some (⟨#[]⟩ : ByteArray)) else (if a0 > 11 then (some (⟨#[]⟩ : ByteArray)) else ((some (([(⟨#[105, 110]⟩ : ByteArray), (⟨#[101, 115, 114, 99]⟩ : ByteArray), (⟨#[101, 100, 115, 116]⟩ : ByteArray), (⟨#[101, 116, 121, 112, 101]⟩ : ByteArray), (⟨#[118, 108, 97, 110]⟩ : ByteArray), (⟨#[112, 99, 112]⟩ : ByteArray), (⟨#[115, 114, 99]⟩ : ByteArray), (⟨#[100, 115, 116]⟩ : ByteArray), (⟨#[112, 114, 111, 116, 111]⟩ : ByteArray), (⟨#[116, 111, 115]⟩ : ByteArray), (⟨#[115, 112, 111, 114, 116]⟩ : ByteArray), (⟨#[100, 112, 111, 114, 116]⟩ : ByteArray)] : List ByteArray) : List ByteArray)).bind fun y483 => (if 0 ≤ a0 then (if a0 < (y483.length : Int) then (some (rdOf ByteArray.empty y483 a0)) else (none)) else (none))))
set_option maxHeartbeats 8000000 in
set_option maxRecDepth 100000 in
theorem podestaref01_Name.calls (a0 : Int) (r : ByteArray) (w : World) (h : podestaref01_Name.f a0 = some r) :
    Calls Try.prog 51 #[.int .i64 a0] w fun e w' => e = .returned (.string r) ∧ Below w.heap.size w w' := by
  have HB := Aside0.mk (Below.refl w.heap.size w)
  have H : (if a0 < 0 then (some (⟨#[]⟩ : ByteArray)) else (if a0 > 11 then (some (⟨#[]⟩ : ByteArray)) else ((some (([(⟨#[105, 110]⟩ : ByteArray), (⟨#[101, 115, 114, 99]⟩ : ByteArray), (⟨#[101, 100, 115, 116]⟩ : ByteArray), (⟨#[101, 116, 121, 112, 101]⟩ : ByteArray), (⟨#[118, 108, 97, 110]⟩ : ByteArray), (⟨#[112, 99, 112]⟩ : ByteArray), (⟨#[115, 114, 99]⟩ : ByteArray), (⟨#[100, 115, 116]⟩ : ByteArray), (⟨#[112, 114, 111, 116, 111]⟩ : ByteArray), (⟨#[116, 111, 115]⟩ : ByteArray), (⟨#[115, 112, 111, 114, 116]⟩ : ByteArray), (⟨#[100, 112, 111, 114, 116]⟩ : ByteArray)] : List ByteArray) : List ByteArray)).bind fun y483 => (if 0 ≤ a0 then (if a0 < (y483.length : Int) then (some (rdOf ByteArray.empty y483 a0)) else (none)) else (none))))) = some r := h
  clear h
  by_cases c2 : a0 < 0
  · rw [if_pos c2] at H
    have c2b0 : decide (a0 < 0) = true := decide_eq_true c2
    clear c2
    obtain rfl := Option.some.inj H
    go_enter Try.func51, Try.ntmps51
    go_wp2
    go_ret
    exact ⟨by first | rfl | (simp [errW_none, errW_some] <;> rfl) | (simp [*, errW_none, errW_some] <;> rfl), by repeat (first | (with_reducible first | exact HB.out | apply below_alloc | apply pw_below_drewN | apply below_drew1) | exact HB.out)⟩
  · rw [if_neg c2] at H
    have c2b0 : decide (a0 < 0) = false := decide_eq_false c2
    clear c2
    by_cases c3 : a0 > 11
    · rw [if_pos c3] at H
      have c3b0 : decide (11 < a0) = true := decide_eq_true c3
      clear c3
      obtain rfl := Option.some.inj H
      go_enter Try.func51, Try.ntmps51
      go_wp2
      go_ret
      exact ⟨by first | rfl | (simp [errW_none, errW_some] <;> rfl) | (simp [*, errW_none, errW_some] <;> rfl), by repeat (first | (with_reducible first | exact HB.out | apply below_alloc | apply pw_below_drewN | apply below_drew1) | exact HB.out)⟩
    · rw [if_neg c3] at H
      have c3b0 : decide (11 < a0) = false := decide_eq_false c3
      clear c3
      obtain ⟨y483, hy483⟩ : ∃ y_ : List ByteArray, y_ = (([(⟨#[105, 110]⟩ : ByteArray), (⟨#[101, 115, 114, 99]⟩ : ByteArray), (⟨#[101, 100, 115, 116]⟩ : ByteArray), (⟨#[101, 116, 121, 112, 101]⟩ : ByteArray), (⟨#[118, 108, 97, 110]⟩ : ByteArray), (⟨#[112, 99, 112]⟩ : ByteArray), (⟨#[115, 114, 99]⟩ : ByteArray), (⟨#[100, 115, 116]⟩ : ByteArray), (⟨#[112, 114, 111, 116, 111]⟩ : ByteArray), (⟨#[116, 111, 115]⟩ : ByteArray), (⟨#[115, 112, 111, 114, 116]⟩ : ByteArray), (⟨#[100, 112, 111, 114, 116]⟩ : ByteArray)] : List ByteArray)) := ⟨_, rfl⟩
      replace H : (if 0 ≤ a0 then (if a0 < (y483.length : Int) then (some (rdOf ByteArray.empty y483 a0)) else (none)) else (none)) = some r := by first | (rw [hy483]; with_reducible exact H) | (have H2_ := (Option.bind_some _ _).symm.trans H; rw [hy483]; with_reducible exact H2_) | (have H2_ := (Option.bind_some _ _).symm.trans H; with_reducible exact H2_) | with_reducible exact H | (rw [hy483]; exact H) | exact H
      have Ny483 := Aside0.mk hy483
      clear hy483
      by_cases c4 : 0 ≤ a0
      · rw [if_pos c4] at H
        have c4b0 : decide (0 ≤ a0) = true := decide_eq_true c4
        clear c4
        by_cases c5 : a0 < (y483.length : Int)
        · rw [if_pos c5] at H
          have c5b0 : decide (a0 < (y483.length : Int)) = true := decide_eq_true c5
          clear c5
          obtain rfl := Option.some.inj H
          go_enter Try.func51, Try.ntmps51
          go_wp2_with (first | ((with_reducible refine gate_dst (N := 9) rfl ?_); refine Kd.R_lit Kd.string _ 9 ?hg (N := 9) ?hd (xs := ([(⟨#[105, 110]⟩ : ByteArray), (⟨#[101, 115, 114, 99]⟩ : ByteArray), (⟨#[101, 100, 115, 116]⟩ : ByteArray), (⟨#[101, 116, 121, 112, 101]⟩ : ByteArray), (⟨#[118, 108, 97, 110]⟩ : ByteArray), (⟨#[112, 99, 112]⟩ : ByteArray), (⟨#[115, 114, 99]⟩ : ByteArray), (⟨#[100, 115, 116]⟩ : ByteArray), (⟨#[112, 114, 111, 116, 111]⟩ : ByteArray), (⟨#[116, 111, 115]⟩ : ByteArray), (⟨#[115, 112, 111, 114, 116]⟩ : ByteArray), (⟨#[100, 112, 111, 114, 116]⟩ : ByteArray)] : List ByteArray)) (inner := [.string (⟨#[105, 110]⟩ : ByteArray), .string (⟨#[101, 115, 114, 99]⟩ : ByteArray), .string (⟨#[101, 100, 115, 116]⟩ : ByteArray), .string (⟨#[101, 116, 121, 112, 101]⟩ : ByteArray), .string (⟨#[118, 108, 97, 110]⟩ : ByteArray), .string (⟨#[112, 99, 112]⟩ : ByteArray), .string (⟨#[115, 114, 99]⟩ : ByteArray), .string (⟨#[100, 115, 116]⟩ : ByteArray), .string (⟨#[112, 114, 111, 116, 111]⟩ : ByteArray), .string (⟨#[116, 111, 115]⟩ : ByteArray), .string (⟨#[115, 112, 111, 114, 116]⟩ : ByteArray), .string (⟨#[100, 112, 111, 114, 116]⟩ : ByteArray)]) (ok := fun _ => True) (okp := fun _ => True) ?hr ?hp (fun _ hk => hk) trivial (Below.refl _ _) (Nat.le_refl _) (by simp) ?_; (case hd => rfl); (case hg => rfl); (case hr => first | (go_simp; done) | (go_simp; rfl)); (case hp => exact (Reps.one (show Kd.M Kd.string _ _ _ (⟨#[105, 110]⟩ : ByteArray) [.string (⟨#[105, 110]⟩ : ByteArray)] from rfl) (Reps.one (show Kd.M Kd.string _ _ _ (⟨#[101, 115, 114, 99]⟩ : ByteArray) [.string (⟨#[101, 115, 114, 99]⟩ : ByteArray)] from rfl) (Reps.one (show Kd.M Kd.string _ _ _ (⟨#[101, 100, 115, 116]⟩ : ByteArray) [.string (⟨#[101, 100, 115, 116]⟩ : ByteArray)] from rfl) (Reps.one (show Kd.M Kd.string _ _ _ (⟨#[101, 116, 121, 112, 101]⟩ : ByteArray) [.string (⟨#[101, 116, 121, 112, 101]⟩ : ByteArray)] from rfl) (Reps.one (show Kd.M Kd.string _ _ _ (⟨#[118, 108, 97, 110]⟩ : ByteArray) [.string (⟨#[118, 108, 97, 110]⟩ : ByteArray)] from rfl) (Reps.one (show Kd.M Kd.string _ _ _ (⟨#[112, 99, 112]⟩ : ByteArray) [.string (⟨#[112, 99, 112]⟩ : ByteArray)] from rfl) (Reps.one (show Kd.M Kd.string _ _ _ (⟨#[115, 114, 99]⟩ : ByteArray) [.string (⟨#[115, 114, 99]⟩ : ByteArray)] from rfl) (Reps.one (show Kd.M Kd.string _ _ _ (⟨#[100, 115, 116]⟩ : ByteArray) [.string (⟨#[100, 115, 116]⟩ : ByteArray)] from rfl) (Reps.one (show Kd.M Kd.string _ _ _ (⟨#[112, 114, 111, 116, 111]⟩ : ByteArray) [.string (⟨#[112, 114, 111, 116, 111]⟩ : ByteArray)] from rfl) (Reps.one (show Kd.M Kd.string _ _ _ (⟨#[116, 111, 115]⟩ : ByteArray) [.string (⟨#[116, 111, 115]⟩ : ByteArray)] from rfl) (Reps.one (show Kd.M Kd.string _ _ _ (⟨#[115, 112, 111, 114, 116]⟩ : ByteArray) [.string (⟨#[115, 112, 111, 114, 116]⟩ : ByteArray)] from rfl) (Reps.one (show Kd.M Kd.string _ _ _ (⟨#[100, 112, 111, 114, 116]⟩ : ByteArray) [.string (⟨#[100, 112, 111, 114, 116]⟩ : ByteArray)] from rfl) (Reps.none _ _)))))))))))))); intro v484 w6 ho7 hb hg_ hnew_; clear hg_ hnew_; (first | rw [← Ny483.out] at ho7 | (simp only [Int.reduceToNat] at ho7; rw [← Ny483.out] at ho7)); have n0_ := Aside0.mk (Kd.R_lower ho7 (below_size (by repeat (first | (with_reducible first | exact HB.out | apply below_alloc | apply pw_below_drewN | apply below_drew1) | exact HB.out)))); have n1_ := Aside0.mk (below_step (by repeat (first | (with_reducible first | exact HB.out | apply below_alloc | apply pw_below_drewN | apply below_drew1) | exact HB.out)) hb); clear HB; have HO485 := n0_; have HB := n1_; clear n0_ n1_; clear hb ho7; obtain ⟨Ao8, co8, eo8⟩ := Kd.R_slice HO485.out; subst eo8; have p486 : 0 ≤ (a0 : Int) := of_decide_eq_true (by first | (with_reducible assumption) | assumption); have q486 : a0 < (y483.length : Int) := of_decide_eq_true (by first | (with_reducible assumption) | assumption); obtain ⟨ad486, e486, hx486_0⟩ := Kd.at_string (Kd.R_reads' HO485.out).2.2 a0 p486 q486; cases e486; replace p486 := eq_true p486; replace q486 := eq_true q486))
          go_ret
          exact ⟨by first | rfl | (simp [errW_none, errW_some] <;> rfl) | (simp [*, errW_none, errW_some] <;> rfl), by repeat (first | (with_reducible first | exact HB.out | apply below_alloc | apply pw_below_drewN | apply below_drew1) | exact HB.out)⟩
        · rw [if_neg c5] at H
          exact absurd H (by simp)
      · rw [if_neg c4] at H
        exact absurd H (by simp)
end Go.Proofs.Ytdiadmlgeojefaa.A
namespace Go.Proofs.Ytdiadmlgeojefaa.A
open Go.RowKit Go.Proofs.YtdiadmlgeojefaaW.PrintWords Go.Proofs.YtdiadmlgeojefaaW.PrintLast Go.Proofs.YtdiadmlgeojefaaW.PrintMore
attribute [local go_sem] max2_int min2_int max_two min_two max_three min_three max_four min_four   -- for this text's walks alone
set_option linter.unusedVariables false
set_option linter.unusedSimpArgs false
def podestaref01_Field.l0 : Nat → ByteArray → Int → Option (Int × Bool)
  | 0, _, _ => none
  | k + 1, x0, x4 => if x4 < 12 then ((podestaref01_Name.f x4).bind fun t487 => (if t487.toList = x0.toList then (some (x4, true)) else (podestaref01_Field.l0 k x0 (wrap64 (x4 + 1))))) else (some (0, false))
def podestaref01_Field.f (k : Nat) (a0 : ByteArray) : Option (Int × Bool) := podestaref01_Field.l0 k a0 0
theorem podestaref01_Field.mono_l : ∀ k, (∀ y0 y1, LeO (podestaref01_Field.l0 k y0 y1) (podestaref01_Field.l0 (k + 1) y0 y1))
  | 0 => fun _ _ r h => by simp [podestaref01_Field.l0] at h
  | k + 1 => by
    have ih0 := podestaref01_Field.mono_l k
    · intro y0 y1
      unfold podestaref01_Field.l0
      repeat' first
      | (with_reducible exact ih0 _ _)
      | (with_reducible exact LeO.refl _)
      | (with_reducible exact LeO.none _)
      | (with_reducible refine LeO.ite ?_ ?_)
      | (with_reducible refine LeO.bind ?_ (fun _ => ?_))
      | exact ih0 _ _
      | exact LeO.none _
      | refine LeO.ite ?_ ?_
      | refine LeO.bind ?_ (fun _ => ?_)
theorem podestaref01_Field.mono : ∀ a0 k, LeO (podestaref01_Field.f k a0) (podestaref01_Field.f (k + 1) a0) := by
  intro a0 k
  have ih0 := podestaref01_Field.mono_l k
  unfold podestaref01_Field.f
  repeat' first
      | (with_reducible exact ih0 _ _)
      | (with_reducible exact LeO.refl _)
      | (with_reducible exact LeO.none _)
      | (with_reducible refine LeO.ite ?_ ?_)
      | (with_reducible refine LeO.bind ?_ (fun _ => ?_))
      | exact ih0 _ _
      | exact LeO.none _
      | refine LeO.ite ?_ ?_
      | refine LeO.bind ?_ (fun _ => ?_)
set_option maxHeartbeats 8000000 in
set_option maxRecDepth 100000 in
theorem podestaref01_Field.calls (k : Nat) (a0 : ByteArray) (r1 : Int) (r2 : Bool) (w : World) (h : podestaref01_Field.f k a0 = some (r1, r2)) :
    Calls Try.prog 30 #[.string a0] w fun e w' => e = .returned (.tuple #[.int .i64 r1, .bool r2]) ∧ Below w.heap.size w w' := by
  have HB := Aside0.mk (Below.refl w.heap.size w)
  have H : (podestaref01_Field.l0 k a0 0) = some (r1, r2) := h
  clear h
  have H' := Aside0.mk H
  clear H
  go_enter Try.func30, Try.ntmps30
  go_wp2
  go_loopg [4] k (fun kq v4 w' => ∃ (x4_1 : Int), v4 = .int .i64 x4_1 ∧ Aside0 (podestaref01_Field.l0 kq a0 x4_1 = some (r1, r2)) ∧ Aside0 (kq ≤ k) ∧ Aside0 (Below w.heap.size w w'))
  case atStart => exact ⟨(0), (by first | rfl | (simp; done) | (simp [*]; done)), H', ⟨Nat.le_refl _⟩, ⟨by repeat (first | (with_reducible first | exact HB.out | apply below_alloc | apply pw_below_drewN | apply below_drew1) | exact HB.out)⟩⟩
  case round =>
    clear H'
    obtain ⟨x4_1, rfl, HA, HK1, HB⟩ := hrel
    cases gk with
    | zero => exact absurd HA.out (by simp [podestaref01_Field.l0])
    | succ k1 =>
      have H := HA.out
      clear HA
      simp only [podestaref01_Field.l0] at H
      by_cases c2 : x4_1 < 12
      · rw [if_pos c2] at H
        have c2b0 : decide (x4_1 < 12) = true := decide_eq_true c2
        clear c2
        replace H := Option.bind_eq_some_iff.mp H
        obtain ⟨t487, A30, H⟩ := H
        replace H : (if t487.toList = a0.toList then (some (x4_1, true)) else (podestaref01_Field.l0 k1 a0 (wrap64 (x4_1 + 1)))) = some (r1, r2) := H
        have A3 := Aside0.mk A30
        clear A30
        by_cases c4 : t487.toList = a0.toList
        · rw [if_pos c4] at H
          have c4b0 : (t487.toList == a0.toList) = true := beq_iff_eq.mpr c4
          have c4b1 : (t487.toList != a0.toList) = false := bne_eq_false_iff_eq.mpr c4
          clear c4
          simp only [Option.some.injEq, Prod.mk.injEq] at H
          obtain ⟨rfl, rfl⟩ := H
          go_wp2_with (first | ((with_reducible refine gate_callee (f := 51) rfl ?_); refine goesL_ (some 10) rfl rfl Try.func51 (by kernel_rfl) rfl #[.int .i64 x4_1] rfl (by (try simp only [List.map_toArray, List.map_cons, List.map_nil]); first | done | rfl | (simp only [List.length_drop, List.length_take]; rfl)) ?_; (with_reducible refine (podestaref01_Name.calls x4_1 t487 _ A3.out).mono ?_); rintro e w5 ⟨rfl, hb⟩; refine ⟨_, rfl, ?_⟩; have n0_ := Aside0.mk (below_step (by repeat (first | (with_reducible first | exact HB.out | apply below_alloc | apply pw_below_drewN | apply below_drew1) | exact HB.out)) hb); clear HB; have HB := n0_; clear n0_; (try clear hb); (try clear hb2); (try clear hk); (try clear hi)))
          go_ret2
          exact ⟨by first | rfl | (simp [errW_none, errW_some] <;> rfl) | (simp [*, errW_none, errW_some] <;> rfl), by repeat (first | (with_reducible first | exact HB.out | apply below_alloc | apply pw_below_drewN | apply below_drew1) | exact HB.out)⟩
        · rw [if_neg c4] at H
          have c4b0 : (t487.toList == a0.toList) = false := beq_eq_false_iff_ne.mpr c4
          have c4b1 : (t487.toList != a0.toList) = true := bne_iff_ne.mpr c4
          have H' := Aside0.mk H
          clear H
          go_wp2_with (first | ((with_reducible refine gate_callee (f := 51) rfl ?_); refine goesL_ (some 10) rfl rfl Try.func51 (by kernel_rfl) rfl #[.int .i64 x4_1] rfl (by (try simp only [List.map_toArray, List.map_cons, List.map_nil]); first | done | rfl | (simp only [List.length_drop, List.length_take]; rfl)) ?_; (with_reducible refine (podestaref01_Name.calls x4_1 t487 _ A3.out).mono ?_); rintro e w6 ⟨rfl, hb⟩; refine ⟨_, rfl, ?_⟩; have n0_ := Aside0.mk (below_step (by repeat (first | (with_reducible first | exact HB.out | apply below_alloc | apply pw_below_drewN | apply below_drew1) | exact HB.out)) hb); clear HB; have HB := n0_; clear n0_; (try clear hb); (try clear hb2); (try clear hk); (try clear hi)))
          go_roundg k1
          case measure => have := HK1.out; omega
          case rel => exact ⟨(wrap64 (x4_1 + 1)), (by first | rfl | (simp; done) | (simp [*]; done)), H', ⟨by have := HK1.out; omega⟩, ⟨by repeat (first | (with_reducible first | exact HB.out | apply below_alloc | apply pw_below_drewN | apply below_drew1) | exact HB.out)⟩⟩
      · rw [if_neg c2] at H
        have c2b0 : decide (x4_1 < 12) = false := decide_eq_false c2
        clear c2
        simp only [Option.some.injEq, Prod.mk.injEq] at H
        obtain ⟨rfl, rfl⟩ := H
        go_wp2
        go_ret2
        exact ⟨by first | rfl | (simp [errW_none, errW_some] <;> rfl) | (simp [*, errW_none, errW_some] <;> rfl), by repeat (first | (with_reducible first | exact HB.out | apply below_alloc | apply pw_below_drewN | apply below_drew1) | exact HB.out)⟩
end Go.Proofs.Ytdiadmlgeojefaa.A
namespace Go.Proofs.Ytdiadmlgeojefaa.A
open Go.RowKit Go.Proofs.YtdiadmlgeojefaaW.PrintWords Go.Proofs.YtdiadmlgeojefaaW.PrintLast Go.Proofs.YtdiadmlgeojefaaW.PrintMore
attribute [local go_sem] max2_int min2_int max_two min_two max_three min_three max_four min_four   -- for this text's walks alone
set_option linter.unusedVariables false
set_option linter.unusedSimpArgs false
def check_Events.f  : Option (List ByteArray) := some (([(⟨#[112, 97, 99, 107, 101, 116]⟩ : ByteArray), (⟨#[114, 101, 109, 111, 118, 101, 100]⟩ : ByteArray), (⟨#[116, 105, 99, 107]⟩ : ByteArray)] : List ByteArray))
set_option maxHeartbeats 8000000 in
set_option maxRecDepth 100000 in
theorem check_Events.calls  (r : List ByteArray) (w : World) (h : check_Events.f  = some r) :
    Calls Try.prog 14 #[] w fun e w' => ∃ v0_ : Value, e = .returned (v0_) ∧ Kd.R Kd.string 9 w' w.heap.size (fun _ => True) v0_ r ∧ Below w.heap.size w w' := by
  have HB := Aside0.mk (Below.refl w.heap.size w)
  have H : (some (([(⟨#[112, 97, 99, 107, 101, 116]⟩ : ByteArray), (⟨#[114, 101, 109, 111, 118, 101, 100]⟩ : ByteArray), (⟨#[116, 105, 99, 107]⟩ : ByteArray)] : List ByteArray))) = some r := h
  clear h
  obtain ⟨y101, hy101⟩ : ∃ y_ : List ByteArray, y_ = (([(⟨#[112, 97, 99, 107, 101, 116]⟩ : ByteArray), (⟨#[114, 101, 109, 111, 118, 101, 100]⟩ : ByteArray), (⟨#[116, 105, 99, 107]⟩ : ByteArray)] : List ByteArray)) := ⟨_, rfl⟩
  replace H : (some y101) = some r := by first | (rw [hy101]; with_reducible exact H) | (have H2_ := (Option.bind_some _ _).symm.trans H; rw [hy101]; with_reducible exact H2_) | (have H2_ := (Option.bind_some _ _).symm.trans H; with_reducible exact H2_) | with_reducible exact H | (rw [hy101]; exact H) | exact H
  have Ny101 := Aside0.mk hy101
  clear hy101
  obtain rfl := Option.some.inj H
  go_enter Try.func14, Try.ntmps14
  go_wp2_with (first | ((with_reducible refine gate_dst (N := 1) rfl ?_); refine Kd.R_lit Kd.string _ 9 ?hg (N := 1) ?hd (xs := ([(⟨#[112, 97, 99, 107, 101, 116]⟩ : ByteArray), (⟨#[114, 101, 109, 111, 118, 101, 100]⟩ : ByteArray), (⟨#[116, 105, 99, 107]⟩ : ByteArray)] : List ByteArray)) (inner := [.string (⟨#[112, 97, 99, 107, 101, 116]⟩ : ByteArray), .string (⟨#[114, 101, 109, 111, 118, 101, 100]⟩ : ByteArray), .string (⟨#[116, 105, 99, 107]⟩ : ByteArray)]) (ok := fun _ => True) (okp := fun _ => True) ?hr ?hp (fun _ hk => hk) trivial (Below.refl _ _) (Nat.le_refl _) (by simp) ?_; (case hd => rfl); (case hg => rfl); (case hr => first | (go_simp; done) | (go_simp; rfl)); (case hp => exact (Reps.one (show Kd.M Kd.string _ _ _ (⟨#[112, 97, 99, 107, 101, 116]⟩ : ByteArray) [.string (⟨#[112, 97, 99, 107, 101, 116]⟩ : ByteArray)] from rfl) (Reps.one (show Kd.M Kd.string _ _ _ (⟨#[114, 101, 109, 111, 118, 101, 100]⟩ : ByteArray) [.string (⟨#[114, 101, 109, 111, 118, 101, 100]⟩ : ByteArray)] from rfl) (Reps.one (show Kd.M Kd.string _ _ _ (⟨#[116, 105, 99, 107]⟩ : ByteArray) [.string (⟨#[116, 105, 99, 107]⟩ : ByteArray)] from rfl) (Reps.none _ _))))); intro v102 w1 ho2 hb hg_ hnew_; clear hg_ hnew_; (first | rw [← Ny101.out] at ho2 | (simp only [Int.reduceToNat] at ho2; rw [← Ny101.out] at ho2)); have n0_ := Aside0.mk (Kd.R_lower ho2 (below_size (by repeat (first | (with_reducible first | exact HB.out | apply below_alloc | apply pw_below_drewN | apply below_drew1) | exact HB.out)))); have n1_ := Aside0.mk (below_step (by repeat (first | (with_reducible first | exact HB.out | apply below_alloc | apply pw_below_drewN | apply below_drew1) | exact HB.out)) hb); clear HB; have HO103 := n0_; have HB := n1_; clear n0_ n1_; clear hb ho2))
  go_ret
  exact ⟨_, by first | rfl | (simp [errW_none, errW_some] <;> rfl) | (simp [*, errW_none, errW_some] <;> rfl), by (with_reducible repeat (first | apply Kd.R_alloc | apply Kd.R_drewN | apply Kd.R_drew)); exact HO103.out, by repeat (first | (with_reducible first | exact HB.out | apply below_alloc | apply pw_below_drewN | apply below_drew1) | exact HB.out)⟩
end Go.Proofs.Ytdiadmlgeojefaa.A
namespace Go.Proofs.Ytdiadmlgeojefaa.A
open Go.RowKit Go.Proofs.YtdiadmlgeojefaaW.PrintWords Go.Proofs.YtdiadmlgeojefaaW.PrintLast Go.Proofs.YtdiadmlgeojefaaW.PrintMore
set_option linter.unusedVariables false
set_option linter.unusedSimpArgs false
def fldL : List S65 := [⟨⟨#[105, 110]⟩, 16⟩, ⟨⟨#[101, 115, 114, 99]⟩, 48⟩, ⟨⟨#[101, 100, 115, 116]⟩, 48⟩, ⟨⟨#[101, 116, 121, 112, 101]⟩, 16⟩, ⟨⟨#[118, 108, 97, 110]⟩, 12⟩, ⟨⟨#[112, 99, 112]⟩, 4⟩, ⟨⟨#[115, 114, 99]⟩, 32⟩, ⟨⟨#[100, 115, 116]⟩, 32⟩, ⟨⟨#[112, 114, 111, 116, 111]⟩, 8⟩, ⟨⟨#[116, 111, 115]⟩, 8⟩, ⟨⟨#[115, 112, 111, 114, 116]⟩, 12⟩, ⟨⟨#[100, 112, 111, 114, 116]⟩, 12⟩]
def fldCells : List Value := [.string ⟨#[105, 110]⟩, .int .i64 16, .string ⟨#[101, 115, 114, 99]⟩, .int .i64 48, .string ⟨#[101, 100, 115, 116]⟩, .int .i64 48, .string ⟨#[101, 116, 121, 112, 101]⟩, .int .i64 16, .string ⟨#[118, 108, 97, 110]⟩, .int .i64 12, .string ⟨#[112, 99, 112]⟩, .int .i64 4, .string ⟨#[115, 114, 99]⟩, .int .i64 32, .string ⟨#[100, 115, 116]⟩, .int .i64 32, .string ⟨#[112, 114, 111, 116, 111]⟩, .int .i64 8, .string ⟨#[116, 111, 115]⟩, .int .i64 8, .string ⟨#[115, 112, 111, 114, 116]⟩, .int .i64 12, .string ⟨#[100, 112, 111, 114, 116]⟩, .int .i64 12]
def vals104 : Array (Nat × Value) := #[(0, .agg #[.string ⟨#[105, 110]⟩, .int .i64 16]), (1, .agg #[.string ⟨#[101, 115, 114, 99]⟩, .int .i64 48]), (2, .agg #[.string ⟨#[101, 100, 115, 116]⟩, .int .i64 48]), (3, .agg #[.string ⟨#[101, 116, 121, 112, 101]⟩, .int .i64 16]), (4, .agg #[.string ⟨#[118, 108, 97, 110]⟩, .int .i64 12]), (5, .agg #[.string ⟨#[112, 99, 112]⟩, .int .i64 4]), (6, .agg #[.string ⟨#[115, 114, 99]⟩, .int .i64 32]), (7, .agg #[.string ⟨#[100, 115, 116]⟩, .int .i64 32]), (8, .agg #[.string ⟨#[112, 114, 111, 116, 111]⟩, .int .i64 8]), (9, .agg #[.string ⟨#[116, 111, 115]⟩, .int .i64 8]), (10, .agg #[.string ⟨#[115, 112, 111, 114, 116]⟩, .int .i64 12]), (11, .agg #[.string ⟨#[100, 112, 111, 114, 116]⟩, .int .i64 12])]
theorem build104 (W : World) : (Instr.build 104 vals104).run Try.prog W = .ok (.agg fldCells.toArray) W := by kernel_rfl
theorem info104 : (Try.prog.info? 104).map (·.size) = some 24 := by kernel_rfl
theorem info103 : (Try.prog.info? 103).map (·.size) = some 2 := by kernel_rfl
def fld0 : List Value := [.string ⟨#[]⟩, .int .i64 0, .string ⟨#[]⟩, .int .i64 0, .string ⟨#[]⟩, .int .i64 0, .string ⟨#[]⟩, .int .i64 0, .string ⟨#[]⟩, .int .i64 0, .string ⟨#[]⟩, .int .i64 0, .string ⟨#[]⟩, .int .i64 0, .string ⟨#[]⟩, .int .i64 0, .string ⟨#[]⟩, .int .i64 0, .string ⟨#[]⟩, .int .i64 0, .string ⟨#[]⟩, .int .i64 0, .string ⟨#[]⟩, .int .i64 0]
section
variable {ops : Array Oper} {rest : List Oper} {o : Oper} {a : Act} {Q : Exit → Act → World → Prop} {W : World}
theorem ev_yield (hgd : o.guard = none) {N : Tmp} (_hd : o.dst = some N) {v : Value} (hrun : (execOp a.eval o).run Try.prog W = .ok (.value v) W) (h : wpList Try.prog ops Q rest (a.put o.dst v) W) : wpList Try.prog ops Q (o :: rest) a W := by
  refine wpList_plain hgd fun K hK => ?_
  unfold Oper.wp
  simp only [hrun]
  exact hK _ _ h
theorem ev_build (hgd : o.guard = none) {N : Tmp} (_hd : o.dst = some N) {t : TypeId} {parts : Array (Nat × Operand)} (ho : o.op = .build t parts) (vals : Array (Nat × Value)) {v : Value} (hp : parts.map (fun x => (x.1, a.eval x.2)) = vals) (hrun : (Instr.build t vals).run Try.prog W = .ok v W) (h : wpList Try.prog ops Q rest (a.put o.dst v) W) : wpList Try.prog ops Q (o :: rest) a W := by
  refine ev_yield hgd _hd ?_ h
  unfold execOp
  simp only [ho, Sem.run_bind]
  have : (parts.map fun x => (x.1, a.eval x.2)) = vals := hp
  rw [this, hrun]
  rfl
theorem ev_box1 (hgd : o.guard = none) {N : Tmp} (_hd : o.dst = some N) {t : TypeId} (x : Operand) (ho : o.op = .box t x) (v : Value) (hx : a.eval x = v) (hv : v.cells = #[v])
    (h : ∀ g, g = W.heap.size → ∀ w1, w1.heap[g]? = some (.cells [v].toArray t (0, 0)) → Below W.heap.size W w1 → wpList Try.prog ops Q rest (a.put o.dst (.pointer (some ⟨g, 0, none⟩))) w1) : wpList Try.prog ops Q (o :: rest) a W := by
  refine box_event hgd _hd ?_ h
  unfold execOp
  simp [ho, hx, Instr.box, newVar, newRow, hv]
end
set_option maxHeartbeats 4000000 in
set_option maxRecDepth 100000 in
theorem fields_calls (w : World) : Calls Try.prog 48 #[] w fun e w' => e = .returned (.agg fldCells.toArray) ∧ Below w.heap.size w w' := by
  have HB := aK (Below.refl w.heap.size w)
  go_enter Try.func48, Try.ntmps48
  go_wp2_with (first
    | ((with_reducible refine gD 0 rfl ?_); go_must ((refine Mine.ev_alloc rfl (N := 0) rfl rfl (fld0) (by (try unfold execOp); first | (go_simp; done) | (go_simp; rfl)) ?_; intro b0 hbn w1 hblk hbel; have GPb0 := aK (show w.heap.size ≤ b0 by have := HB.out.size; omega); replace HB := aK (below_step HB.out hbel); have BXb0 := aK hblk; clear hblk hbel hbn)))
    | ((with_reducible refine gD 13 rfl ?_); go_must ((refine ev_build rfl (N := 13) rfl rfl vals104 (mpT rfl) (build104 _) ?_)))
    | ((with_reducible refine gate_ (.store 104 (.tmp 0) (.tmp 13)) rfl ?_); go_must ((refine Mine.ev_store rfl rfl 104 (.tmp 0) (.tmp 13) rfl (.agg fldCells.toArray) fldCells (cs := fld0) rfl rfl rfl BXb0.out (by decide) info104 (by decide) ?_; intro w1 hblk hg hz; rw [Mine.splice_all _ _ (by decide)] at hblk; replace HB := aK (pw_below_grown HB.out _ HB.out.size hg (by intro k hk; injection hk with hk; have := GPb0.out; omega)); replace BXb0 := aK (hblk); clear hblk hg hz))))
  refine bodyPost_ret (results_cell_row rfl _ _ b0 104 fldCells.toArray _ _ rfl BXb0.out Try.underlying104 rfl info104) rfl ⟨rfl, HB.out⟩
end Go.Proofs.Ytdiadmlgeojefaa.A
namespace Go.Proofs.Ytdiadmlgeojefaa.A
open Go.RowKit Go.Proofs.YtdiadmlgeojefaaW.PrintWords Go.Proofs.YtdiadmlgeojefaaW.PrintLast Go.Proofs.YtdiadmlgeojefaaW.PrintMore
set_option linter.unusedVariables false
set_option linter.unusedSimpArgs false
attribute [local go_sem] max2_int min2_int max_two min_two max_three min_three max_four min_four
theorem flat_get {α : Type} (f : α → List Value) (sz : Nat) (hf : ∀ x, (f x).length = sz) : ∀ (xs : List α) (j i : Nat) (x : α), xs[j]? = some x → i < sz → (xs.flatMap f)[j * sz + i]? = (f x)[i]?
  | [], j, i, x, h, _ => by simp at h
  | y :: r, 0, i, x, h, hi => by
    simp only [List.getElem?_cons_zero, Option.some.injEq] at h
    subst h
    rw [List.flatMap_cons, Nat.zero_mul, Nat.zero_add, List.getElem?_append_left (by rw [hf]; exact hi)]
  | y :: r, j + 1, i, x, h, hi => by
    rw [List.flatMap_cons, List.getElem?_append_right (by rw [hf, Nat.succ_mul]; omega), hf, show (j + 1) * sz + i - sz = j * sz + i by rw [Nat.succ_mul]; omega]
    exact flat_get f sz hf r j i x (by simpa using h) hi
theorem C_flat {α : Type} {d : Kd α} {W : World} {b : Nat} {t : TypeId} (f : α → List Value) (xs : List α) (hf : ∀ x, (f x).length = d.sz) (hK : ∀ x ∈ xs, d.K W x (f x)) (hl : xs.length ≤ 9223372036854775807) (hb : W.heap[b]? = some (.cells (xs.flatMap f).toArray t (0, 0))) : Kd.C d W (some ⟨b, 0, none⟩) xs.length xs := by
  refine ⟨rfl, hl, fun _ => ⟨_, rfl, fun j p hj => ⟨f p, hf p, hK p (List.mem_of_getElem? hj), fun i u hu => ?_⟩⟩⟩
  have hi : i < d.sz := by
    have := (List.getElem?_eq_some_iff.1 hu).1
    rwa [hf] at this
  rw [Mine.at_add, Mine.blk_cells hb, flat_get f d.sz hf xs j i p hj hi]
  exact hu
theorem fld_C {W : World} {b : Nat} {t : TypeId} (hb : W.heap[b]? = some (.cells fldCells.toArray t (0, 0))) : Kd.C k65 W (some ⟨b, 0, none⟩) fldL.length fldL :=
  C_flat (fun x : S65 => [.string x.f0, .int .i64 x.f1]) fldL (fun _ => rfl) (fun x _ => k65_mk W x) (by decide) hb
def eqN (name : ByteArray) (x : S65) : Bool := x.f0.toList == name.toList
set_option maxHeartbeats 4000000 in
set_option maxRecDepth 100000 in
theorem field1_calls (name : ByteArray) (x : S65) (cs : List Value) (bn : Nat) (W : World) (hK : k65.K W x cs) (hb : W.heap[bn]? = some (.cells [Value.string name].toArray 9 (0, 0))) :
    Calls Try.prog 50 #[.agg cs.toArray, .pointer (some ⟨bn, 0, none⟩)] W fun e W' => e = .returned (.bool (eqN name x)) ∧ Below W.heap.size W W' := by
  obtain rfl := k65_open hK
  have HB := aK (Below.refl W.heap.size W)
  have BXbn := aK hb
  clear hK hb
  go_enter Try.func50, Try.ntmps50
  go_wp2_with (first
    | ((with_reducible refine gD 2 rfl ?_); go_must ((refine Mine.ev_box rfl (N := 2) rfl (.tmp 0) rfl ([.string x.f0, .int .i64 x.f1]) rfl ?_; intro bx hbn w1 hblk hbel; have GPbx := aK (show W.heap.size ≤ bx by have := HB.out.size; omega); have LTbnbx := aK (show bn < bx by have := blk_lt BXbn.out; omega); replace HB := aK (below_step HB.out hbel); replace BXbn := Zc hbel BXbn; have BXbx := aK hblk; clear hblk hbel hbn)))
    | ((with_reducible refine gD 5 rfl ?_); go_must ((refine ev_cell rfl (N := 5) rfl 9 (.tmp 4) rfl ⟨bx, 0, none⟩ rfl (.string x.f0) _ ((Mine.blk_cells BXbx.out 0).trans rfl) Try.underlying9 rfl ?_)))
    | ((with_reducible refine gD 6 rfl ?_); go_must ((refine ev_cell rfl (N := 6) rfl 9 (.tmp 1) rfl ⟨bn, 0, none⟩ rfl (.string name) _ ((Mine.blk_cells BXbn.out 0).trans rfl) Try.underlying9 rfl ?_))))
  go_ret
  exact ⟨rfl, HB.out⟩
def fieldF (name : ByteArray) : Int × Bool := (max (idxF (eqN name) fldL 0) 0, decide (idxF (eqN name) fldL 0 ≥ 0))
set_option maxHeartbeats 4000000 in
set_option maxRecDepth 100000 in
theorem field_calls (name : ByteArray) (w : World) : Calls Try.prog 29 #[.string name] w fun e w' => e = .returned (.tuple #[.int .i64 (fieldF name).1, .bool (fieldF name).2]) ∧ Below w.heap.size w w' := by
  have HB := aK (Below.refl w.heap.size w)
  unfold fieldF
  obtain ⟨n, en⟩ : ∃ n_, n_ = idxF (eqN name) fldL 0 := ⟨_, rfl⟩
  rw [← en]
  have EN := aK en
  clear en
  have hmf : ∀ (fn : Fn) (first cap : Array Value) (w : World), (Instr.makeFunc fn first cap).run Try.prog w = .ok (.func fn first cap) w := fun _ _ _ _ => rfl
  go_enter Try.func29, Try.ntmps29
  go_wp2_with (first
    | ((with_reducible refine gD 1 rfl ?_); go_must ((refine ev_box1 rfl (N := 1) rfl (.tmp 0) rfl (.string name) rfl rfl ?_; intro bn hbn w1 hblk hbel; have GPbn := aK (show w.heap.size ≤ bn by have := HB.out.size; omega); replace HB := aK (below_step HB.out hbel); have BXbn := aK hblk; clear hblk hbel hbn)))
    | ((with_reducible refine gD 6 rfl ?_); go_must ((refine goesL_ (some 6) rfl rfl Try.func48 (by kernel_rfl) rfl #[] rfl (mpT rfl) ?_; refine (fields_calls _).mono ?_; rintro e w1 ⟨rfl, hbel⟩; refine ⟨_, rfl, ?_⟩; replace HB := aK (below_step HB.out hbel); replace BXbn := Zc hbel BXbn; clear hbel)))
    | ((with_reducible refine gD 4 rfl ?_); go_must ((refine Mine.ev_alloc rfl (N := 4) rfl rfl (fld0) (by (try unfold execOp); first | (go_simp; done) | (go_simp; rfl)) ?_; intro b4 hbn w1 hblk hbel; have GPb4 := aK (show w.heap.size ≤ b4 by have := HB.out.size; omega); have LTbnb4 := aK (show bn < b4 by have := blk_lt BXbn.out; omega); replace HB := aK (below_step HB.out hbel); replace BXbn := Zc hbel BXbn; have BXb4 := aK hblk; clear hblk hbel hbn)))
    | ((with_reducible refine gate_ (.store 104 (.tmp 4) (.tmp 6)) rfl ?_); go_must ((refine Mine.ev_store rfl rfl 104 (.tmp 4) (.tmp 6) rfl (.agg fldCells.toArray) fldCells (cs := fld0) rfl rfl rfl BXb4.out (by decide) info104 (by decide) ?_; intro w1 hblk hg hz; rw [Mine.splice_all _ _ (by decide)] at hblk; replace HB := aK (pw_below_grown HB.out _ HB.out.size hg (by intro k hk; injection hk with hk; have := GPb4.out; omega)); replace BXbn := Zg hg BXbn LTbnb4; replace BXb4 := aK (hblk); clear hblk hg hz)))
    | ((with_reducible refine gD 9 rfl ?_); go_must ((refine goesL_ (some 9) rfl rfl Try.func49 (by kernel_rfl) rfl #[.slice (some ⟨b4, 0, none⟩) fldL.length 12, .func (.func 50) #[] #[.pointer (some ⟨bn, 0, none⟩)]] rfl (mpT rfl) ?_; refine (idxf49 (d := k65) info103 (eqN name) 50 Try.func50 (by kernel_rfl) rfl #[.pointer (some ⟨bn, 0, none⟩)] (some ⟨b4, 0, none⟩) 12 fldL _ (fld_C BXb4.out) (by decide) (fun x _ W hW cs hK => field1_calls name x cs bn W hK (below_blk hW BXbn.out))).mono ?_; rintro e w1 ⟨rfl, hbel⟩; refine ⟨_, rfl, ?_⟩; rw [← EN.out]; replace HB := aK (below_step HB.out hbel); replace BXbn := Zc hbel BXbn; replace BXb4 := Zc hbel BXb4; clear hbel; go_frame))))
  all_goals
    go_ret2
    refine ⟨?_, HB.out⟩
    first
      | (have e0 : max n 0 = 0 := by omega
         rw [e0]; rfl)
      | (have e0 : max n 0 = n := by omega
         rw [e0]; rfl)
end Go.Proofs.Ytdiadmlgeojefaa.A
namespace Go.Proofs.Ytdiadmlgeojefaa.A
open Go.RowKit Go.Proofs.YtdiadmlgeojefaaW.PrintWords Go.Proofs.YtdiadmlgeojefaaW.PrintLast Go.Proofs.YtdiadmlgeojefaaW.PrintMore
set_option linter.unusedVariables false
set_option linter.unusedSimpArgs false
def knownF (on name : ByteArray) : Bool :=
  if (on.toList == [112, 97, 99, 107, 101, 116]) = true then ((fieldF name).2 || (name.toList == [117, 110, 105, 116] || name.toList == [112, 111, 114, 116])) else if (on.toList == [114, 101, 109, 111, 118, 101, 100]) = true then name.toList == [117, 110, 105, 116] else false
set_option maxHeartbeats 4000000 in
set_option maxRecDepth 100000 in
theorem known_calls (on name : ByteArray) (w : World) : Calls Try.prog 15 #[.string on, .string name] w fun e w' => e = .returned (.bool (knownF on name)) ∧ Below w.heap.size w w' := by
  have HB := aK (Below.refl w.heap.size w)
  obtain ⟨n, en⟩ : ∃ n_, n_ = (fieldF name).1 := ⟨_, rfl⟩
  obtain ⟨ok, eok⟩ : ∃ n_, n_ = (fieldF name).2 := ⟨_, rfl⟩
  have FC := fun w => field_calls name w
  rw [← en, ← eok] at FC
  have HFC := aK FC
  unfold knownF
  rw [← eok]
  clear FC en eok
  rcases Bool.eq_false_or_eq_true (on.toList == [112, 97, 99, 107, 101, 116]) with c1 | c1
  · rw [if_pos c1]
    cases ok <;> rcases Bool.eq_false_or_eq_true (name.toList == [117, 110, 105, 116]) with c2 | c2 <;> (rw [c2]; go_enter Try.func15, Try.ntmps15)
    all_goals
      go_wp2_with (first
        | ((with_reducible refine gD 9 rfl ?_); go_must ((refine goesL_ (some 9) rfl rfl Try.func29 (by kernel_rfl) rfl #[.string name] rfl (mpT rfl) ?_; refine (HFC.out _).mono ?_; rintro e w1 ⟨rfl, hbel⟩; refine ⟨_, rfl, ?_⟩; replace HB := aK (below_step HB.out hbel); clear hbel))))
      all_goals
        go_ret
        exact ⟨by first | rfl | (simp_all; done), HB.out⟩
  · rw [if_neg (by rw [c1]; decide)]
    rcases Bool.eq_false_or_eq_true (on.toList == [114, 101, 109, 111, 118, 101, 100]) with c3 | c3
    · rw [if_pos c3]
      go_enter Try.func15, Try.ntmps15
      go_wp2_with (first
        | ((with_reducible refine gD 9 rfl ?_); go_must ((refine goesL_ (some 9) rfl rfl Try.func29 (by kernel_rfl) rfl #[.string name] rfl (mpT rfl) ?_; refine (HFC.out _).mono ?_; rintro e w1 ⟨rfl, hbel⟩; refine ⟨_, rfl, ?_⟩; replace HB := aK (below_step HB.out hbel); clear hbel))))
      all_goals
        go_ret
        exact ⟨by first | rfl | (simp_all; done), HB.out⟩
    · rw [if_neg (by rw [c3]; decide)]
      go_enter Try.func15, Try.ntmps15
      go_wp2_with (first
        | ((with_reducible refine gD 9 rfl ?_); go_must ((refine goesL_ (some 9) rfl rfl Try.func29 (by kernel_rfl) rfl #[.string name] rfl (mpT rfl) ?_; refine (HFC.out _).mono ?_; rintro e w1 ⟨rfl, hbel⟩; refine ⟨_, rfl, ?_⟩; replace HB := aK (below_step HB.out hbel); clear hbel))))
      all_goals
        go_ret
        exact ⟨by first | rfl | (simp_all; done), HB.out⟩
set_option maxHeartbeats 4000000 in
set_option maxRecDepth 100000 in
theorem anyOf1_calls (name on : ByteArray) (bn : Nat) (W : World) (hb : W.heap[bn]? = some (.cells [Value.string name].toArray 9 (0, 0))) :
    Calls Try.prog 83 #[.string on, .pointer (some ⟨bn, 0, none⟩)] W fun e W' => e = .returned (.bool (knownF on name)) ∧ Below W.heap.size W W' := by
  have HB := aK (Below.refl W.heap.size W)
  have BXbn := aK hb
  clear hb
  obtain ⟨k, ek⟩ : ∃ n_, n_ = knownF on name := ⟨_, rfl⟩
  have FC := fun w => known_calls on name w
  rw [← ek] at FC ⊢
  have HFC := aK FC
  clear FC ek
  go_enter Try.func83, Try.ntmps83
  go_wp2_with (first
    | ((with_reducible refine gD 5 rfl ?_); go_must ((refine ev_cell rfl (N := 5) rfl 9 (.tmp 1) rfl ⟨bn, 0, none⟩ rfl (.string name) _ ((Mine.blk_cells BXbn.out 0).trans rfl) Try.underlying9 rfl ?_)))
    | ((with_reducible refine gD 6 rfl ?_); go_must ((refine goesL_ (some 6) rfl rfl Try.func15 (by kernel_rfl) rfl #[.string on, .string name] rfl (mpT rfl) ?_; refine (HFC.out _).mono ?_; rintro e w1 ⟨rfl, hbel⟩; refine ⟨_, rfl, ?_⟩; replace HB := aK (below_step HB.out hbel); replace BXbn := Zc hbel BXbn; clear hbel))))
  go_ret
  exact ⟨rfl, HB.out⟩
set_option maxHeartbeats 4000000 in
set_option maxRecDepth 100000 in
theorem contf82 {α : Type} {d : Kd α} (hsz : (Try.prog.info? 9).map (·.size) = some d.sz) (hd1 : d.sz = 1) (p : α → Bool) (fcl : FuncId) {fn : Func} (hf : Try.prog.funcs[fcl]? = some fn) (hname : (fn.name == "runtime.NumGoroutine") = false) (hb : fn.body.isSome = true) (cap : Array Value) (A : Option Addr) (c : Nat) (xs : List α) (w : World)
    (hC : Kd.C d w A xs.length xs) (hlen : xs.length ≤ 9223372036854775806) (hcl : ∀ x ∈ xs, ∀ W, Below w.heap.size w W → ∀ v, d.K W x [v] → Calls Try.prog fcl (#[v] ++ cap) W fun e W' => e = .returned (.bool (p x)) ∧ Below W.heap.size W W') :
    Calls Try.prog 82 #[.slice A xs.length c, .func (.func fcl) #[] cap] w fun e w' => e = .returned (.bool (decide (idxF p xs 0 ≥ 0))) ∧ Below w.heap.size w w' := by
  have IC := aK (idxf101 hsz hd1 p fcl hf hname hb cap A c xs w hC hlen hcl)
  have HB := aK (Below.refl w.heap.size w)
  unfold IdxPost at IC
  clear hC hcl hsz hlen hf hname hb hd1
  obtain ⟨n, en⟩ : ∃ n_, n_ = idxF p xs 0 := ⟨_, rfl⟩
  rw [← en] at IC ⊢
  clear en
  obtain ⟨l, el⟩ : ∃ n_, n_ = xs.length := ⟨_, rfl⟩
  rw [← el] at IC ⊢
  clear el
  go_enter Try.func82, Try.ntmps82
  go_wp2_with (first
    | ((with_reducible refine gD 7 rfl ?_); go_must ((refine goesL_ (some 7) rfl rfl Try.func101 (by kernel_rfl) rfl #[.slice A l c, .func (.func fcl) #[] cap] rfl (mpT rfl) ?_; refine IC.out.mono ?_; rintro e w1 ⟨rfl, hbel⟩; refine ⟨_, rfl, ?_⟩; have n0 := aK (below_step HB.out hbel); clear HB hbel; have HB := n0; clear n0))))
  all_goals
    go_ret
    exact ⟨by first | rfl | (simp_all; done), HB.out⟩
set_option maxHeartbeats 4000000 in
set_option maxRecDepth 100000 in
theorem contf102 {α : Type} {d : Kd α} (hsz : (Try.prog.info? 29).map (·.size) = some d.sz) (p : α → Bool) (fcl : FuncId) {fn : Func} (hf : Try.prog.funcs[fcl]? = some fn) (hname : (fn.name == "runtime.NumGoroutine") = false) (hb : fn.body.isSome = true) (cap : Array Value) (A : Option Addr) (c : Nat) (xs : List α) (w : World)
    (hC : Kd.C d w A xs.length xs) (hlen : xs.length ≤ 9223372036854775806) (hcl : ∀ x ∈ xs, ∀ W, Below w.heap.size w W → ∀ cs, d.K W x cs → Calls Try.prog fcl (#[.agg cs.toArray] ++ cap) W fun e W' => e = .returned (.bool (p x)) ∧ Below W.heap.size W W') :
    Calls Try.prog 102 #[.slice A xs.length c, .func (.func fcl) #[] cap] w fun e w' => e = .returned (.bool (decide (idxF p xs 0 ≥ 0))) ∧ Below w.heap.size w w' := by
  have IC := aK (idxf117 hsz  p fcl hf hname hb cap A c xs w hC hlen hcl)
  have HB := aK (Below.refl w.heap.size w)
  unfold IdxPost at IC
  clear hC hcl hsz hlen hf hname hb 
  obtain ⟨n, en⟩ : ∃ n_, n_ = idxF p xs 0 := ⟨_, rfl⟩
  rw [← en] at IC ⊢
  clear en
  obtain ⟨l, el⟩ : ∃ n_, n_ = xs.length := ⟨_, rfl⟩
  rw [← el] at IC ⊢
  clear el
  go_enter Try.func102, Try.ntmps102
  go_wp2_with (first
    | ((with_reducible refine gD 7 rfl ?_); go_must ((refine goesL_ (some 7) rfl rfl Try.func117 (by kernel_rfl) rfl #[.slice A l c, .func (.func fcl) #[] cap] rfl (mpT rfl) ?_; refine IC.out.mono ?_; rintro e w1 ⟨rfl, hbel⟩; refine ⟨_, rfl, ?_⟩; have n0 := aK (below_step HB.out hbel); clear HB hbel; have HB := n0; clear n0))))
  all_goals
    go_ret
    exact ⟨by first | rfl | (simp_all; done), HB.out⟩
theorem anyOf1_v (name on : ByteArray) (v : Value) (bn : Nat) (W : World) (hK : Kd.string.K W on [v]) (hb : W.heap[bn]? = some (.cells [Value.string name].toArray 9 (0, 0))) :
    Calls Try.prog 83 #[v, .pointer (some ⟨bn, 0, none⟩)] W fun e W' => e = .returned (.bool (knownF on name)) ∧ Below W.heap.size W W' := by
  obtain rfl : v = .string on := by simpa [Kd.string, Kd.scalar] using hK
  exact anyOf1_calls name on bn W hb
def evL : List ByteArray := [⟨#[112, 97, 99, 107, 101, 116]⟩, ⟨#[114, 101, 109, 111, 118, 101, 100]⟩, ⟨#[116, 105, 99, 107]⟩]
def anyF (name : ByteArray) : Bool := decide (idxF (fun on => knownF on name) evL 0 ≥ 0)
theorem info9s : (Try.prog.info? 9).map (·.size) = some 1 := by kernel_rfl
set_option maxHeartbeats 4000000 in
set_option maxRecDepth 100000 in
theorem anyOf_calls (name : ByteArray) (w : World) : Calls Try.prog 62 #[.string name] w fun e w' => e = .returned (.bool (anyF name)) ∧ Below w.heap.size w w' := by
  have HB := aK (Below.refl w.heap.size w)
  have hmf : ∀ (fn : Fn) (first cap : Array Value) (w : World), (Instr.makeFunc fn first cap).run Try.prog w = .ok (.func fn first cap) w := fun _ _ _ _ => rfl
  obtain ⟨k, ek⟩ : ∃ n_, n_ = anyF name := ⟨_, rfl⟩
  rw [← ek]
  have EK := aK ek
  clear ek
  go_enter Try.func62, Try.ntmps62
  go_wp2_with (first
    | ((with_reducible refine gD 1 rfl ?_); go_must ((refine ev_box1 rfl (N := 1) rfl (.tmp 0) rfl (.string name) rfl rfl ?_; intro bn hbn w1 hblk hbel; have GPbn := aK (show w.heap.size ≤ bn by have := HB.out.size; omega); replace HB := aK (below_step HB.out hbel); have BXbn := aK hblk; clear hblk hbel hbn)))
    | ((with_reducible refine gD 3 rfl ?_); go_must ((refine goesL_ (some 3) rfl rfl Try.func14 (by kernel_rfl) rfl #[] rfl (mpT rfl) ?_; refine (check_Events.calls evL _ rfl).mono ?_; rintro e w1 ⟨v0, rfl, hR0, hbel⟩; refine ⟨_, rfl, ?_⟩; have hV0 := Kd.R_V (base' := 0) hR0; obtain ⟨A0, c9, e0⟩ := Kd.V_slice hV0; subst e0; have HC := aK (Kd.V_reads' hV0).2.2; clear hR0 hV0; replace HB := aK (below_step HB.out hbel); replace BXbn := Zc hbel BXbn; clear hbel)))
    | ((with_reducible refine gD 5 rfl ?_); go_must ((refine goesL_ (some 5) rfl rfl Try.func82 (by kernel_rfl) rfl #[.slice A0 evL.length c9, .func (.func 83) #[] #[.pointer (some ⟨bn, 0, none⟩)]] rfl (mpT rfl) ?_; refine (contf82 (d := Kd.string) info9s rfl (fun on => knownF on name) 83 Try.func83 (by kernel_rfl) rfl #[.pointer (some ⟨bn, 0, none⟩)] A0 c9 evL _ HC.out (by decide) (fun x _ W hW v hK => anyOf1_v name x v bn W hK (below_blk hW BXbn.out))).mono ?_; rintro e w1 ⟨rfl, hbel⟩; refine ⟨_, rfl, ?_⟩; rw [show decide (idxF (fun on => knownF on name) evL 0 ≥ 0) = k from EK.out.symm]; replace HB := aK (below_step HB.out hbel); replace BXbn := Zc hbel BXbn; replace HC := aK (Kd.C_below HC.out hbel); clear hbel; go_frame))))
  go_ret
  exact ⟨rfl, HB.out⟩
end Go.Proofs.Ytdiadmlgeojefaa.A
namespace Go.Proofs.Ytdiadmlgeojefaa.A
open Go.RowKit Go.Proofs.YtdiadmlgeojefaaW.PrintWords Go.Proofs.YtdiadmlgeojefaaW.PrintLast Go.Proofs.YtdiadmlgeojefaaW.PrintMore
set_option linter.unusedVariables false
set_option linter.unusedSimpArgs false
theorem law9 : Maps.Keyed Try.prog 9 := Maps.string_keyed Try.underlying9
def strK (s : ByteArray) : Lit := .string s.data.toList
def cntL : List ByteArray → ByteArray → Nat
  | [], _ => 0
  | x :: r, s => if x.toList = s.toList then cntL r s + 1 else cntL r s
def dlen : List ByteArray → Nat
  | [] => 0
  | x :: r => if cntL r x = 0 then dlen r + 1 else dlen r
theorem cntL_le : ∀ (ks : List ByteArray) (s : ByteArray), cntL ks s ≤ ks.length
  | [], s => by simp [cntL]
  | x :: r, s => by
    have := cntL_le r s
    simp only [cntL, List.length_cons]
    split <;> omega
theorem data_toList (s : ByteArray) : s.toList = s.data.toList := ByteArray.toList_eq s
theorem strK_eq {x s : ByteArray} : strK x = strK s ↔ x.toList = s.toList := by
  simp [strK, data_toList]
def Mp (W : World) (bm : Nat) (ks : List ByteArray) : Prop :=
  ∃ D : DataW Unit, W.ownsMap Try.prog 9 (plainElem Try.prog 3) bm ks.length D ∧ Maps.Tidy D ∧ (∀ s : ByteArray, D.atKey (strK s) (.lit (.int .i64 0)) = .lit (.int .i64 (cntL ks s))) ∧ (∀ s : ByteArray, Maps.has D (strK s) = decide (cntL ks s ≠ 0)) ∧ Maps.size D = dlen ks
theorem Mp.lt {W : World} {bm : Nat} {ks : List ByteArray} (h : Mp W bm ks) : bm < W.heap.size := by
  obtain ⟨D, h1, _⟩ := h
  exact h1.lt
theorem Mp.blk {W W1 : World} {bm : Nat} {ks : List ByteArray} (h : Mp W bm ks) (he : W1.heap[bm]? = W.heap[bm]?) : Mp W1 bm ks := by
  obtain ⟨D, ⟨es, clock, hb, h1⟩, h2⟩ := h
  exact ⟨D, ⟨es, clock, he.trans hb, h1⟩, h2⟩
theorem Mp.below {W W1 : World} {bm : Nat} {ks : List ByteArray} (h : Mp W bm ks) (hb : Below W.heap.size W W1) : Mp W1 bm ks := h.blk (hb.block bm h.lt)
theorem Mp.keep {W W1 : World} {g bm : Nat} {ks : List ByteArray} (h : Mp W bm ks) (hk : KeepBut W W1 g none) (hne : bm ≠ g) : Mp W1 bm ks := h.blk (hk.2 bm h.lt hne (by simp))
theorem Mp.grown {W W1 : World} {row : Option Nat} {bm : Nat} {ks : List ByteArray} (h : Mp W bm ks) (hg : W.grownBy W1 row) (hne : some bm ≠ row) : Mp W1 bm ks := h.blk (hg.block bm h.lt hne)
theorem Mp.new (W : World) : Mp (W.alloc (.map #[] 0)) W.heap.size [] := by
  refine ⟨.map [], World.ownsMap_made _ _ _ _, Maps.tidy_empty, fun s => rfl, fun s => rfl, rfl⟩
theorem Mp.look {W : World} {bm : Nat} {ks : List ByteArray} (h : Mp W bm ks) {s : ByteArray} (hs : s.size ≤ maxLen) : (Instr.lookup 86 (.map (some bm)) (.string s) false).run Try.prog W = .ok (.int .i64 (cntL ks s)) W := by
  obtain ⟨D, h1, h2, h3, h4, h5⟩ := h
  obtain ⟨c, hrun, hat, hw⟩ := h1.lookup_int law9 Try.underlying86 Try.underlying3 (by kernel_rfl) (WideMaps.keyOf_string_mk Try.underlying9 hs)
  have := h3 s
  unfold strK at this
  rw [this] at hat
  simp only [DataW.lit.injEq, Lit.int.injEq, true_and] at hat
  rw [hrun, ← hat]
theorem Mp.upd {W : World} {bm : Nat} {ks : List ByteArray} (h : Mp W bm ks) (hl : ks.length < 4611686018427387904) {s : ByteArray} (hs : s.size ≤ maxLen) :
    ∃ W1, (Instr.mapUpdate 86 (.map (some bm)) (.string s) (.int .i64 ((cntL ks s : Int) + 1))).run Try.prog W = .ok () W1 ∧ Mp W1 bm (s :: ks) ∧ W.grownBy W1 (some bm) := by
  obtain ⟨D, h1, h2, h3, h4, h5⟩ := h
  have hc := cntL_le ks s
  obtain ⟨W1, r1, r2, r3⟩ := h1.update law9 Try.underlying86 (by unfold maxLen; omega) (WideMaps.keyOf_string_mk Try.underlying9 hs) (plainElem_int (H := Unit) (P := Try.prog) (q := .i64) Try.underlying3 (a := (cntL ks s : Int) + 1) (WalkArith.wf_i64 (by omega)))
  have hk : WideAt.IsKeyLit (strK s) := by simp [strK, WideAt.IsKeyLit]
  refine ⟨W1, r1, ⟨_, r2, h2.put hk _, fun t => ?_, fun t => ?_, ?_⟩, r3⟩
  · show (D.put (strK s) _).atKey (strK t) _ = _
    by_cases e : s.toList = t.toList
    · have e2 : strK t = strK s := (strK_eq.2 e).symm
      have h6 : cntL ks t = cntL ks s := by
        have a := h3 t
        have b := h3 s
        rw [e2, b] at a
        simp only [DataW.lit.injEq, Lit.int.injEq, true_and] at a
        omega
      rw [e2, Maps.atKey_put_same h2.isMap hk]
      simp only [cntL, if_pos e, h6]
      simp
    · rw [Maps.atKey_put_other (fun e3 => e (strK_eq.1 e3.symm)), h3 t]
      simp [cntL, e]
  · show Maps.has (D.put (strK s) _) (strK t) = _
    by_cases e : s.toList = t.toList
    · have e2 : strK t = strK s := (strK_eq.2 e).symm
      rw [e2, Maps.has_put_same h2.isMap hk]
      simp [cntL, e]
    · rw [Maps.has_put_other (fun e3 => e (strK_eq.1 e3.symm)), h4 t]
      simp [cntL, e]
  · show Maps.size (D.put (strK s) _) = _
    rw [Maps.size_put h2, h4 s, h5]
    simp only [dlen]
    by_cases e : cntL ks s = 0 <;> simp [e]
theorem Mp.len {W : World} {bm : Nat} {ks : List ByteArray} (h : Mp W bm ks) (ty : TypeId) : (Builtin.len_ #[86] ty #[.map (some bm)]).run Try.prog W = .ok (.int .i64 (dlen ks)) W := by
  obtain ⟨D, h1, h2, h3, h4, h5⟩ := h
  rw [h1.len Try.underlying86 ty, h5]
section
variable {ops : Array Oper} {rest : List Oper} {o : Oper} {a : Act} {Q : Exit → Act → World → Prop} {W : World}
theorem run_look {bm : Nat} {ks : List ByteArray} (h : Mp W bm ks) {s : ByteArray} (hs : s.size ≤ maxLen) {m x : Operand} (ho : o.op = .lookup 86 m x false) (hm : a.eval m = .map (some bm)) (hx : a.eval x = .string s) : (execOp a.eval o).run Try.prog W = .ok (.value (.int .i64 (cntL ks s))) W := by
  unfold execOp
  simp [ho, hm, hx, h.look hs]
theorem ev_mapput (hgd : o.guard = none) (hN : o.dst = none) {bm : Nat} {ks : List ByteArray} (hM : Mp W bm ks) (hl : ks.length < 4611686018427387904) {s : ByteArray} (hs : s.size ≤ maxLen) (m x v : Operand) (ho : o.op = .mapUpdate 86 m x v) (hm : a.eval m = .map (some bm)) (hx : a.eval x = .string s) (hv : a.eval v = .int .i64 ((cntL ks s : Int) + 1))
    (h : ∀ w1, Mp w1 bm (s :: ks) → W.grownBy w1 (some bm) → wpList Try.prog ops Q rest a w1) : wpList Try.prog ops Q (o :: rest) a W := by
  obtain ⟨W1, r1, r2, r3⟩ := hM.upd hl hs
  refine wpList_plain hgd fun K hK => ?_
  have hK' := hK _ _ (h W1 r2 r3)
  unfold Oper.wp execOp
  simp only [ho, hm, hx, hv, Sem.run_bind, r1]
  simpa [Oper.upon, Act.put, hN] using hK'
theorem ev_maplen (hgd : o.guard = none) {N : Tmp} (_hd : o.dst = some N) {bm : Nat} {ks : List ByteArray} (hM : Mp W bm ks) (m : Operand) (ho : o.op = .call { callee := .builtin .len, args := #[m], argTypes := #[86] }) (hm : a.eval m = .map (some bm))
    (h : wpList Try.prog ops Q rest (a.put o.dst (.int .i64 (dlen ks))) W) : wpList Try.prog ops Q (o :: rest) a W := by
  refine wpList_plain hgd fun K hK => ?_
  unfold Oper.wp
  simp [execOp, ho, resolve, invoke, builtin, hm, hM.len, Result.andThen]
  exact hK _ _ h
theorem ev_makemap (hgd : o.guard = none) {N : Tmp} (_hd : o.dst = some N) (ho : o.op = .makeMap 86 none)
    (h : ∀ bm, bm = W.heap.size → ∀ w1, Mp w1 bm [] → Below W.heap.size W w1 → wpList Try.prog ops Q rest (a.put o.dst (.map (some bm))) w1) : wpList Try.prog ops Q (o :: rest) a W := by
  refine wpList_plain hgd fun K hK => ?_
  have hK' := hK _ _ (h W.heap.size rfl _ (Mp.new W) (below_alloc (Below.refl _ _) _))
  have hrun : (execOp a.eval o).run Try.prog W = .ok (.value (.map (some W.heap.size))) (W.alloc (.map #[] 0)) := by
    unfold execOp
    simp only [ho]
    rfl
  unfold Oper.wp
  simp only [hrun]
  exact hK'
end
end Go.Proofs.Ytdiadmlgeojefaa.A
namespace Go.Proofs.Ytdiadmlgeojefaa.A
open Go.RowKit Go.Proofs.YtdiadmlgeojefaaW.PrintWords Go.Proofs.YtdiadmlgeojefaaW.PrintLast Go.Proofs.YtdiadmlgeojefaaW.PrintMore
set_option linter.unusedVariables false
set_option linter.unusedSimpArgs false
def sizeF (n : Int) : Int := if 0 ≤ n then if n < 12 then (fldL.getD n.toNat z65).f1 else 0 else 0
theorem index104 (W : World) (n : Int) (h0 : 0 ≤ n) (h1 : n < 12) : (Instr.index 104 (.agg fldCells.toArray) (.int .i64 n)).run Try.prog W = .ok (.agg #[.string (fldL.getD n.toNat z65).f0, .int .i64 (fldL.getD n.toNat z65).f1]) W := by
  have : n = 0 ∨ n = 1 ∨ n = 2 ∨ n = 3 ∨ n = 4 ∨ n = 5 ∨ n = 6 ∨ n = 7 ∨ n = 8 ∨ n = 9 ∨ n = 10 ∨ n = 11 := by omega
  rcases this with rfl | rfl | rfl | rfl | rfl | rfl | rfl | rfl | rfl | rfl | rfl | rfl <;> (show _ = _; kernel_rfl)
theorem run_index104 {o : Oper} {a : Act} {x i : Operand} (ho : o.op = .index 104 x i) {n : Int} (h0 : 0 ≤ n) (h1 : n < 12) (hx : a.eval x = .agg fldCells.toArray) (hi : a.eval i = .int .i64 n) (W : World) : (execOp a.eval o).run Try.prog W = .ok (.value (.agg #[.string (fldL.getD n.toNat z65).f0, .int .i64 (fldL.getD n.toNat z65).f1])) W := by
  unfold execOp
  simp [ho, hx, hi, index104 W n h0 h1]
set_option maxHeartbeats 4000000 in
set_option maxRecDepth 100000 in
theorem size_calls (n : Int) (w : World) : Calls Try.prog 104 #[.int .i64 n] w fun e w' => e = .returned (.int .i64 (sizeF n)) ∧ Below w.heap.size w w' := by
  have HB := aK (Below.refl w.heap.size w)
  unfold sizeF
  have hth : ∃ b, head_there.f n = some b ∧ b = decide (0 ≤ n ∧ n < 12) := by
    unfold head_there.f
    by_cases h0 : 0 ≤ n <;> by_cases h1 : n < 12 <;> simp [h0, h1] <;> omega
  obtain ⟨b, hth, hb⟩ := hth
  have HT := aK hth
  clear hth
  by_cases h0 : 0 ≤ n
  · by_cases h1 : n < 12
    · rw [if_pos h0, if_pos h1]
      obtain rfl : b = true := by simpa [h0, h1] using hb
      obtain ⟨z, ez⟩ : ∃ z_, z_ = fldL.getD n.toNat z65 := ⟨_, rfl⟩
      rw [← ez]
      have EZ := aK ez
      clear ez hb
      go_enter Try.func104, Try.ntmps104
      go_wp2_with (first
        | ((with_reducible refine gD 4 rfl ?_); go_must ((refine goesL_ (some 4) rfl rfl Try.func118 (by kernel_rfl) rfl #[.int .i64 n] rfl (mpT rfl) ?_; refine (head_there.calls n _ _ HT.out).mono ?_; rintro e w1 ⟨rfl, hd9⟩; refine ⟨_, rfl, ?_⟩; have hbel := hd9.below; clear hd9; replace HB := aK (below_step HB.out hbel); clear hbel)))
        | ((with_reducible refine gD 6 rfl ?_); go_must ((refine goesL_ (some 6) rfl rfl Try.func48 (by kernel_rfl) rfl #[] rfl (mpT rfl) ?_; refine (fields_calls _).mono ?_; rintro e w1 ⟨rfl, hbel⟩; refine ⟨_, rfl, ?_⟩; replace HB := aK (below_step HB.out hbel); clear hbel)))
        | ((with_reducible refine gD 8 rfl ?_); go_must ((refine ev_yield rfl (N := 8) rfl (v := .agg #[.string z.f0, .int .i64 z.f1]) (by rw [EZ.out]; exact run_index104 rfl h0 h1 rfl rfl _) ?_)))
        | ((with_reducible refine gD 9 rfl ?_); go_must ((refine ev_yield rfl (N := 9) rfl (v := .int .i64 z.f1) (run_fieldop (P := Try.prog) Try.underlying103 (f := { name := "size", type := 3, offset := 1, embedded := false, tag := "", pkgPath := "podesta/head", byteOffset := 16 }) rfl Try.underlying3 rfl (.tmp 8) rfl rfl rfl _) ?_))))
      go_ret
      exact ⟨rfl, HB.out⟩
    · rw [if_pos h0, if_neg h1]
      obtain rfl : b = false := by simpa [h0, h1] using hb
      clear hb
      go_enter Try.func104, Try.ntmps104
      go_wp2_with (first
        | ((with_reducible refine gD 4 rfl ?_); go_must ((refine goesL_ (some 4) rfl rfl Try.func118 (by kernel_rfl) rfl #[.int .i64 n] rfl (mpT rfl) ?_; refine (head_there.calls n _ _ HT.out).mono ?_; rintro e w1 ⟨rfl, hd9⟩; refine ⟨_, rfl, ?_⟩; have hbel := hd9.below; clear hd9; replace HB := aK (below_step HB.out hbel); clear hbel))))
      go_ret
      exact ⟨rfl, HB.out⟩
  · rw [if_neg h0]
    obtain rfl : b = false := by simpa [h0] using hb
    clear hb
    go_enter Try.func104, Try.ntmps104
    go_wp2_with (first
      | ((with_reducible refine gD 4 rfl ?_); go_must ((refine goesL_ (some 4) rfl rfl Try.func118 (by kernel_rfl) rfl #[.int .i64 n] rfl (mpT rfl) ?_; refine (head_there.calls n _ _ HT.out).mono ?_; rintro e w1 ⟨rfl, hd9⟩; refine ⟨_, rfl, ?_⟩; have hbel := hd9.below; clear hd9; replace HB := aK (below_step HB.out hbel); clear hbel))))
    go_ret
    exact ⟨rfl, HB.out⟩
def ckc (bm : Nat) (on : ByteArray) (f : Int × Int) : List Value := [.map (some bm), .string on, .int .i64 f.1, .int .i64 f.2]
structure CkAt (w0 W : World) (g bm : Nat) (ks : List ByteArray) (on : ByteArray) (f : Int × Int) : Prop where
  blk : W.heap[g]? = some (.cells (ckc bm on f).toArray 88 (0, 0))
  map : Mp W bm ks
  ge : w0.heap.size ≤ g
  geM : w0.heap.size ≤ bm
  bel : Below w0.heap.size w0 W
section
variable {w0 w W W1 : World} {g bm : Nat} {ks : List ByteArray} {on : ByteArray} {f f' : Int × Int}
theorem CkAt.lt (h : CkAt w0 W g bm ks on f) : g < W.heap.size := blk_lt h.blk
theorem CkAt.ne (h : CkAt w0 W g bm ks on f) : bm ≠ g := by
  obtain ⟨D, ⟨es, clock, hb, _⟩, _⟩ := h.map
  intro e
  subst e
  rw [h.blk] at hb
  cases hb
theorem CkAt.below (h : CkAt w0 W g bm ks on f) (hb : Below W.heap.size W W1) : CkAt w0 W1 g bm ks on f := ⟨below_blk hb h.blk, h.map.below hb, h.ge, h.geM, below_step h.bel hb⟩
theorem CkAt.drew (h : CkAt w0 W g bm ks on f) : CkAt w0 W.drew g bm ks on f := ⟨h.blk, h.map.blk rfl, h.ge, h.geM, below_drew h.bel⟩
theorem CkAt.grown {b : Nat} (h : CkAt w0 W g bm ks on f) (hg : W.grownBy W1 (some b)) (h1 : b ≠ g) (h2 : b ≠ bm) (h3 : w0.heap.size ≤ b) : CkAt w0 W1 g bm ks on f :=
  ⟨grown_blk hg h.blk (Ne.symm h1), h.map.grown hg (by simpa using Ne.symm h2), h.ge, h.geM, pw_below_grown h.bel _ h.bel.size hg (by intro k hk; injection hk with hk; omega)⟩
theorem CkAt.turned (h : CkAt w0 W g bm ks on f) (hg : W.grownBy W1 (some g)) (hb : W1.heap[g]? = some (.cells (ckc bm on f').toArray 88 (0, 0))) : CkAt w0 W1 g bm ks on f' :=
  ⟨hb, h.map.grown hg (by simpa using h.ne), h.ge, h.geM, pw_below_grown h.bel _ h.bel.size hg (by intro k hk; injection hk with hk; have := h.ge; omega)⟩
end
def CkPost (w0 w : World) (g bm : Nat) (ks : List ByteArray) (on : ByteArray) (f : Int × Int) (e : Ending) (w' : World) : Prop :=
  e = .returned (.tuple #[]) ∧ CkAt w0 w' g bm ks on f ∧ KeepBut w w' g none
def failF (f : Int × Int) (x a : Int) : Int × Int := if f.1 = 0 then (x, a) else f
set_option maxHeartbeats 4000000 in
set_option maxRecDepth 100000 in
theorem fail_calls {w0 w : World} {g bm : Nat} {ks : List ByteArray} {on : ByteArray} {f : Int × Int} (hC : CkAt w0 w g bm ks on f) (x : Int) (T : S29) (v : Value) :
    Calls Try.prog 63 #[.pointer (some ⟨g, 0, none⟩), .int .i64 x, .agg (nc T v).toArray] w (CkPost w0 w g bm ks on (failF f x T.f4)) := by
  have HC := aK hC
  have GL := aK hC.lt
  have HK := aK (KeepBut.refl w g none)
  clear hC
  obtain ⟨e0, a0⟩ := f
  unfold failF
  by_cases c0 : e0 = 0
  · rw [if_pos c0]
    have c1 : (e0 == 0) = true := beq_iff_eq.2 c0
    clear c0
    go_enter Try.func63, Try.ntmps63
    go_wp2_with (first
      | ((with_reducible refine gD 5 rfl ?_); refine Mine.ev_box rfl (N := 5) rfl (.tmp 2) rfl (nc (T) (v)) rfl ?_; intro b1 hbn w1 hblk hbel; have GBb1 := aK (show w.heap.size ≤ b1 by have := HK.out.1; omega); replace HC := aK (HC.out.below hbel); replace HK := Zw HK hbel; have BXb1 := aK hblk; clear hblk hbel hbn)
      | ((with_reducible refine gD 10 rfl ?_); refine ev_cell rfl (N := 10) rfl 30 (.tmp 9) rfl ⟨g, 2, none⟩ rfl (.int .i64 e0) _ ((Mine.blk_cells HC.out.blk 2).trans rfl) Try.underlying30 rfl ?_)
      | ((with_reducible refine gD 15 rfl ?_); refine ev_cell rfl (N := 15) rfl 3 (.tmp 14) rfl ⟨b1, 4, none⟩ rfl (.int .i64 T.f4) _ ((Mine.blk_cells BXb1.out 4).trans rfl) Try.underlying3 rfl ?_)
      | ((with_reducible refine gate_ (.store 32 (.tmp 18) (.tmp 16)) rfl ?_); refine Mine.ev_store rfl rfl 32 (.tmp 18) (.tmp 16) rfl (.agg #[.int .i64 x, .int .i64 T.f4]) (fc x T.f4) rfl rfl rfl HC.out.blk (by simp [ckc, fc]) info32s (by intro q hq; simp only [fc, List.mem_cons, List.not_mem_nil, or_false] at hq; rcases hq with rfl | rfl <;> rfl) ?_; intro w1 hblk hg hz; replace HC := aK (HC.out.turned hg (f' := (x, T.f4)) hblk); replace HK := aK (keep_grown HK.out hg (.inr rfl)); replace BXb1 := aK (grown_blk hg BXb1.out (by have := GBb1.out; have := GL.out; omega)); clear hblk hg hz))
    first | go_end0 | ((try simp only [Exit.inBlock, Exit.then]); refine bodyPost_ret (results_none rfl _ _ _) rfl ?_)
    exact ⟨rfl, HC.out, HK.out⟩
  · rw [if_neg c0]
    have c1 : (e0 == 0) = false := beq_eq_false_iff_ne.2 c0
    clear c0
    go_enter Try.func63, Try.ntmps63
    go_wp2_with (first
      | ((with_reducible refine gD 5 rfl ?_); refine Mine.ev_box rfl (N := 5) rfl (.tmp 2) rfl (nc (T) (v)) rfl ?_; intro b1 hbn w1 hblk hbel; have GBb1 := aK (show w.heap.size ≤ b1 by have := HK.out.1; omega); replace HC := aK (HC.out.below hbel); replace HK := Zw HK hbel; have BXb1 := aK hblk; clear hblk hbel hbn)
      | ((with_reducible refine gD 10 rfl ?_); refine ev_cell rfl (N := 10) rfl 30 (.tmp 9) rfl ⟨g, 2, none⟩ rfl (.int .i64 e0) _ ((Mine.blk_cells HC.out.blk 2).trans rfl) Try.underlying30 rfl ?_))
    first | go_end0 | ((try simp only [Exit.inBlock, Exit.then]); refine bodyPost_ret (results_none rfl _ _ _) rfl ?_)
    exact ⟨rfl, HC.out, HK.out⟩
end Go.Proofs.Ytdiadmlgeojefaa.A
namespace Go.Proofs.Ytdiadmlgeojefaa.A
open Go.RowKit Go.Proofs.YtdiadmlgeojefaaW.PrintWords Go.Proofs.YtdiadmlgeojefaaW.PrintLast Go.Proofs.YtdiadmlgeojefaaW.PrintMore
set_option linter.unusedVariables false
set_option linter.unusedSimpArgs false
theorem yielded_of {ops : Array Oper} {j : Nat} {oj : Oper} {N : Tmp} {b : Bool} {a : Act} (hj : ops[j]? = some oj) (hd : oj.dst = some N) (hv : a.eval (.tmp N) = .bool b) (hlt : N < a.tmps.size) : yielded ops a.tmps j = some b := by
  have h1 : a.tmps[N]? = some (.bool b) := by
    simp only [Act.eval, Array.getD_eq_getD_getElem?] at hv
    rw [Array.getElem?_eq_getElem hlt] at hv ⊢
    simpa using hv
  simp [yielded, hj, hd, h1]
theorem wanted_yes {ops : Array Oper} {a : Act} {o : Oper} {j : Nat} {want : Bool} (hg : o.guard = some (j, want)) (hy : yielded ops a.tmps j = some want) : Region.wanted o (yielded ops a.tmps) = true := by
  simp [Region.wanted, hg, hy]
theorem wanted_no {ops : Array Oper} {a : Act} {o : Oper} {j : Nat} {want b : Bool} (hg : o.guard = some (j, want)) (hy : yielded ops a.tmps j = some b) (hne : b ≠ want) : Region.wanted o (yielded ops a.tmps) = false := by
  simp [Region.wanted, hg, hy, hne]
theorem run_loadT {o : Oper} {a : Act} {ty : TypeId} {x : Operand} (ho : o.op = .load ty x) {ad : Addr} {v : Value} {d : TypeDesc} (hx : a.eval x = .pointer (some ad)) {w : World} (hc : w.cell? ad = some v) (hu : Try.prog.underlying ty = some d) (hd : (match d with | .struct _ | .array _ _ => true | _ => false) = false) : (execOp a.eval o).run Try.prog w = .ok (.value v) w := by
  unfold execOp
  simp only [ho, hx, Instr.loadAt, Instr.sureAddr, Sem.run_bind, Sem.run_pure, Result.andThen_ok, run_loadVar_cell w ad ty v d hc hu hd]
section
variable {o : Oper} {a : Act} {x y z : Operand}
theorem run_eq3 (ho : o.op = .binOp .eql 3 x y 3) {n m : Int} (hx : a.eval x = .int .i64 n) (hy : a.eval y = .int .i64 m) : ∀ w, (execOp a.eval o).run Try.prog w = .ok (.value (.bool (n == m))) w := by
  intro w
  generalize a.eval = ev at hx hy
  unfold execOp
  simp only [ho, hx, hy]
  first | (go_simp; done) | (go_simp; rfl)
theorem run_gt3 (ho : o.op = .binOp .gtr 3 x y 3) {n m : Int} (hx : a.eval x = .int .i64 n) (hy : a.eval y = .int .i64 m) : ∀ w, (execOp a.eval o).run Try.prog w = .ok (.value (.bool (decide (m < n)))) w := by
  intro w
  generalize a.eval = ev at hx hy
  unfold execOp
  simp only [ho, hx, hy]
  first | (go_simp; done) | (go_simp; rfl)
theorem run_not4 (ho : o.op = .unOp .not 4 x) {b : Bool} (hx : a.eval x = .bool b) : ∀ w, (execOp a.eval o).run Try.prog w = .ok (.value (.bool (!b))) w := by
  intro w
  generalize a.eval = ev at hx
  unfold execOp
  simp only [ho, hx]
  first | (go_simp; done) | (go_simp; rfl)
theorem run_pick (ho : o.op = .pick x y z) {b : Bool} {u : Value} (hx : a.eval x = .bool b) (hu : (if b = true then a.eval y else a.eval z) = u) : ∀ w, (execOp a.eval o).run Try.prog w = .ok (.value u) w := by
  intro w
  generalize a.eval = ev at hx hu
  unfold execOp
  simp only [ho, hx]
  cases b <;> simp_all [asBool]
theorem run_assign (ho : o.op = .assign x) {v : Value} (hx : a.eval x = v) : ∀ w, (execOp a.eval o).run Try.prog w = .ok (.value v) w := by
  intro w
  unfold execOp
  simp only [ho, hx]
  rfl
theorem run_fa29_0 (ho : o.op = .fieldAddr 29 x 0) {b : Nat} (hx : a.eval x = .pointer (some ⟨b, 0, none⟩)) : ∀ w, (execOp a.eval o).run Try.prog w = .ok (.value (.pointer (some ⟨b, 0, none⟩))) w := by
  intro w
  generalize a.eval = ev at hx
  unfold execOp
  simp only [ho, hx]
  first | (go_simp; done) | (go_simp; rfl)
theorem run_fa29_1 (ho : o.op = .fieldAddr 29 x 1) {b : Nat} (hx : a.eval x = .pointer (some ⟨b, 0, none⟩)) : ∀ w, (execOp a.eval o).run Try.prog w = .ok (.value (.pointer (some ⟨b, 1, none⟩))) w := by
  intro w
  generalize a.eval = ev at hx
  unfold execOp
  simp only [ho, hx]
  first | (go_simp; done) | (go_simp; rfl)
theorem run_fa29_2 (ho : o.op = .fieldAddr 29 x 2) {b : Nat} (hx : a.eval x = .pointer (some ⟨b, 0, none⟩)) : ∀ w, (execOp a.eval o).run Try.prog w = .ok (.value (.pointer (some ⟨b, 2, none⟩))) w := by
  intro w
  generalize a.eval = ev at hx
  unfold execOp
  simp only [ho, hx]
  first | (go_simp; done) | (go_simp; rfl)
theorem run_fa88_0 (ho : o.op = .fieldAddr 88 x 0) {b : Nat} (hx : a.eval x = .pointer (some ⟨b, 0, none⟩)) : ∀ w, (execOp a.eval o).run Try.prog w = .ok (.value (.pointer (some ⟨b, 0, none⟩))) w := by
  intro w
  generalize a.eval = ev at hx
  unfold execOp
  simp only [ho, hx]
  first | (go_simp; done) | (go_simp; rfl)
theorem run_fa88_1 (ho : o.op = .fieldAddr 88 x 1) {b : Nat} (hx : a.eval x = .pointer (some ⟨b, 0, none⟩)) : ∀ w, (execOp a.eval o).run Try.prog w = .ok (.value (.pointer (some ⟨b, 1, none⟩))) w := by
  intro w
  generalize a.eval = ev at hx
  unfold execOp
  simp only [ho, hx]
  first | (go_simp; done) | (go_simp; rfl)
end
structure fld4yChk (ops : Array Oper) : Prop where
  f0 : anyB .any ops #[false, false, false, false, false, false, false, false, false, false, false] #[true, false, false, false, false, false, false, false, false, false, false] 0 = true
  f1 : takeB .any ops [] #[true, false, false, false, false, false, false, false, false, false, false] #[true, true, false, false, false, false, false, false, false, false, false] 1 = true
  f2 : anyB .any ops #[true, true, false, false, false, false, false, false, false, false, false] #[true, true, true, false, false, false, false, false, false, false, false] 2 = true
  f3 : anyB .any ops #[true, true, true, false, false, false, false, false, false, false, false] #[true, true, true, true, false, false, false, false, false, false, false] 3 = true
  f4 : anyB .any ops #[true, true, true, true, false, false, false, false, false, false, false] #[true, true, true, true, true, false, false, false, false, false, false] 4 = true
  f5 : takeB .any ops [] #[true, true, true, true, true, false, false, false, false, false, false] #[true, true, true, true, true, true, false, false, false, false, false] 5 = true
  f6 : anyB .any ops #[true, true, true, true, true, true, false, false, false, false, false] #[true, true, true, true, true, true, true, false, false, false, false] 6 = true
  f7 : readyB .any ops #[true, true, true, true, true, true, true, false, false, false, false] #[true, true, true, true, true, true, true, true, false, false, false] 7 = true
  f8 : anyB .any ops #[true, true, true, true, true, true, true, true, false, false, false] #[true, true, true, true, true, true, true, true, true, false, false] 8 = true
  f9 : anyB .any ops #[true, true, true, true, true, true, true, true, true, false, false] #[true, true, true, true, true, true, true, true, true, true, false] 9 = true
  f10 : anyB .any ops #[true, true, true, true, true, true, true, true, true, true, false] #[true, true, true, true, true, true, true, true, true, true, true] 10 = true
  f11 : (Region.ready .any ops #[true, true, true, true, true, true, true, true, true, true, true] == []) = true
set_option maxHeartbeats 1000000 in
theorem fld4y {ops : Array Oper} {id : Nat} {Q : Exit → Act → World → Prop} {a : Act} {W : World} {b1 : Nat} {T : S29} {v : Value} {k : Int} (hb1 : W.heap[b1]? = some (.cells (nc T v).toArray 29 (0, 0)))
    (hkind : (T.f0 == 13) = true)
    {o0 o1 o2 o3 o4 o5 o6 o7 o8 o9 o10 : Oper} (hsize : ops.size = 11) (h0 : ops[0]? = some o0) (h1 : ops[1]? = some o1) (h2 : ops[2]? = some o2) (h3 : ops[3]? = some o3) (h4 : ops[4]? = some o4) (h5 : ops[5]? = some o5) (h6 : ops[6]? = some o6) (h7 : ops[7]? = some o7) (h8 : ops[8]? = some o8) (h9 : ops[9]? = some o9) (h10 : ops[10]? = some o10)
    (g0 : o0.guard = none ∧ o0.dst = some 19) (g1 : o1.guard = none ∧ o1.dst = some 20) (g2 : o2.guard = none ∧ o2.dst = some 21) (g3 : o3.guard = none ∧ o3.dst = some 22) (g4 : o4.guard = some (3, true) ∧ o4.dst = some 23) (g5 : o5.guard = some (3, true) ∧ o5.dst = some 24) (g6 : o6.guard = some (3, true) ∧ o6.dst = some 25) (g7 : o7.guard = some (3, true) ∧ o7.dst = some 26) (g8 : o8.guard = some (3, true) ∧ o8.dst = some 27) (g9 : o9.guard = none ∧ o9.dst = some 28) (g10 : o10.guard = none ∧ o10.dst = some 18)
    (p0 : o0.op = .fieldAddr 29 (.tmp 3) 0) (p1 : o1.op = .load 3 (.tmp 19)) (p2 : o2.op = .binOp .eql 3 (.tmp 20) (.const (.int .i64 13)) 3) (p3 : o3.op = .move (.tmp 21)) (p4 : o4.op = .fieldAddr 29 (.tmp 3) 2) (p5 : o5.op = .load 3 (.tmp 23)) (p6 : o6.op = .move (.tmp 4)) (p7 : o7.op = .call { callee := .value (.func 104), args := #[.tmp 25], argTypes := #[3] }) (p8 : o8.op = .binOp .gtr 3 (.tmp 24) (.tmp 26) 3) (p9 : o9.op = .pick (.tmp 22) (.tmp 27) (.const (.bool false))) (p10 : o10.op = .assign (.tmp 28))
    
    (hsz : a.tmps.size = 32) (v3 : a.eval (.tmp 3) = .pointer (some ⟨b1, 0, none⟩)) (v4 : a.eval (.tmp 4) = .int .i64 k) (hc : fld4yChk ops)
    (hQ : ∀ (d : Tmp) v c a w, Q (.panic c) (Act.put a (some d) v) w → Q (.panic c) a w)
    (hpost : ∀ W', W'.heap[b1]? = some (.cells (nc T v).toArray 29 (0, 0)) → Below W.heap.size W W' → Q .normal (((((((((((a.put (some 19) (.pointer (some ⟨b1, 0, none⟩))).put (some 20) (.int .i64 T.f0)).put (some 21) (.bool true)).put (some 22) (.bool true)).put (some 23) (.pointer (some ⟨b1, 2, none⟩))).put (some 24) (.int .i64 T.f2)).put (some 25) (.int .i64 k)).put (some 26) (.int .i64 (sizeF k))).put (some 27) (.bool (decide (sizeF k < T.f2)))).put (some 28) (.bool (decide (sizeF k < T.f2)))).put (some 18) (.bool (decide (sizeF k < T.f2)))) W') :
    (Code.region id ops true).wp Try.prog Q a W := by
  refine start_ (n := 11) (S := fun w' => w'.heap[b1]? = some (.cells (nc T v).toArray 29 (0, 0)) ∧ Below W.heap.size W w') (ds := []) #[false, false, false, false, false, false, false, false, false, false, false] (by kernel_rfl) hsize rfl ⟨hb1, below_drew (Below.refl _ _)⟩ (fun hS2 => ?_)
  refine pure_ (i := 0) (N := some 19) (v := (.pointer (some ⟨b1, 0, none⟩))) #[true, false, false, false, false, false, false, false, false, false, false] h0 g0.2 hc.f0 (fun c a w => by rw [g0.2]; exact hQ _ _ c a w) (Or.inl ⟨(by simp [Region.wanted, g0.1]), run_fa29_0 p0 (by rw [v3])⟩) rfl ?_
  refine take_ (i := 1) (N := some 20) (v := (.int .i64 T.f0)) #[true, true, false, false, false, false, false, false, false, false, false] h1 g1.2 hc.f1 (fun c a w => by rw [g1.2]; exact hQ _ _ c a w) (Or.inl ⟨(by simp [Region.wanted, g1.1]), fun w9 hw9 => run_loadT p1 (by rw [act_same _ _ _ (by (try simp only [act_size]); rw [hsz]; decide)]) ((Mine.blk_cells hw9.1 0).trans rfl) Try.underlying3 rfl⟩) hS2 rfl ?_
  refine pure_ (i := 2) (N := some 21) (v := (.bool true)) #[true, true, true, false, false, false, false, false, false, false, false] h2 g2.2 hc.f2 (fun c a w => by rw [g2.2]; exact hQ _ _ c a w) (Or.inl ⟨(by simp [Region.wanted, g2.1]), (fun w => (run_eq3 p2 (by rw [act_same _ _ _ (by (try simp only [act_size]); rw [hsz]; decide)]) rfl w).trans (by rw [hkind]))⟩) rfl ?_
  refine pure_ (i := 3) (N := some 22) (v := (.bool true)) #[true, true, true, true, false, false, false, false, false, false, false] h3 g3.2 hc.f3 (fun c a w => by rw [g3.2]; exact hQ _ _ c a w) (Or.inl ⟨(by simp [Region.wanted, g3.1]), run_move p3 (by rw [act_same _ _ _ (by (try simp only [act_size]); rw [hsz]; decide)])⟩) rfl ?_
  refine pure_ (i := 4) (N := some 23) (v := (.pointer (some ⟨b1, 2, none⟩))) #[true, true, true, true, true, false, false, false, false, false, false] h4 g4.2 hc.f4 (fun c a w => by rw [g4.2]; exact hQ _ _ c a w) (Or.inl ⟨(wanted_yes g4.1 (yielded_of h3 g3.2 (by rw [act_same _ _ _ (by (try simp only [act_size]); rw [hsz]; decide)]) (by (try simp only [act_size]); rw [hsz]; decide))), run_fa29_2 p4 (by rw [act_ne _ _ (by decide), act_ne _ _ (by decide), act_ne _ _ (by decide), act_ne _ _ (by decide), v3])⟩) rfl ?_
  refine take_ (i := 5) (N := some 24) (v := (.int .i64 T.f2)) #[true, true, true, true, true, true, false, false, false, false, false] h5 g5.2 hc.f5 (fun c a w => by rw [g5.2]; exact hQ _ _ c a w) (Or.inl ⟨(wanted_yes g5.1 (yielded_of h3 g3.2 (by rw [act_ne _ _ (by decide), act_same _ _ _ (by (try simp only [act_size]); rw [hsz]; decide)]) (by (try simp only [act_size]); rw [hsz]; decide))), fun w9 hw9 => run_loadT p5 (by rw [act_same _ _ _ (by (try simp only [act_size]); rw [hsz]; decide)]) ((Mine.blk_cells hw9.1 2).trans rfl) Try.underlying3 rfl⟩) hS2 rfl ?_
  refine pure_ (i := 6) (N := some 25) (v := (.int .i64 k)) #[true, true, true, true, true, true, true, false, false, false, false] h6 g6.2 hc.f6 (fun c a w => by rw [g6.2]; exact hQ _ _ c a w) (Or.inl ⟨(wanted_yes g6.1 (yielded_of h3 g3.2 (by rw [act_ne _ _ (by decide), act_ne _ _ (by decide), act_same _ _ _ (by (try simp only [act_size]); rw [hsz]; decide)]) (by (try simp only [act_size]); rw [hsz]; decide))), run_move p6 (by rw [act_ne _ _ (by decide), act_ne _ _ (by decide), act_ne _ _ (by decide), act_ne _ _ (by decide), act_ne _ _ (by decide), act_ne _ _ (by decide), v4])⟩) rfl ?_
  refine YtdiadmlgeojefaaW.PrintLast.one_ (i := 7) (N := some 26) #[true, true, true, true, true, true, true, true, false, false, false] h7 g7.2 hc.f7 (by decide) (fun K hK => goes_ (f := 104) (fn := Try.f104) Try.func104 (by kernel_rfl) rfl #[.int .i64 k] (wanted_yes g7.1 (yielded_of h3 g3.2 (by rw [act_ne _ _ (by decide), act_ne _ _ (by decide), act_ne _ _ (by decide), act_same _ _ _ (by (try simp only [act_size]); rw [hsz]; decide)]) (by (try simp only [act_size]); rw [hsz]; decide))) g7.2 p7 ?_ ?_)
  · simp only [List.map_toArray, List.map_cons, List.map_nil]
    rw [act_same _ _ _ (by (try simp only [act_size]); rw [hsz]; decide)]
    try rfl
  refine (size_calls k W.drew).mono ?_
  rintro e W1 ⟨rfl, hbel⟩
  refine ⟨_, rfl, ?_⟩
  have hb9 : W1.heap[b1]? = some (.cells (nc T v).toArray 29 (0, 0)) := below_blk (w := W.drew) hbel hb1
  have hB9 : Below W.heap.size W W1 := below_step (below_drew (Below.refl W.heap.size W)) hbel
  refine hK _ _ ⟨hb9, hB9⟩ (fun _ => ?_)
  refine pure_ (i := 8) (N := some 27) (v := (.bool (decide (sizeF k < T.f2)))) #[true, true, true, true, true, true, true, true, true, false, false] h8 g8.2 hc.f8 (fun c a w => by rw [g8.2]; exact hQ _ _ c a w) (Or.inl ⟨(wanted_yes g8.1 (yielded_of h3 g3.2 (by rw [act_ne _ _ (by decide), act_ne _ _ (by decide), act_ne _ _ (by decide), act_ne _ _ (by decide), act_same _ _ _ (by (try simp only [act_size]); rw [hsz]; decide)]) (by (try simp only [act_size]); rw [hsz]; decide))), run_gt3 p8 (by rw [act_ne _ _ (by decide), act_ne _ _ (by decide), act_same _ _ _ (by (try simp only [act_size]); rw [hsz]; decide)]) (by rw [act_same _ _ _ (by (try simp only [act_size]); rw [hsz]; decide)])⟩) rfl ?_
  refine pure_ (i := 9) (N := some 28) (v := (.bool (decide (sizeF k < T.f2)))) #[true, true, true, true, true, true, true, true, true, true, false] h9 g9.2 hc.f9 (fun c a w => by rw [g9.2]; exact hQ _ _ c a w) (Or.inl ⟨(by simp [Region.wanted, g9.1]), run_pick p9 (b := true) (by rw [act_ne _ _ (by decide), act_ne _ _ (by decide), act_ne _ _ (by decide), act_ne _ _ (by decide), act_ne _ _ (by decide), act_same _ _ _ (by (try simp only [act_size]); rw [hsz]; decide)]) (by rw [if_pos rfl]; exact (by rw [act_same _ _ _ (by (try simp only [act_size]); rw [hsz]; decide)]))⟩) rfl ?_
  refine pure_ (i := 10) (N := some 18) (v := (.bool (decide (sizeF k < T.f2)))) #[true, true, true, true, true, true, true, true, true, true, true] h10 g10.2 hc.f10 (fun c a w => by rw [g10.2]; exact hQ _ _ c a w) (Or.inl ⟨(by simp [Region.wanted, g10.1]), run_assign p10 (by rw [act_same _ _ _ (by (try simp only [act_size]); rw [hsz]; decide)])⟩) rfl ?_
  refine (done_ hc.f11 ?_)
  exact hpost _ hb9 hB9
structure fld4nChk (ops : Array Oper) : Prop where
  f0 : anyB .any ops #[false, false, false, false, false, false, false, false, false, false, false] #[true, false, false, false, false, false, false, false, false, false, false] 0 = true
  f1 : takeB .any ops [] #[true, false, false, false, false, false, false, false, false, false, false] #[true, true, false, false, false, false, false, false, false, false, false] 1 = true
  f2 : anyB .any ops #[true, true, false, false, false, false, false, false, false, false, false] #[true, true, true, false, false, false, false, false, false, false, false] 2 = true
  f3 : anyB .any ops #[true, true, true, false, false, false, false, false, false, false, false] #[true, true, true, true, false, false, false, false, false, false, false] 3 = true
  f4 : anyB .any ops #[true, true, true, true, false, false, false, false, false, false, false] #[true, true, true, true, true, false, false, false, false, false, false] 4 = true
  f5 : anyB .any ops #[true, true, true, true, true, false, false, false, false, false, false] #[true, true, true, true, true, true, false, false, false, false, false] 5 = true
  f6 : anyB .any ops #[true, true, true, true, true, true, false, false, false, false, false] #[true, true, true, true, true, true, true, false, false, false, false] 6 = true
  f7 : anyB .any ops #[true, true, true, true, true, true, true, false, false, false, false] #[true, true, true, true, true, true, true, true, false, false, false] 7 = true
  f8 : anyB .any ops #[true, true, true, true, true, true, true, true, false, false, false] #[true, true, true, true, true, true, true, true, true, false, false] 8 = true
  f9 : anyB .any ops #[true, true, true, true, true, true, true, true, true, false, false] #[true, true, true, true, true, true, true, true, true, true, false] 9 = true
  f10 : anyB .any ops #[true, true, true, true, true, true, true, true, true, true, false] #[true, true, true, true, true, true, true, true, true, true, true] 10 = true
  f11 : (Region.ready .any ops #[true, true, true, true, true, true, true, true, true, true, true] == []) = true
set_option maxHeartbeats 1000000 in
theorem fld4n {ops : Array Oper} {id : Nat} {Q : Exit → Act → World → Prop} {a : Act} {W : World} {b1 : Nat} {T : S29} {v : Value} {k : Int} (hb1 : W.heap[b1]? = some (.cells (nc T v).toArray 29 (0, 0)))
    (hkind : (T.f0 == 13) = false)
    {o0 o1 o2 o3 o4 o5 o6 o7 o8 o9 o10 : Oper} (hsize : ops.size = 11) (h0 : ops[0]? = some o0) (h1 : ops[1]? = some o1) (h2 : ops[2]? = some o2) (h3 : ops[3]? = some o3) (h4 : ops[4]? = some o4) (h5 : ops[5]? = some o5) (h6 : ops[6]? = some o6) (h7 : ops[7]? = some o7) (h8 : ops[8]? = some o8) (h9 : ops[9]? = some o9) (h10 : ops[10]? = some o10)
    (g0 : o0.guard = none ∧ o0.dst = some 19) (g1 : o1.guard = none ∧ o1.dst = some 20) (g2 : o2.guard = none ∧ o2.dst = some 21) (g3 : o3.guard = none ∧ o3.dst = some 22) (g4 : o4.guard = some (3, true) ∧ o4.dst = some 23) (g5 : o5.guard = some (3, true) ∧ o5.dst = some 24) (g6 : o6.guard = some (3, true) ∧ o6.dst = some 25) (g7 : o7.guard = some (3, true) ∧ o7.dst = some 26) (g8 : o8.guard = some (3, true) ∧ o8.dst = some 27) (g9 : o9.guard = none ∧ o9.dst = some 28) (g10 : o10.guard = none ∧ o10.dst = some 18)
    (p0 : o0.op = .fieldAddr 29 (.tmp 3) 0) (p1 : o1.op = .load 3 (.tmp 19)) (p2 : o2.op = .binOp .eql 3 (.tmp 20) (.const (.int .i64 13)) 3) (p3 : o3.op = .move (.tmp 21)) (p4 : o4.op = .fieldAddr 29 (.tmp 3) 2) (p5 : o5.op = .load 3 (.tmp 23)) (p6 : o6.op = .move (.tmp 4)) (p7 : o7.op = .call { callee := .value (.func 104), args := #[.tmp 25], argTypes := #[3] }) (p8 : o8.op = .binOp .gtr 3 (.tmp 24) (.tmp 26) 3) (p9 : o9.op = .pick (.tmp 22) (.tmp 27) (.const (.bool false))) (p10 : o10.op = .assign (.tmp 28))
    
    (hsz : a.tmps.size = 32) (v3 : a.eval (.tmp 3) = .pointer (some ⟨b1, 0, none⟩)) (v4 : a.eval (.tmp 4) = .int .i64 k) (hc : fld4nChk ops)
    (hQ : ∀ (d : Tmp) v c a w, Q (.panic c) (Act.put a (some d) v) w → Q (.panic c) a w)
    (hpost : ∀ W', W'.heap[b1]? = some (.cells (nc T v).toArray 29 (0, 0)) → Below W.heap.size W W' → Q .normal (((((((((((a.put (some 19) (.pointer (some ⟨b1, 0, none⟩))).put (some 20) (.int .i64 T.f0)).put (some 21) (.bool false)).put (some 22) (.bool false)).put (some 23) undef).put (some 24) undef).put (some 25) undef).put (some 26) undef).put (some 27) undef).put (some 28) (.bool false)).put (some 18) (.bool false)) W') :
    (Code.region id ops true).wp Try.prog Q a W := by
  refine start_ (n := 11) (S := fun w' => w'.heap[b1]? = some (.cells (nc T v).toArray 29 (0, 0)) ∧ Below W.heap.size W w') (ds := []) #[false, false, false, false, false, false, false, false, false, false, false] (by kernel_rfl) hsize rfl ⟨hb1, below_drew (Below.refl _ _)⟩ (fun hS2 => ?_)
  refine pure_ (i := 0) (N := some 19) (v := (.pointer (some ⟨b1, 0, none⟩))) #[true, false, false, false, false, false, false, false, false, false, false] h0 g0.2 hc.f0 (fun c a w => by rw [g0.2]; exact hQ _ _ c a w) (Or.inl ⟨(by simp [Region.wanted, g0.1]), run_fa29_0 p0 (by rw [v3])⟩) rfl ?_
  refine take_ (i := 1) (N := some 20) (v := (.int .i64 T.f0)) #[true, true, false, false, false, false, false, false, false, false, false] h1 g1.2 hc.f1 (fun c a w => by rw [g1.2]; exact hQ _ _ c a w) (Or.inl ⟨(by simp [Region.wanted, g1.1]), fun w9 hw9 => run_loadT p1 (by rw [act_same _ _ _ (by (try simp only [act_size]); rw [hsz]; decide)]) ((Mine.blk_cells hw9.1 0).trans rfl) Try.underlying3 rfl⟩) hS2 rfl ?_
  refine pure_ (i := 2) (N := some 21) (v := (.bool false)) #[true, true, true, false, false, false, false, false, false, false, false] h2 g2.2 hc.f2 (fun c a w => by rw [g2.2]; exact hQ _ _ c a w) (Or.inl ⟨(by simp [Region.wanted, g2.1]), (fun w => (run_eq3 p2 (by rw [act_same _ _ _ (by (try simp only [act_size]); rw [hsz]; decide)]) rfl w).trans (by rw [hkind]))⟩) rfl ?_
  refine pure_ (i := 3) (N := some 22) (v := (.bool false)) #[true, true, true, true, false, false, false, false, false, false, false] h3 g3.2 hc.f3 (fun c a w => by rw [g3.2]; exact hQ _ _ c a w) (Or.inl ⟨(by simp [Region.wanted, g3.1]), run_move p3 (by rw [act_same _ _ _ (by (try simp only [act_size]); rw [hsz]; decide)])⟩) rfl ?_
  refine pure_ (i := 4) (N := some 23) (v := undef) #[true, true, true, true, true, false, false, false, false, false, false] h4 g4.2 hc.f4 (fun c a w => by rw [g4.2]; exact hQ _ _ c a w) (Or.inr ⟨wanted_no g4.1 (yielded_of h3 g3.2 (by rw [act_same _ _ _ (by (try simp only [act_size]); rw [hsz]; decide)]) (by (try simp only [act_size]); rw [hsz]; decide)) (by decide), rfl⟩) rfl ?_
  refine pure_ (i := 5) (N := some 24) (v := undef) #[true, true, true, true, true, true, false, false, false, false, false] h5 g5.2 hc.f5 (fun c a w => by rw [g5.2]; exact hQ _ _ c a w) (Or.inr ⟨wanted_no g5.1 (yielded_of h3 g3.2 (by rw [act_ne _ _ (by decide), act_same _ _ _ (by (try simp only [act_size]); rw [hsz]; decide)]) (by (try simp only [act_size]); rw [hsz]; decide)) (by decide), rfl⟩) rfl ?_
  refine pure_ (i := 6) (N := some 25) (v := undef) #[true, true, true, true, true, true, true, false, false, false, false] h6 g6.2 hc.f6 (fun c a w => by rw [g6.2]; exact hQ _ _ c a w) (Or.inr ⟨wanted_no g6.1 (yielded_of h3 g3.2 (by rw [act_ne _ _ (by decide), act_ne _ _ (by decide), act_same _ _ _ (by (try simp only [act_size]); rw [hsz]; decide)]) (by (try simp only [act_size]); rw [hsz]; decide)) (by decide), rfl⟩) rfl ?_
  refine pure_ (i := 7) (N := some 26) (v := undef) #[true, true, true, true, true, true, true, true, false, false, false] h7 g7.2 hc.f7 (fun c a w => by rw [g7.2]; exact hQ _ _ c a w) (Or.inr ⟨wanted_no g7.1 (yielded_of h3 g3.2 (by rw [act_ne _ _ (by decide), act_ne _ _ (by decide), act_ne _ _ (by decide), act_same _ _ _ (by (try simp only [act_size]); rw [hsz]; decide)]) (by (try simp only [act_size]); rw [hsz]; decide)) (by decide), rfl⟩) rfl ?_
  refine pure_ (i := 8) (N := some 27) (v := undef) #[true, true, true, true, true, true, true, true, true, false, false] h8 g8.2 hc.f8 (fun c a w => by rw [g8.2]; exact hQ _ _ c a w) (Or.inr ⟨wanted_no g8.1 (yielded_of h3 g3.2 (by rw [act_ne _ _ (by decide), act_ne _ _ (by decide), act_ne _ _ (by decide), act_ne _ _ (by decide), act_same _ _ _ (by (try simp only [act_size]); rw [hsz]; decide)]) (by (try simp only [act_size]); rw [hsz]; decide)) (by decide), rfl⟩) rfl ?_
  refine pure_ (i := 9) (N := some 28) (v := (.bool false)) #[true, true, true, true, true, true, true, true, true, true, false] h9 g9.2 hc.f9 (fun c a w => by rw [g9.2]; exact hQ _ _ c a w) (Or.inl ⟨(by simp [Region.wanted, g9.1]), run_pick p9 (b := false) (by rw [act_ne _ _ (by decide), act_ne _ _ (by decide), act_ne _ _ (by decide), act_ne _ _ (by decide), act_ne _ _ (by decide), act_same _ _ _ (by (try simp only [act_size]); rw [hsz]; decide)]) (by rw [if_neg (by decide)]; rfl)⟩) rfl ?_
  refine pure_ (i := 10) (N := some 18) (v := (.bool false)) #[true, true, true, true, true, true, true, true, true, true, true] h10 g10.2 hc.f10 (fun c a w => by rw [g10.2]; exact hQ _ _ c a w) (Or.inl ⟨(by simp [Region.wanted, g10.1]), run_assign p10 (by rw [act_same _ _ _ (by (try simp only [act_size]); rw [hsz]; decide)])⟩) rfl ?_
  refine (done_ hc.f11 ?_)
  exact hpost _ hb1 (below_drew (Below.refl _ _))
def fieldC (f : Int × Int) (T : S29) : Int × Int := if (fieldF T.f1).2 = true then (if (T.f0 == 13) = true then (if decide (sizeF (fieldF T.f1).1 < T.f2) = true then failF f 13 T.f4 else f) else f) else failF f 14 T.f4
set_option maxHeartbeats 4000000 in
set_option maxRecDepth 100000 in
theorem fieldC_calls {w0 w : World} {g bm : Nat} {ks : List ByteArray} {on : ByteArray} {f : Int × Int} (hC : CkAt w0 w g bm ks on f) (T : S29) (v : Value) :
    Calls Try.prog 86 #[.pointer (some ⟨g, 0, none⟩), .agg (nc T v).toArray] w (CkPost w0 w g bm ks on (fieldC f T)) := by
  have HC := aK hC
  have GL := aK hC.lt
  have HK := aK (KeepBut.refl w g none)
  clear hC
  unfold fieldC
  obtain ⟨k, ek⟩ : ∃ n_, n_ = (fieldF T.f1).1 := ⟨_, rfl⟩
  obtain ⟨ok, eok⟩ : ∃ n_, n_ = (fieldF T.f1).2 := ⟨_, rfl⟩
  have FC := fun w => field_calls T.f1 w
  rw [← ek, ← eok] at FC
  rw [← ek, ← eok]
  have HFC := aK FC
  clear FC ek eok
  cases ok
  · rw [if_neg (by decide)]
    go_enter Try.func86, Try.ntmps86
    go_wp2_with (first
      | ((with_reducible refine gD 3 rfl ?_); refine Mine.ev_box rfl (N := 3) rfl (.tmp 1) rfl (nc (T) (v)) rfl ?_; intro b1 hbn w1 hblk hbel; have GBb1 := aK (show w.heap.size ≤ b1 by have := HK.out.1; omega); replace HC := aK (HC.out.below hbel); replace HK := Zw HK hbel; have BXb1 := aK hblk; clear hblk hbel hbn)
      | ((with_reducible refine gD 8 rfl ?_); refine ev_cell rfl (N := 8) rfl 9 (.tmp 7) rfl ⟨b1, 1, none⟩ rfl (.string T.f1) _ ((Mine.blk_cells BXb1.out 1).trans rfl) Try.underlying9 rfl ?_)
      | ((with_reducible refine gD 9 rfl ?_); refine goesL_ (some 9) rfl rfl Try.func29 (by kernel_rfl) rfl #[.string T.f1] rfl (mpT rfl) ?_; refine (HFC.out _).mono ?_; rintro e w1 ⟨rfl, hbel⟩; refine ⟨_, rfl, ?_⟩; replace HC := aK (HC.out.below hbel); replace HK := Zw HK hbel; replace BXb1 := Zc hbel BXb1; clear hbel)
      | ((with_reducible refine gD 16 rfl ?_); refine ev_load29 rfl (N := 16) rfl (.tmp 3) rfl (b := b1) rfl BXb1.out ?_)
      | ((with_reducible refine gD 30 rfl ?_); refine ev_load29 rfl (N := 30) rfl (.tmp 3) rfl (b := b1) rfl BXb1.out ?_)
      | ((with_reducible refine gD 17 rfl ?_); refine goesL_ (some 17) rfl rfl Try.func63 (by kernel_rfl) rfl #[.pointer (some ⟨g, 0, none⟩), .int .i64 14, .agg (nc T v).toArray] rfl (mpT rfl) ?_; refine (fail_calls HC.out 14 T v).mono ?_; rintro e w1 ⟨rfl, he, hk⟩; refine ⟨_, rfl, ?_⟩; replace HC := aK (he); replace HK := Zk HK hk; replace BXb1 := Zb hk BXb1 GBb1 GL; clear he hk))
    first | go_end0 | ((try simp only [Exit.inBlock, Exit.then]); refine bodyPost_ret (results_none rfl _ _ _) rfl ?_)
    exact ⟨rfl, HC.out, HK.out⟩
  · rw [if_pos rfl]
    rcases Bool.eq_false_or_eq_true (T.f0 == 13) with c1 | c1
    · rw [if_pos c1]
      have C1 := aK c1
      clear c1
      rcases Bool.eq_false_or_eq_true (decide (sizeF k < T.f2)) with c2 | c2
      · rw [if_pos c2]
        have C2 := aK c2
        clear c2
        go_enter Try.func86, Try.ntmps86
        go_wp2_with (first
          | ((with_reducible refine gD 3 rfl ?_); refine Mine.ev_box rfl (N := 3) rfl (.tmp 1) rfl (nc (T) (v)) rfl ?_; intro b1 hbn w1 hblk hbel; have GBb1 := aK (show w.heap.size ≤ b1 by have := HK.out.1; omega); replace HC := aK (HC.out.below hbel); replace HK := Zw HK hbel; have BXb1 := aK hblk; clear hblk hbel hbn)
          | ((with_reducible refine gD 8 rfl ?_); refine ev_cell rfl (N := 8) rfl 9 (.tmp 7) rfl ⟨b1, 1, none⟩ rfl (.string T.f1) _ ((Mine.blk_cells BXb1.out 1).trans rfl) Try.underlying9 rfl ?_)
          | ((with_reducible refine gD 9 rfl ?_); refine goesL_ (some 9) rfl rfl Try.func29 (by kernel_rfl) rfl #[.string T.f1] rfl (mpT rfl) ?_; refine (HFC.out _).mono ?_; rintro e w1 ⟨rfl, hbel⟩; refine ⟨_, rfl, ?_⟩; replace HC := aK (HC.out.below hbel); replace HK := Zw HK hbel; replace BXb1 := Zc hbel BXb1; clear hbel))
        refine fld4y BXb1.out C1.out rfl rfl rfl rfl rfl rfl rfl rfl rfl rfl rfl rfl ⟨rfl, rfl⟩ ⟨rfl, rfl⟩ ⟨rfl, rfl⟩ ⟨rfl, rfl⟩ ⟨rfl, rfl⟩ ⟨rfl, rfl⟩ ⟨rfl, rfl⟩ ⟨rfl, rfl⟩ ⟨rfl, rfl⟩ ⟨rfl, rfl⟩ ⟨rfl, rfl⟩ rfl rfl rfl rfl rfl rfl rfl rfl rfl rfl rfl  rfl rfl rfl (by constructor <;> kernel_rfl) (fun _ _ _ _ _ h => h) ?_
        intro w2 hb2 hbel
        have n0 := aK (HC.out.below hbel)
        have n1 := aK (keep_below HK.out hbel)
        have n2 := aK (below_blk hbel BXb1.out)
        clear HC HK BXb1
        have HC := n0
        have HK := n1
        have BXb1 := n2
        clear n0 n1 n2
        clear hbel hb2
        simp only [Act.put, List.setIfInBounds_toArray, List.set_cons_zero, List.set_cons_succ]
        rw [C2.out]
        go_wp2_with (first
          | ((with_reducible refine gD 30 rfl ?_); refine ev_load29 rfl (N := 30) rfl (.tmp 3) rfl (b := b1) rfl BXb1.out ?_)
          | ((with_reducible refine gD 31 rfl ?_); refine goesL_ (some 31) rfl rfl Try.func63 (by kernel_rfl) rfl #[.pointer (some ⟨g, 0, none⟩), .int .i64 13, .agg (nc T v).toArray] rfl (mpT rfl) ?_; refine (fail_calls HC.out 13 T v).mono ?_; rintro e w1 ⟨rfl, he, hk⟩; refine ⟨_, rfl, ?_⟩; replace HC := aK (he); replace HK := Zk HK hk; replace BXb1 := Zb hk BXb1 GBb1 GL; clear he hk))
        first | go_end0 | ((try simp only [Exit.inBlock, Exit.then]); refine bodyPost_ret (results_none rfl _ _ _) rfl ?_)
        exact ⟨rfl, HC.out, HK.out⟩
      · rw [if_neg (by rw [c2]; decide)]
        have C2 := aK c2
        clear c2
        go_enter Try.func86, Try.ntmps86
        go_wp2_with (first
          | ((with_reducible refine gD 3 rfl ?_); refine Mine.ev_box rfl (N := 3) rfl (.tmp 1) rfl (nc (T) (v)) rfl ?_; intro b1 hbn w1 hblk hbel; have GBb1 := aK (show w.heap.size ≤ b1 by have := HK.out.1; omega); replace HC := aK (HC.out.below hbel); replace HK := Zw HK hbel; have BXb1 := aK hblk; clear hblk hbel hbn)
          | ((with_reducible refine gD 8 rfl ?_); refine ev_cell rfl (N := 8) rfl 9 (.tmp 7) rfl ⟨b1, 1, none⟩ rfl (.string T.f1) _ ((Mine.blk_cells BXb1.out 1).trans rfl) Try.underlying9 rfl ?_)
          | ((with_reducible refine gD 9 rfl ?_); refine goesL_ (some 9) rfl rfl Try.func29 (by kernel_rfl) rfl #[.string T.f1] rfl (mpT rfl) ?_; refine (HFC.out _).mono ?_; rintro e w1 ⟨rfl, hbel⟩; refine ⟨_, rfl, ?_⟩; replace HC := aK (HC.out.below hbel); replace HK := Zw HK hbel; replace BXb1 := Zc hbel BXb1; clear hbel))
        refine fld4y BXb1.out C1.out rfl rfl rfl rfl rfl rfl rfl rfl rfl rfl rfl rfl ⟨rfl, rfl⟩ ⟨rfl, rfl⟩ ⟨rfl, rfl⟩ ⟨rfl, rfl⟩ ⟨rfl, rfl⟩ ⟨rfl, rfl⟩ ⟨rfl, rfl⟩ ⟨rfl, rfl⟩ ⟨rfl, rfl⟩ ⟨rfl, rfl⟩ ⟨rfl, rfl⟩ rfl rfl rfl rfl rfl rfl rfl rfl rfl rfl rfl  rfl rfl rfl (by constructor <;> kernel_rfl) (fun _ _ _ _ _ h => h) ?_
        intro w2 hb2 hbel
        have n0 := aK (HC.out.below hbel)
        have n1 := aK (keep_below HK.out hbel)
        have n2 := aK (below_blk hbel BXb1.out)
        clear HC HK BXb1
        have HC := n0
        have HK := n1
        have BXb1 := n2
        clear n0 n1 n2
        clear hbel hb2
        simp only [Act.put, List.setIfInBounds_toArray, List.set_cons_zero, List.set_cons_succ]
        rw [C2.out]
        go_wp2
        first | go_end0 | ((try simp only [Exit.inBlock, Exit.then]); refine bodyPost_ret (results_none rfl _ _ _) rfl ?_)
        exact ⟨rfl, HC.out, HK.out⟩
    · rw [if_neg (by rw [c1]; decide)]
      have C1 := aK c1
      clear c1
      go_enter Try.func86, Try.ntmps86
      go_wp2_with (first
        | ((with_reducible refine gD 3 rfl ?_); refine Mine.ev_box rfl (N := 3) rfl (.tmp 1) rfl (nc (T) (v)) rfl ?_; intro b1 hbn w1 hblk hbel; have GBb1 := aK (show w.heap.size ≤ b1 by have := HK.out.1; omega); replace HC := aK (HC.out.below hbel); replace HK := Zw HK hbel; have BXb1 := aK hblk; clear hblk hbel hbn)
        | ((with_reducible refine gD 8 rfl ?_); refine ev_cell rfl (N := 8) rfl 9 (.tmp 7) rfl ⟨b1, 1, none⟩ rfl (.string T.f1) _ ((Mine.blk_cells BXb1.out 1).trans rfl) Try.underlying9 rfl ?_)
        | ((with_reducible refine gD 9 rfl ?_); refine goesL_ (some 9) rfl rfl Try.func29 (by kernel_rfl) rfl #[.string T.f1] rfl (mpT rfl) ?_; refine (HFC.out _).mono ?_; rintro e w1 ⟨rfl, hbel⟩; refine ⟨_, rfl, ?_⟩; replace HC := aK (HC.out.below hbel); replace HK := Zw HK hbel; replace BXb1 := Zc hbel BXb1; clear hbel))
      refine fld4n BXb1.out C1.out rfl rfl rfl rfl rfl rfl rfl rfl rfl rfl rfl rfl ⟨rfl, rfl⟩ ⟨rfl, rfl⟩ ⟨rfl, rfl⟩ ⟨rfl, rfl⟩ ⟨rfl, rfl⟩ ⟨rfl, rfl⟩ ⟨rfl, rfl⟩ ⟨rfl, rfl⟩ ⟨rfl, rfl⟩ ⟨rfl, rfl⟩ ⟨rfl, rfl⟩ rfl rfl rfl rfl rfl rfl rfl rfl rfl rfl rfl  rfl rfl rfl (by constructor <;> kernel_rfl) (fun _ _ _ _ _ h => h) ?_
      intro w2 hb2 hbel
      have n0 := aK (HC.out.below hbel)
      have n1 := aK (keep_below HK.out hbel)
      have n2 := aK (below_blk hbel BXb1.out)
      clear HC HK BXb1
      have HC := n0
      have HK := n1
      have BXb1 := n2
      clear n0 n1 n2
      clear hbel hb2
      simp only [Act.put, List.setIfInBounds_toArray, List.set_cons_zero, List.set_cons_succ]
      go_wp2
      first | go_end0 | ((try simp only [Exit.inBlock, Exit.then]); refine bodyPost_ret (results_none rfl _ _ _) rfl ?_)
      exact ⟨rfl, HC.out, HK.out⟩
end Go.Proofs.Ytdiadmlgeojefaa.A
namespace Go.Proofs.Ytdiadmlgeojefaa.A
open Go.RowKit Go.Proofs.YtdiadmlgeojefaaW.PrintWords Go.Proofs.YtdiadmlgeojefaaW.PrintLast Go.Proofs.YtdiadmlgeojefaaW.PrintMore
set_option linter.unusedVariables false
set_option linter.unusedSimpArgs false
abbrev Ft := Int × Int
def eachC (rec : Ft → S29 → Option Ft) : Ft → List S29 → Option Ft
  | f, [] => some f
  | f, x :: r => (rec f x).bind fun f2 => eachC rec f2 r
theorem eachC_drop (rec : Ft → S29 → Option Ft) (f : Ft) (xs : List S29) {k : Nat} (hk : k < xs.length) : eachC rec f (xs.drop k) = (rec f xs[k]).bind fun f2 => eachC rec f2 (xs.drop (k + 1)) := by
  rw [List.drop_eq_getElem_cons hk]
  rfl
def NodeSh (rec : Ft → S29 → Option Ft) (ks : List ByteArray) (on : ByteArray) : Prop :=
  ∀ {w0 w : World} {g bm : Nat} {f f' : Ft} {ok : Nat → Prop} {T : S29} {v : Value}, CkAt w0 w g bm ks on f → (∀ q, ok q → q ≠ g ∧ q ≠ bm) → VK w ok v T.f3 → rec f T = some f' → Calls Try.prog 65 #[.pointer (some ⟨g, 0, none⟩), .agg (nc T v).toArray] w (CkPost w0 w g bm ks on f')
def EachSh (rec : Ft → S29 → Option Ft) (ks : List ByteArray) (on : ByteArray) : Prop :=
  ∀ {w0 w : World} {g bm : Nat} {f f' : Ft} {ok : Nat → Prop} {xs : List S29} {A : Option Addr} {c : Nat}, CkAt w0 w g bm ks on f → (∀ q, ok q → q ≠ g ∧ q ≠ bm) → VK w ok (.slice A xs.length c) xs → eachC rec f xs = some f' → Calls Try.prog 39 #[.pointer (some ⟨g, 0, none⟩), .slice A xs.length c] w (CkPost w0 w g bm ks on f')
theorem VK_elem {W : World} {ok : Nat → Prop} {A : Option Addr} {c : Nat} {xs : List S29} (h : VK W ok (.slice A xs.length c) xs) {k : Nat} (hk : k < xs.length) :
    ∃ ad ap v, A = some ad ∧ ad.add (k * 5) = ap ∧ (∀ j u, (nc xs[k] v)[j]? = some u → W.cell? (ap.add j) = some u) ∧ VK W ok v xs[k].f3 := by
  obtain ⟨ad, cs0, e0, _⟩ := C_elem (Kd.V_reads' h).2.2 hk
  subst e0
  obtain ⟨cs, hl, hF, hc⟩ := Kd.V_get h z29 (k : Int) (by omega) (by omega)
  have e1 : xs.getD (k : Int).toNat z29 = xs[k] := by simp [hk]
  rw [e1] at hF
  obtain ⟨v, rfl, hV⟩ := nc_of_FK hF
  refine ⟨ad, _, v, rfl, rfl, fun j u hu => ?_, hV⟩
  have := hc j u hu
  have e2 : (ad.add (k * 5)).add j = ad.add (k * 5 + j) := by
    unfold Addr.add
    split <;> split <;> simp_all <;> omega
  rw [e2]
  simpa [show k29.sz = 5 from rfl] using this
theorem VK_len {W : World} {ok : Nat → Prop} {A : Option Addr} {c : Nat} {xs : List S29} (h : VK W ok (.slice A xs.length c) xs) : xs.length ≤ 9223372036854775807 := (Kd.V_reads' h).2.2.2.1
set_option maxHeartbeats 4000000 in
set_option maxRecDepth 100000 in
theorem each_shows {rec : Ft → S29 → Option Ft} {ks : List ByteArray} {on : ByteArray} (hN : NodeSh rec ks on) : EachSh rec ks on := by
  intro w0 w g bm f f' ok xs A c hC hok hV h
  have OK := aK hok
  have HC := aK hC
  have GL := aK hC.lt
  have GM := aK hC.map.lt
  have HK := aK (KeepBut.refl w g none)
  have HN := aK @hN
  have VV := aK (Kd.V_bound hV)
  have HH := aK h
  have HL := aK (VK_len hV)
  obtain ⟨n, en⟩ : ∃ n_, n_ = xs.length := ⟨_, rfl⟩
  rw [← en]
  have EN := aK en
  clear hC hok hV h en hN
  go_enter Try.func39, Try.ntmps39
  go_wp2
  go_loopg [8] (n + 1) (fun kq v8 w' => ∃ (k : Nat) (f2 : Ft), v8 = .int .i64 (k : Int) ∧ Aside0 (kq + k = n + 1) ∧ Aside0 (k ≤ n) ∧ Aside0 (eachC rec f2 (xs.drop k) = some f') ∧ Aside0 (CkAt w0 w' g bm ks on f2) ∧ Aside0 (KeepBut w w' g none) ∧ Aside0 (VK w' (fun q => ok q ∧ q < w.heap.size) (.slice A xs.length c) xs))
  case atStart => exact ⟨0, f, rfl, ⟨rfl⟩, ⟨Nat.zero_le _⟩, HH, HC, HK, VV⟩
  case round =>
    clear HC HK HH VV
    obtain ⟨k, f2, rfl, KQ, KN, HH, HC, HK, VV⟩ := hrel
    by_cases hlt : k < n
    · have hx : k < xs.length := by have := EN.out; omega
      have hk64 : (k : Int) + 1 ≤ 9223372036854775807 := by have := HL.out; have := EN.out; omega
      have hh := HH.out
      rw [eachC_drop rec f2 xs hx] at hh
      obtain ⟨f3, h3, h4⟩ := Option.bind_eq_some_iff.1 hh
      obtain ⟨ad, ap, v, eA, eP, hcell, hVx⟩ := VK_elem VV.out hx
      obtain ⟨x, ex⟩ : ∃ x_, x_ = xs[k] := ⟨_, rfl⟩
      rw [← ex] at h3 hcell hVx
      have H3 := aK h3
      have H4 := aK h4
      have EA := aK eA
      have EP := aK eP
      have HCELL := aK hcell
      have VX := aK hVx
      obtain ⟨kq, rfl⟩ : ∃ q, gk = q + 1 := ⟨gk - 1, by have := KQ.out; omega⟩
      clear hh h3 h4 eA eP hcell hVx HH ex hx
      go_wp2_with (first
        | ((with_reducible refine gD 10 rfl ?_); refine ev_index rfl (N := 10) rfl 27 29 (.tmp 6) (.tmp 8) rfl (ad := ad) (n := n) (c := c) (k := k) (sz := 5) (congrArg (fun A => Value.slice A n c) EA.out) rfl hlt EP.out Try.underlying27 info29s ?_)
        | ((with_reducible refine gD 11 rfl ?_); refine Mine.ev_load rfl (N := 11) rfl 29 (.tmp 10) rfl ap rfl (nc x v) _ HCELL.out Try.underlying29 rfl info29s ?_)
        | ((with_reducible refine gD 5 rfl ?_); refine ev_alloc29 rfl (N := 5) rfl rfl ?_; intro b1 hbn w1 hblk hbel; have GBb1 := aK (show w.heap.size ≤ b1 by have := HK.out.1; omega); replace HC := aK (HC.out.below hbel); replace HK := Zw HK hbel; replace VV := aK (Kd.V_below VV.out hbel); replace VX := aK (Kd.V_below VX.out hbel); have BXb1 := aK hblk; clear hblk hbel hbn)
        | ((with_reducible refine gate_ (.store 29 (.tmp 5) (.tmp 11)) rfl ?_); refine ev_store29 rfl rfl (.tmp 5) (.tmp 11) rfl (b := b1) (z := x) (v := v) rfl rfl BXb1.out (VK_one VX.out) ?_; intro w1 hblk hg hz; replace HC := aK (HC.out.grown hg (by have := GBb1.out; have := GL.out; omega) (by have := GBb1.out; have := GM.out; omega) (by have := GBb1.out; have := GL.out; have := HC.out.ge; omega)); replace HK := Zx HK hg GBb1; replace BXb1 := aK (hblk); replace VV := aK (Kd.V_grown VV.out hg (fun q hq e => by injection e with e; have h9 : q < w.heap.size := hq.2; have := GBb1.out; omega)); replace VX := aK (Kd.V_grown VX.out hg (fun q hq e => by injection e with e; have h9 : q < w.heap.size := hq.2; have := GBb1.out; omega)); clear hblk hg hz)
        | ((with_reducible refine gD 13 rfl ?_); refine ev_load29 rfl (N := 13) rfl (.tmp 5) rfl (b := b1) rfl BXb1.out ?_)
        | ((with_reducible refine gD 14 rfl ?_); refine goesL_ (some 14) rfl rfl Try.func65 (by kernel_rfl) rfl #[.pointer (some ⟨g, 0, none⟩), .agg (nc x v).toArray] rfl (mpT rfl) ?_; refine (HN.out HC.out (fun q hq => OK.out q hq.1) VX.out H3.out).mono ?_; rintro e w1 ⟨rfl, he, hk⟩; refine ⟨_, rfl, ?_⟩; replace HC := aK (he); replace HK := Zk HK hk; replace BXb1 := Zb hk BXb1 GBb1 GL; replace VV := aK (Kd.V_keep VV.out hk (fun q hq => (OK.out q hq.1).1)); replace VX := aK (Kd.V_keep VX.out hk (fun q hq => (OK.out q hq.1).1)); clear he hk))
      go_roundg kq
      case rel => exact ⟨k + 1, f3, by go_num, ⟨by have := KQ.out; omega⟩, ⟨by omega⟩, H4, HC, HK, VV⟩
      case measure => omega
    · have hk : k = n := by have := KN.out; omega
      subst hk
      have hh := HH.out
      rw [EN.out, List.drop_length] at hh
      obtain rfl : f2 = f' := by simpa [eachC] using hh
      clear hh
      go_wp2
      first | go_end0 | ((try simp only [Exit.inBlock, Exit.then]); refine bodyPost_ret (results_none rfl _ _ _) rfl ?_)
      exact ⟨rfl, HC.out, HK.out⟩
end Go.Proofs.Ytdiadmlgeojefaa.A
namespace Go.Proofs.Ytdiadmlgeojefaa.A
open Go.RowKit Go.Proofs.YtdiadmlgeojefaaW.PrintWords Go.Proofs.YtdiadmlgeojefaaW.PrintLast Go.Proofs.YtdiadmlgeojefaaW.PrintMore
set_option linter.unusedVariables false
set_option linter.unusedSimpArgs false
def eqT (k x : S29) : Bool := x.f1.toList == k.f1.toList
def thereF (f : Ft) (done : List S29) (x : S29) : Ft := if decide (idxF (eqT x) done 0 ≥ 0) = true then failF f 5 x.f4 else f
def matchL (rec : Ft → S29 → Option Ft) : List S29 → Ft → List S29 → Option Ft
  | _, f, [] => some f
  | done, f, x :: r => (eachC rec (thereF (fieldC f x) done x) x.f3).bind fun f2 => matchL rec (done ++ [x]) f2 r
theorem matchL_drop (rec : Ft → S29 → Option Ft) (f : Ft) (xs : List S29) {k : Nat} (hk : k < xs.length) : matchL rec (xs.take k) f (xs.drop k) = (eachC rec (thereF (fieldC f xs[k]) (xs.take k) xs[k]) xs[k].f3).bind fun f2 => matchL rec (xs.take (k + 1)) f2 (xs.drop (k + 1)) := by
  rw [List.drop_eq_getElem_cons hk, List.take_succ_eq_append_getElem hk]
  rfl
theorem run_cut_to (t e : TypeId) {i : TypeInfo} (ht : Try.prog.underlying t = some (.slice e)) (hi : Try.prog.info? e = some i) (A : Option Addr) (n c j : Nat) (hj : j ≤ c) (W : World) :
    (Instr.slice t (.slice A n c) none (some (.int .i64 (j : Int))) none).run Try.prog W = .ok (.slice A j c) W := by
  have ha : (A.map fun x => x.add 0) = A := by cases A <;> simp [Addr.add]
  simp [Instr.slice, Instr.sliceBounds, Instr.sliceBound, run_underlying ht, asIntOf, hj, sizeOf, typeInfo, hi, ha]
theorem ev_cut_to {ops : Array Oper} {rest : List Oper} {o : Oper} {a : Act} {Q : Exit → Act → World → Prop} {W : World} (hgd : o.guard = none) {N : Tmp} (hd : o.dst = some N) (t e : TypeId) {s : Nat} (x y : Operand) (ho : o.op = .slice t x none (some y) none) (ht : Try.prog.underlying t = some (.slice e)) (hi : (Try.prog.info? e).map (·.size) = some s) {A : Option Addr} {n c j : Nat} (hx : a.eval x = .slice A n c) (hy : a.eval y = .int .i64 (j : Int)) (hj : j ≤ c)
    (h : wpList Try.prog ops Q rest (a.put o.dst (.slice A j c)) W) : wpList Try.prog ops Q (o :: rest) a W := by
  cases hq : Try.prog.info? e with
  | none => simp [hq] at hi
  | some i =>
    refine ev_yield hgd hd ?_ h
    unfold execOp
    simp [ho, hx, hy, Instr.sliceAt, Sem.run_bind, run_underlying ht, run_cut_to t e ht hq A n c j hj W]
set_option maxHeartbeats 4000000 in
set_option maxRecDepth 100000 in
theorem match1_calls (x y : S29) (v : Value) (cs : List Value) (bn : Nat) (W : World) (hK : k29.K W y cs) (hb : W.heap[bn]? = some (.cells (nc x v).toArray 29 (0, 0))) :
    Calls Try.prog 103 #[.agg cs.toArray, .pointer (some ⟨bn, 0, none⟩)] W fun e W' => e = .returned (.bool (eqT x y)) ∧ Below W.heap.size W W' := by
  obtain ⟨A3, c3, rfl, _, _⟩ := k29_open hK
  have HB := aK (Below.refl W.heap.size W)
  have BXbn := aK hb
  clear hK hb
  unfold eqT
  go_enter Try.func103, Try.ntmps103
  go_wp2_with (first
    | ((with_reducible refine gD 2 rfl ?_); go_must ((refine Mine.ev_box rfl (N := 2) rfl (.tmp 0) rfl (nc y (.slice A3 y.f3.length c3)) rfl ?_; intro bx hbn w1 hblk hbel; have GPbx := aK (show W.heap.size ≤ bx by have := HB.out.size; omega); have LTbnbx := aK (show bn < bx by have := blk_lt BXbn.out; omega); replace HB := aK (below_step HB.out hbel); replace BXbn := Zc hbel BXbn; have BXbx := aK hblk; clear hblk hbel hbn)))
    | ((with_reducible refine gD 5 rfl ?_); go_must ((refine ev_cell rfl (N := 5) rfl 9 (.tmp 4) rfl ⟨bx, 1, none⟩ rfl (.string y.f1) _ ((Mine.blk_cells BXbx.out 1).trans rfl) Try.underlying9 rfl ?_)))
    | ((with_reducible refine gD 7 rfl ?_); go_must ((refine ev_cell rfl (N := 7) rfl 9 (.tmp 6) rfl ⟨bn, 1, none⟩ rfl (.string x.f1) _ ((Mine.blk_cells BXbn.out 1).trans rfl) Try.underlying9 rfl ?_))))
  go_ret
  exact ⟨rfl, HB.out⟩
theorem match_there {W : World} {ok : Nat → Prop} {A : Option Addr} {c k : Nat} {xs dn : List S29} {x : S29} {v : Value} {b : Nat} (hd : dn.length = k) (he : dn = xs.take k) (hV : VK W ok (.slice A xs.length c) xs) (hn : k ≤ 9223372036854775806) (hb : W.heap[b]? = some (.cells (nc x v).toArray 29 (0, 0))) :
    Calls Try.prog 102 #[.slice A k c, .func (.func 103) #[] #[.pointer (some ⟨b, 0, none⟩)]] W fun e w' => e = .returned (.bool (decide (idxF (eqT x) dn 0 ≥ 0))) ∧ Below W.heap.size W w' := by
  have hle : k ≤ xs.length := by
    rw [he, List.length_take] at hd
    omega
  have hC : Kd.C k29 W A dn.length dn := by
    have := Kd.F_now (Kd.F_take (Kd.V_F hV) hle)
    rw [← he] at this
    exact this
  subst hd
  exact contf102 (d := k29) info29s (eqT x) 103 Try.func103 (by kernel_rfl) rfl #[.pointer (some ⟨b, 0, none⟩)] A c dn W hC hn (fun y _ W1 hW cs hK => match1_calls x y v cs b W1 hK (below_blk hW hb))
def MatchSh (rec : Ft → S29 → Option Ft) (ks : List ByteArray) (on : ByteArray) : Prop :=
  ∀ {w0 w : World} {g bm : Nat} {f f' : Ft} {ok : Nat → Prop} {T : S29} {v : Value}, CkAt w0 w g bm ks on f → (∀ q, ok q → q ≠ g ∧ q ≠ bm) → VK w ok v T.f3 → matchL rec [] f T.f3 = some f' → Calls Try.prog 85 #[.pointer (some ⟨g, 0, none⟩), .agg (nc T v).toArray] w (CkPost w0 w g bm ks on f')
set_option maxHeartbeats 4000000 in
set_option maxRecDepth 100000 in
theorem match_shows {rec : Ft → S29 → Option Ft} {ks : List ByteArray} {on : ByteArray} (hE : EachSh rec ks on) : MatchSh rec ks on := by
  intro w0 w g bm f f' ok T v0 hC hok hV h
  have OK := aK hok
  have HC := aK hC
  have GL := aK hC.lt
  have GM := aK hC.map.lt
  have HK := aK (KeepBut.refl w g none)
  have HE := aK @hE
  have VV := aK (Kd.V_bound hV)
  have HH := aK h
  have hmf : ∀ (fn : Fn) (first cap : Array Value) (w : World), (Instr.makeFunc fn first cap).run Try.prog w = .ok (.func fn first cap) w := fun _ _ _ _ => rfl
  obtain ⟨A, c, e0⟩ := Kd.V_slice hV
  subst e0
  have HL := aK (VK_len hV)
  have CL := aK (Kd.V_reads' hV).2.1
  obtain ⟨xs, exs⟩ : ∃ l_, l_ = T.f3 := ⟨_, rfl⟩
  obtain ⟨n, en⟩ : ∃ n_, n_ = xs.length := ⟨_, rfl⟩
  rw [← exs] at VV HH HL CL ⊢
  rw [← en] at HL CL ⊢
  have EN := aK en
  clear hC hok hV h en hE exs
  go_enter Try.func85, Try.ntmps85
  go_wp2_with (first
    | ((with_reducible refine gD 3 rfl ?_); go_must ((refine Mine.ev_box rfl (N := 3) rfl (.tmp 1) rfl (nc (T) ((.slice A n c))) rfl ?_; intro b0 hbn w1 hblk hbel; have GBb0 := aK (show w.heap.size ≤ b0 by have := HK.out.1; omega); replace HC := aK (HC.out.below hbel); replace HK := Zw HK hbel; replace VV := aK (Kd.V_below VV.out hbel); have BXb0 := aK hblk; clear hblk hbel hbn)))
    | ((with_reducible refine gD 7 rfl ?_); go_must ((refine ev_cell rfl (N := 7) rfl 27 (.tmp 6) rfl ⟨b0, 3, none⟩ rfl (.slice A n c) _ ((Mine.blk_cells BXb0.out 3).trans rfl) Try.underlying27 rfl ?_))))
  go_loopg [9] (n + 1) (fun kq v9 w' => ∃ (k : Nat) (f2 : Ft), v9 = .int .i64 (k : Int) ∧ Aside0 (kq + k = n + 1) ∧ Aside0 (k ≤ n) ∧ Aside0 (matchL rec (xs.take k) f2 (xs.drop k) = some f') ∧ Aside0 (CkAt w0 w' g bm ks on f2) ∧ Aside0 (KeepBut w w' g none) ∧ Aside0 (VK w' (fun q => ok q ∧ q < w.heap.size) (.slice A xs.length c) xs) ∧ Aside0 (w'.heap[b0]? = some (.cells (nc T (.slice A n c)).toArray 29 (0, 0))))
  case atStart => exact ⟨0, f, rfl, ⟨rfl⟩, ⟨Nat.zero_le _⟩, HH, HC, HK, VV, BXb0⟩
  case round =>
    clear HC HK HH VV BXb0
    obtain ⟨k, f2, rfl, KQ, KN, HH, HC, HK, VV, BXb0⟩ := hrel
    by_cases hlt : k < n
    · have hx : k < xs.length := by have := EN.out; omega
      have hk64 : (k : Int) + 1 ≤ 9223372036854775807 := by have := HL.out; have := EN.out; omega
      have hh := HH.out
      rw [matchL_drop rec f2 xs hx] at hh
      obtain ⟨f3, h3, h4⟩ := Option.bind_eq_some_iff.1 hh
      obtain ⟨ad, ap, v, eA, eP, hcell, hVx⟩ := VK_elem VV.out hx
      obtain ⟨x, ex⟩ : ∃ x_, x_ = xs[k] := ⟨_, rfl⟩
      rw [← ex] at h3 hcell hVx
      obtain ⟨A2, c2, ev⟩ := Kd.V_slice hVx
      subst ev
      obtain ⟨dn, edn⟩ : ∃ l_, l_ = xs.take k := ⟨_, rfl⟩
      rw [← edn] at h3
      have EDN := aK (show dn.length = k by rw [edn, List.length_take]; omega)
      have EDT := aK edn
      have H4 := aK h4
      have EA := aK eA
      have EP := aK eP
      have HCELL := aK hcell
      have VX := aK hVx
      have KLE := aK (show k ≤ 9223372036854775806 by have := HL.out; omega)
      have KC := aK (show k ≤ c by have := CL.out; omega)
      obtain ⟨kq, rfl⟩ : ∃ q, gk = q + 1 := ⟨gk - 1, by have := KQ.out; omega⟩
      unfold thereF at h3
      obtain ⟨rb, erb⟩ : ∃ l_, l_ = decide (idxF (eqT x) dn 0 ≥ 0) := ⟨_, rfl⟩
      rw [← erb] at h3
      have ERB := aK erb
      obtain ⟨fa, efa⟩ : ∃ l_, l_ = fieldC f2 x := ⟨_, rfl⟩
      rw [← efa] at h3
      have EFA := aK efa
      clear hh h4 eA eP hcell hVx HH ex hx edn erb efa
      cases rb
      · rw [if_neg (by decide)] at h3
        have H3 := aK h3
        clear h3
        go_wp2_with (first
          | ((with_reducible refine gD 12 rfl ?_); go_must ((refine ev_index rfl (N := 12) rfl 27 29 (.tmp 7) (.tmp 9) rfl (ad := ad) (n := n) (c := c) (k := k) (sz := 5) (congrArg (fun A => Value.slice A n c) EA.out) rfl hlt EP.out Try.underlying27 info29s ?_)))
          | ((with_reducible refine gD 13 rfl ?_); go_must ((refine Mine.ev_load rfl (N := 13) rfl 29 (.tmp 12) rfl ap rfl (nc x (.slice A2 x.f3.length c2)) _ HCELL.out Try.underlying29 rfl info29s ?_)))
          | ((with_reducible refine gD 5 rfl ?_); go_must ((refine ev_alloc29 rfl (N := 5) rfl rfl ?_; intro b1 hbn w1 hblk hbel; have GBb1 := aK (show w.heap.size ≤ b1 by have := HK.out.1; omega); have LTb0b1 := aK (show b0 < b1 by have := blk_lt BXb0.out; omega); replace HC := aK (HC.out.below hbel); replace HK := Zw HK hbel; replace BXb0 := Zc hbel BXb0; replace VV := aK (Kd.V_below VV.out hbel); replace VX := aK (Kd.V_below VX.out hbel); have BXb1 := aK hblk; clear hblk hbel hbn)))
          | ((with_reducible refine gate_ (.store 29 (.tmp 5) (.tmp 13)) rfl ?_); go_must ((refine ev_store29 rfl rfl (.tmp 5) (.tmp 13) rfl (b := b1) (z := x) (v := (.slice A2 x.f3.length c2)) rfl rfl BXb1.out rfl ?_; intro w1 hblk hg hz; replace HC := aK (HC.out.grown hg (by have := GBb1.out; have := GL.out; omega) (by have := GBb1.out; have := GM.out; omega) (by have := GBb1.out; have := GL.out; have := HC.out.ge; omega)); replace HK := Zx HK hg GBb1; replace BXb0 := Zg hg BXb0 LTb0b1; replace BXb1 := aK (hblk); replace VV := aK (Kd.V_grown VV.out hg (fun q hq e => by injection e with e; have h9 : q < w.heap.size := hq.2; have := GBb1.out; omega)); replace VX := aK (Kd.V_grown VX.out hg (fun q hq e => by injection e with e; have h9 : q < w.heap.size := hq.2; have := GBb1.out; omega)); clear hblk hg hz)))
          | ((with_reducible refine gD 15 rfl ?_); go_must ((refine ev_load29 rfl (N := 15) rfl (.tmp 5) rfl (b := b1) rfl BXb1.out ?_)))
          | ((with_reducible refine gD 24 rfl ?_); go_must ((refine ev_load29 rfl (N := 24) rfl (.tmp 5) rfl (b := b1) rfl BXb1.out ?_)))
          | ((with_reducible refine gD 16 rfl ?_); go_must ((refine goesL_ (some 16) rfl rfl Try.func86 (by kernel_rfl) rfl #[.pointer (some ⟨g, 0, none⟩), .agg (nc x (.slice A2 x.f3.length c2)).toArray] rfl (mpT rfl) ?_; refine (fieldC_calls HC.out x (.slice A2 x.f3.length c2)).mono ?_; rintro e w1 ⟨rfl, he, hk⟩; refine ⟨_, rfl, ?_⟩; rw [← EFA.out] at he; replace HC := aK (he); replace HK := Zk HK hk; replace BXb0 := Zb hk BXb0 GBb0 GL; replace BXb1 := Zb hk BXb1 GBb1 GL; replace VV := aK (Kd.V_keep VV.out hk (fun q hq => (OK.out q hq.1).1)); replace VX := aK (Kd.V_keep VX.out hk (fun q hq => (OK.out q hq.1).1)); clear he hk)))
          | ((with_reducible refine gD 18 rfl ?_); go_must ((refine ev_cell rfl (N := 18) rfl 27 (.tmp 17) rfl ⟨b0, 3, none⟩ rfl (.slice A n c) _ ((Mine.blk_cells BXb0.out 3).trans rfl) Try.underlying27 rfl ?_)))
          | ((with_reducible refine gD 20 rfl ?_); go_must ((refine ev_cut_to rfl (N := 20) rfl 27 29 (.tmp 18) (.tmp 19) rfl Try.underlying27 info29s (A := A) (n := n) (c := c) (j := k) rfl rfl KC.out ?_)))
          | ((with_reducible refine gD 22 rfl ?_); go_must ((refine goesL_ (some 22) rfl rfl Try.func102 (by kernel_rfl) rfl #[.slice A k c, .func (.func 103) #[] #[.pointer (some ⟨b1, 0, none⟩)]] rfl (mpT rfl) ?_; refine (match_there (A := A) (c := c) EDN.out EDT.out VV.out KLE.out BXb1.out).mono ?_; rintro e w1 ⟨rfl, hbel⟩; refine ⟨_, rfl, ?_⟩; rw [← ERB.out]; replace HC := aK (HC.out.below hbel); replace HK := Zw HK hbel; replace BXb0 := Zc hbel BXb0; replace BXb1 := Zc hbel BXb1; replace VV := aK (Kd.V_below VV.out hbel); replace VX := aK (Kd.V_below VX.out hbel); clear hbel; go_frame)))
          | ((with_reducible refine gD 28 rfl ?_); go_must ((refine ev_cell rfl (N := 28) rfl 27 (.tmp 27) rfl ⟨b1, 3, none⟩ rfl (.slice A2 x.f3.length c2) _ ((Mine.blk_cells BXb1.out 3).trans rfl) Try.underlying27 rfl ?_)))
          | ((with_reducible refine gD 29 rfl ?_); go_must ((refine goesL_ (some 29) rfl rfl Try.func39 (by kernel_rfl) rfl #[.pointer (some ⟨g, 0, none⟩), .slice A2 x.f3.length c2] rfl (mpT rfl) ?_; refine (HE.out HC.out (fun q hq => OK.out q hq.1) VX.out H3.out).mono ?_; rintro e w1 ⟨rfl, he, hk⟩; refine ⟨_, rfl, ?_⟩; replace HC := aK (he); replace HK := Zk HK hk; replace BXb0 := Zb hk BXb0 GBb0 GL; replace BXb1 := Zb hk BXb1 GBb1 GL; replace VV := aK (Kd.V_keep VV.out hk (fun q hq => (OK.out q hq.1).1)); replace VX := aK (Kd.V_keep VX.out hk (fun q hq => (OK.out q hq.1).1)); clear he hk))))
        go_roundg kq
        case rel => exact ⟨k + 1, f3, by go_num, ⟨by have := KQ.out; omega⟩, ⟨by omega⟩, H4, HC, HK, VV, BXb0⟩
        case measure => omega
      · rw [if_pos rfl] at h3
        have H3 := aK h3
        clear h3
        go_wp2_with (first
          | ((with_reducible refine gD 12 rfl ?_); go_must ((refine ev_index rfl (N := 12) rfl 27 29 (.tmp 7) (.tmp 9) rfl (ad := ad) (n := n) (c := c) (k := k) (sz := 5) (congrArg (fun A => Value.slice A n c) EA.out) rfl hlt EP.out Try.underlying27 info29s ?_)))
          | ((with_reducible refine gD 13 rfl ?_); go_must ((refine Mine.ev_load rfl (N := 13) rfl 29 (.tmp 12) rfl ap rfl (nc x (.slice A2 x.f3.length c2)) _ HCELL.out Try.underlying29 rfl info29s ?_)))
          | ((with_reducible refine gD 5 rfl ?_); go_must ((refine ev_alloc29 rfl (N := 5) rfl rfl ?_; intro b1 hbn w1 hblk hbel; have GBb1 := aK (show w.heap.size ≤ b1 by have := HK.out.1; omega); have LTb0b1 := aK (show b0 < b1 by have := blk_lt BXb0.out; omega); replace HC := aK (HC.out.below hbel); replace HK := Zw HK hbel; replace BXb0 := Zc hbel BXb0; replace VV := aK (Kd.V_below VV.out hbel); replace VX := aK (Kd.V_below VX.out hbel); have BXb1 := aK hblk; clear hblk hbel hbn)))
          | ((with_reducible refine gate_ (.store 29 (.tmp 5) (.tmp 13)) rfl ?_); go_must ((refine ev_store29 rfl rfl (.tmp 5) (.tmp 13) rfl (b := b1) (z := x) (v := (.slice A2 x.f3.length c2)) rfl rfl BXb1.out rfl ?_; intro w1 hblk hg hz; replace HC := aK (HC.out.grown hg (by have := GBb1.out; have := GL.out; omega) (by have := GBb1.out; have := GM.out; omega) (by have := GBb1.out; have := GL.out; have := HC.out.ge; omega)); replace HK := Zx HK hg GBb1; replace BXb0 := Zg hg BXb0 LTb0b1; replace BXb1 := aK (hblk); replace VV := aK (Kd.V_grown VV.out hg (fun q hq e => by injection e with e; have h9 : q < w.heap.size := hq.2; have := GBb1.out; omega)); replace VX := aK (Kd.V_grown VX.out hg (fun q hq e => by injection e with e; have h9 : q < w.heap.size := hq.2; have := GBb1.out; omega)); clear hblk hg hz)))
          | ((with_reducible refine gD 15 rfl ?_); go_must ((refine ev_load29 rfl (N := 15) rfl (.tmp 5) rfl (b := b1) rfl BXb1.out ?_)))
          | ((with_reducible refine gD 24 rfl ?_); go_must ((refine ev_load29 rfl (N := 24) rfl (.tmp 5) rfl (b := b1) rfl BXb1.out ?_)))
          | ((with_reducible refine gD 16 rfl ?_); go_must ((refine goesL_ (some 16) rfl rfl Try.func86 (by kernel_rfl) rfl #[.pointer (some ⟨g, 0, none⟩), .agg (nc x (.slice A2 x.f3.length c2)).toArray] rfl (mpT rfl) ?_; refine (fieldC_calls HC.out x (.slice A2 x.f3.length c2)).mono ?_; rintro e w1 ⟨rfl, he, hk⟩; refine ⟨_, rfl, ?_⟩; rw [← EFA.out] at he; replace HC := aK (he); replace HK := Zk HK hk; replace BXb0 := Zb hk BXb0 GBb0 GL; replace BXb1 := Zb hk BXb1 GBb1 GL; replace VV := aK (Kd.V_keep VV.out hk (fun q hq => (OK.out q hq.1).1)); replace VX := aK (Kd.V_keep VX.out hk (fun q hq => (OK.out q hq.1).1)); clear he hk)))
          | ((with_reducible refine gD 18 rfl ?_); go_must ((refine ev_cell rfl (N := 18) rfl 27 (.tmp 17) rfl ⟨b0, 3, none⟩ rfl (.slice A n c) _ ((Mine.blk_cells BXb0.out 3).trans rfl) Try.underlying27 rfl ?_)))
          | ((with_reducible refine gD 20 rfl ?_); go_must ((refine ev_cut_to rfl (N := 20) rfl 27 29 (.tmp 18) (.tmp 19) rfl Try.underlying27 info29s (A := A) (n := n) (c := c) (j := k) rfl rfl KC.out ?_)))
          | ((with_reducible refine gD 22 rfl ?_); go_must ((refine goesL_ (some 22) rfl rfl Try.func102 (by kernel_rfl) rfl #[.slice A k c, .func (.func 103) #[] #[.pointer (some ⟨b1, 0, none⟩)]] rfl (mpT rfl) ?_; refine (match_there (A := A) (c := c) EDN.out EDT.out VV.out KLE.out BXb1.out).mono ?_; rintro e w1 ⟨rfl, hbel⟩; refine ⟨_, rfl, ?_⟩; rw [← ERB.out]; replace HC := aK (HC.out.below hbel); replace HK := Zw HK hbel; replace BXb0 := Zc hbel BXb0; replace BXb1 := Zc hbel BXb1; replace VV := aK (Kd.V_below VV.out hbel); replace VX := aK (Kd.V_below VX.out hbel); clear hbel; go_frame)))
          | ((with_reducible refine gD 25 rfl ?_); go_must ((refine goesL_ (some 25) rfl rfl Try.func63 (by kernel_rfl) rfl #[.pointer (some ⟨g, 0, none⟩), .int .i64 5, .agg (nc x (.slice A2 x.f3.length c2)).toArray] rfl (mpT rfl) ?_; refine (fail_calls HC.out 5 x (.slice A2 x.f3.length c2)).mono ?_; rintro e w1 ⟨rfl, he, hk⟩; refine ⟨_, rfl, ?_⟩; replace HC := aK (he); replace HK := Zk HK hk; replace BXb0 := Zb hk BXb0 GBb0 GL; replace BXb1 := Zb hk BXb1 GBb1 GL; replace VV := aK (Kd.V_keep VV.out hk (fun q hq => (OK.out q hq.1).1)); replace VX := aK (Kd.V_keep VX.out hk (fun q hq => (OK.out q hq.1).1)); clear he hk)))
          | ((with_reducible refine gD 28 rfl ?_); go_must ((refine ev_cell rfl (N := 28) rfl 27 (.tmp 27) rfl ⟨b1, 3, none⟩ rfl (.slice A2 x.f3.length c2) _ ((Mine.blk_cells BXb1.out 3).trans rfl) Try.underlying27 rfl ?_)))
          | ((with_reducible refine gD 29 rfl ?_); go_must ((refine goesL_ (some 29) rfl rfl Try.func39 (by kernel_rfl) rfl #[.pointer (some ⟨g, 0, none⟩), .slice A2 x.f3.length c2] rfl (mpT rfl) ?_; refine (HE.out HC.out (fun q hq => OK.out q hq.1) VX.out H3.out).mono ?_; rintro e w1 ⟨rfl, he, hk⟩; refine ⟨_, rfl, ?_⟩; replace HC := aK (he); replace HK := Zk HK hk; replace BXb0 := Zb hk BXb0 GBb0 GL; replace BXb1 := Zb hk BXb1 GBb1 GL; replace VV := aK (Kd.V_keep VV.out hk (fun q hq => (OK.out q hq.1).1)); replace VX := aK (Kd.V_keep VX.out hk (fun q hq => (OK.out q hq.1).1)); clear he hk))))
        go_roundg kq
        case rel => exact ⟨k + 1, f3, by go_num, ⟨by have := KQ.out; omega⟩, ⟨by omega⟩, H4, HC, HK, VV, BXb0⟩
        case measure => omega
    · have hk : k = n := by have := KN.out; omega
      subst hk
      have hh := HH.out
      rw [EN.out, List.drop_length] at hh
      obtain rfl : f2 = f' := by simpa [matchL] using hh
      clear hh
      go_wp2
      first | go_end0 | ((try simp only [Exit.inBlock, Exit.then]); refine bodyPost_ret (results_none rfl _ _ _) rfl ?_)
      exact ⟨rfl, HC.out, HK.out⟩
end Go.Proofs.Ytdiadmlgeojefaa.A
namespace Go.Proofs.Ytdiadmlgeojefaa.A
open Go.RowKit Go.Proofs.YtdiadmlgeojefaaW.PrintWords Go.Proofs.YtdiadmlgeojefaaW.PrintLast Go.Proofs.YtdiadmlgeojefaaW.PrintMore
set_option linter.unusedVariables false
set_option linter.unusedSimpArgs false
def nodeF (ks : List ByteArray) (on : ByteArray) (f : Ft) (T : S29) : Option Ft :=
  if (T.f0 == 4) = true then (if T.f1.size ≤ maxLen then some (if ((cntL ks T.f1 : Int) == 0) = true then failF f 14 T.f4 else f) else none)
  else if (T.f0 == 19) = true then (if T.f1.size ≤ maxLen then some (if ((cntL ks T.f1 : Int) == 0) = true then (if (!knownF on T.f1) = true then failF f 14 T.f4 else f) else f) else none)
  else if (T.f0 == 16) = true then some (fieldC f T)
  else if (T.f0 == 14) = true then some (if decide (8 < (T.f3.length : Int)) = true then failF f 3 T.f4 else f)
  else some f
def nodeG (ks : List ByteArray) (on : ByteArray) (rec : Ft → S29 → Option Ft) (f : Ft) (T : S29) : Option Ft :=
  if (T.f0 == 12) = true then matchL rec [] f T.f3 else (nodeF ks on f T).bind fun f2 => eachC rec f2 T.f3
def nodeC (ks : List ByteArray) (on : ByteArray) : Nat → Ft → S29 → Option Ft
  | 0 => fun _ _ => none
  | m + 1 => nodeG ks on (nodeC ks on m)
structure node3Chk (ops : Array Oper) : Prop where
  f0 : anyB .any ops #[false, false, false, false, false, false, false, false] #[true, false, false, false, false, false, false, false] 0 = true
  f1 : anyB .any ops #[true, false, false, false, false, false, false, false] #[true, true, false, false, false, false, false, false] 1 = true
  f2 : anyB .any ops #[true, true, false, false, false, false, false, false] #[true, true, true, false, false, false, false, false] 2 = true
  f3 : takeB .any ops [] #[true, true, true, false, false, false, false, false] #[true, true, true, true, false, false, false, false] 3 = true
  f4 : anyB .any ops #[true, true, true, true, false, false, false, false] #[true, true, true, true, true, false, false, false] 4 = true
  f5 : takeB .any ops [] #[true, true, true, true, true, false, false, false] #[true, true, true, true, true, true, false, false] 5 = true
  f6 : takeB .any ops [] #[true, true, true, true, true, true, false, false] #[true, true, true, true, true, true, true, false] 6 = true
  f7 : anyB .any ops #[true, true, true, true, true, true, true, false] #[true, true, true, true, true, true, true, true] 7 = true
  f8 : (Region.ready .any ops #[true, true, true, true, true, true, true, true] == []) = true
set_option maxHeartbeats 1000000 in
theorem node3 {ops : Array Oper} {id : Nat} {Q : Exit → Act → World → Prop} {a : Act} {W : World} {g bm b1 : Nat} {T : S29} {v : Value} {f : Ft} {ks : List ByteArray} {on : ByteArray} (hb1 : W.heap[b1]? = some (.cells (nc T v).toArray 29 (0, 0))) (hg : W.heap[g]? = some (.cells (ckc bm on f).toArray 88 (0, 0))) (hm : Mp W bm ks) (hs : T.f1.size ≤ maxLen)
    
    {o0 o1 o2 o3 o4 o5 o6 o7 : Oper} (hsize : ops.size = 8) (h0 : ops[0]? = some o0) (h1 : ops[1]? = some o1) (h2 : ops[2]? = some o2) (h3 : ops[3]? = some o3) (h4 : ops[4]? = some o4) (h5 : ops[5]? = some o5) (h6 : ops[6]? = some o6) (h7 : ops[7]? = some o7)
    (g0 : o0.guard = none ∧ o0.dst = some 8) (g1 : o1.guard = none ∧ o1.dst = some 9) (g2 : o2.guard = none ∧ o2.dst = some 10) (g3 : o3.guard = none ∧ o3.dst = some 11) (g4 : o4.guard = none ∧ o4.dst = some 12) (g5 : o5.guard = none ∧ o5.dst = some 13) (g6 : o6.guard = none ∧ o6.dst = some 14) (g7 : o7.guard = none ∧ o7.dst = some 15)
    (p0 : o0.op = .move (.tmp 0)) (p1 : o1.op = .nilCheck (.tmp 8)) (p2 : o2.op = .fieldAddr 88 (.tmp 9) 0) (p3 : o3.op = .load 86 (.tmp 10)) (p4 : o4.op = .fieldAddr 29 (.tmp 3) 1) (p5 : o5.op = .load 9 (.tmp 12)) (p6 : o6.op = .lookup 86 (.tmp 11) (.tmp 13) false) (p7 : o7.op = .binOp .eql 3 (.tmp 14) (.const (.int .i64 0)) 3)
    
    (hsz : a.tmps.size = 65) (v0 : a.eval (.tmp 0) = .pointer (some ⟨g, 0, none⟩)) (v3 : a.eval (.tmp 3) = .pointer (some ⟨b1, 0, none⟩)) (hc : node3Chk ops)
    (hQ : ∀ (d : Tmp) v c a w, Q (.panic c) (Act.put a (some d) v) w → Q (.panic c) a w)
    (hpost : ∀ W', W' = W.drew → Q .normal ((((((((a.put (some 8) (.pointer (some ⟨g, 0, none⟩))).put (some 9) (.pointer (some ⟨g, 0, none⟩))).put (some 10) (.pointer (some ⟨g, 0, none⟩))).put (some 11) (.map (some bm))).put (some 12) (.pointer (some ⟨b1, 1, none⟩))).put (some 13) (.string T.f1)).put (some 14) (.int .i64 (cntL ks T.f1))).put (some 15) (.bool ((cntL ks T.f1 : Int) == 0))) W') :
    (Code.region id ops true).wp Try.prog Q a W := by
  refine start_ (n := 8) (S := fun w' => w'.heap[b1]? = some (.cells (nc T v).toArray 29 (0, 0)) ∧ w'.heap[g]? = some (.cells (ckc bm on f).toArray 88 (0, 0)) ∧ Mp w' bm ks) (ds := []) #[false, false, false, false, false, false, false, false] (by kernel_rfl) hsize rfl ⟨hb1, hg, hm.blk rfl⟩ (fun hS2 => ?_)
  refine pure_ (i := 0) (N := some 8) (v := (.pointer (some ⟨g, 0, none⟩))) #[true, false, false, false, false, false, false, false] h0 g0.2 hc.f0 (fun c a w => by rw [g0.2]; exact hQ _ _ c a w) (Or.inl ⟨(by simp [Region.wanted, g0.1]), run_move p0 (by rw [v0])⟩) rfl ?_
  refine pure_ (i := 1) (N := some 9) (v := (.pointer (some ⟨g, 0, none⟩))) #[true, true, false, false, false, false, false, false] h1 g1.2 hc.f1 (fun c a w => by rw [g1.2]; exact hQ _ _ c a w) (Or.inl ⟨(by simp [Region.wanted, g1.1]), run_nil p1 (by rw [act_same _ _ _ (by (try simp only [act_size]); rw [hsz]; decide)])⟩) rfl ?_
  refine pure_ (i := 2) (N := some 10) (v := (.pointer (some ⟨g, 0, none⟩))) #[true, true, true, false, false, false, false, false] h2 g2.2 hc.f2 (fun c a w => by rw [g2.2]; exact hQ _ _ c a w) (Or.inl ⟨(by simp [Region.wanted, g2.1]), run_fa88_0 p2 (by rw [act_same _ _ _ (by (try simp only [act_size]); rw [hsz]; decide)])⟩) rfl ?_
  refine take_ (i := 3) (N := some 11) (v := (.map (some bm))) #[true, true, true, true, false, false, false, false] h3 g3.2 hc.f3 (fun c a w => by rw [g3.2]; exact hQ _ _ c a w) (Or.inl ⟨(by simp [Region.wanted, g3.1]), fun w9 hw9 => run_loadT p3 (by rw [act_same _ _ _ (by (try simp only [act_size]); rw [hsz]; decide)]) ((Mine.blk_cells hw9.2.1 0).trans rfl) Try.underlying86 rfl⟩) hS2 rfl ?_
  refine pure_ (i := 4) (N := some 12) (v := (.pointer (some ⟨b1, 1, none⟩))) #[true, true, true, true, true, false, false, false] h4 g4.2 hc.f4 (fun c a w => by rw [g4.2]; exact hQ _ _ c a w) (Or.inl ⟨(by simp [Region.wanted, g4.1]), run_fa29_1 p4 (by rw [act_ne _ _ (by decide), act_ne _ _ (by decide), act_ne _ _ (by decide), act_ne _ _ (by decide), v3])⟩) rfl ?_
  refine take_ (i := 5) (N := some 13) (v := (.string T.f1)) #[true, true, true, true, true, true, false, false] h5 g5.2 hc.f5 (fun c a w => by rw [g5.2]; exact hQ _ _ c a w) (Or.inl ⟨(by simp [Region.wanted, g5.1]), fun w9 hw9 => run_loadT p5 (by rw [act_same _ _ _ (by (try simp only [act_size]); rw [hsz]; decide)]) ((Mine.blk_cells hw9.1 1).trans rfl) Try.underlying9 rfl⟩) hS2 rfl ?_
  refine take_ (i := 6) (N := some 14) (v := (.int .i64 (cntL ks T.f1))) #[true, true, true, true, true, true, true, false] h6 g6.2 hc.f6 (fun c a w => by rw [g6.2]; exact hQ _ _ c a w) (Or.inl ⟨(by simp [Region.wanted, g6.1]), fun w9 hw9 => run_look hw9.2.2 hs p6 (by rw [act_ne _ _ (by decide), act_ne _ _ (by decide), act_same _ _ _ (by (try simp only [act_size]); rw [hsz]; decide)]) (by rw [act_same _ _ _ (by (try simp only [act_size]); rw [hsz]; decide)])⟩) hS2 rfl ?_
  refine pure_ (i := 7) (N := some 15) (v := (.bool ((cntL ks T.f1 : Int) == 0))) #[true, true, true, true, true, true, true, true] h7 g7.2 hc.f7 (fun c a w => by rw [g7.2]; exact hQ _ _ c a w) (Or.inl ⟨(by simp [Region.wanted, g7.1]), run_eq3 p7 (by rw [act_same _ _ _ (by (try simp only [act_size]); rw [hsz]; decide)]) rfl⟩) rfl ?_
  refine (done_ hc.f8 ?_)
  exact hpost _ rfl
structure node6yChk (ops : Array Oper) : Prop where
  f0 : anyB .any ops #[false, false, false, false, false, false, false, false, false, false, false, false, false, false, false, false, false, false] #[true, false, false, false, false, false, false, false, false, false, false, false, false, false, false, false, false, false] 0 = true
  f1 : anyB .any ops #[true, false, false, false, false, false, false, false, false, false, false, false, false, false, false, false, false, false] #[true, true, false, false, false, false, false, false, false, false, false, false, false, false, false, false, false, false] 1 = true
  f2 : anyB .any ops #[true, true, false, false, false, false, false, false, false, false, false, false, false, false, false, false, false, false] #[true, true, true, false, false, false, false, false, false, false, false, false, false, false, false, false, false, false] 2 = true
  f3 : takeB .any ops [] #[true, true, true, false, false, false, false, false, false, false, false, false, false, false, false, false, false, false] #[true, true, true, true, false, false, false, false, false, false, false, false, false, false, false, false, false, false] 3 = true
  f4 : anyB .any ops #[true, true, true, true, false, false, false, false, false, false, false, false, false, false, false, false, false, false] #[true, true, true, true, true, false, false, false, false, false, false, false, false, false, false, false, false, false] 4 = true
  f5 : takeB .any ops [] #[true, true, true, true, true, false, false, false, false, false, false, false, false, false, false, false, false, false] #[true, true, true, true, true, true, false, false, false, false, false, false, false, false, false, false, false, false] 5 = true
  f6 : takeB .any ops [] #[true, true, true, true, true, true, false, false, false, false, false, false, false, false, false, false, false, false] #[true, true, true, true, true, true, true, false, false, false, false, false, false, false, false, false, false, false] 6 = true
  f7 : anyB .any ops #[true, true, true, true, true, true, true, false, false, false, false, false, false, false, false, false, false, false] #[true, true, true, true, true, true, true, true, false, false, false, false, false, false, false, false, false, false] 7 = true
  f8 : anyB .any ops #[true, true, true, true, true, true, true, true, false, false, false, false, false, false, false, false, false, false] #[true, true, true, true, true, true, true, true, true, false, false, false, false, false, false, false, false, false] 8 = true
  f9 : anyB .any ops #[true, true, true, true, true, true, true, true, true, false, false, false, false, false, false, false, false, false] #[true, true, true, true, true, true, true, true, true, true, false, false, false, false, false, false, false, false] 9 = true
  f10 : anyB .any ops #[true, true, true, true, true, true, true, true, true, true, false, false, false, false, false, false, false, false] #[true, true, true, true, true, true, true, true, true, true, true, false, false, false, false, false, false, false] 10 = true
  f11 : anyB .any ops #[true, true, true, true, true, true, true, true, true, true, true, false, false, false, false, false, false, false] #[true, true, true, true, true, true, true, true, true, true, true, true, false, false, false, false, false, false] 11 = true
  f12 : takeB .any ops [] #[true, true, true, true, true, true, true, true, true, true, true, true, false, false, false, false, false, false] #[true, true, true, true, true, true, true, true, true, true, true, true, true, false, false, false, false, false] 12 = true
  f13 : anyB .any ops #[true, true, true, true, true, true, true, true, true, true, true, true, true, false, false, false, false, false] #[true, true, true, true, true, true, true, true, true, true, true, true, true, true, false, false, false, false] 13 = true
  f14 : takeB .any ops [] #[true, true, true, true, true, true, true, true, true, true, true, true, true, true, false, false, false, false] #[true, true, true, true, true, true, true, true, true, true, true, true, true, true, true, false, false, false] 14 = true
  f15 : readyB .any ops #[true, true, true, true, true, true, true, true, true, true, true, true, true, true, true, false, false, false] #[true, true, true, true, true, true, true, true, true, true, true, true, true, true, true, true, false, false] 15 = true
  f16 : anyB .any ops #[true, true, true, true, true, true, true, true, true, true, true, true, true, true, true, true, false, false] #[true, true, true, true, true, true, true, true, true, true, true, true, true, true, true, true, true, false] 16 = true
  f17 : anyB .any ops #[true, true, true, true, true, true, true, true, true, true, true, true, true, true, true, true, true, false] #[true, true, true, true, true, true, true, true, true, true, true, true, true, true, true, true, true, true] 17 = true
  f18 : (Region.ready .any ops #[true, true, true, true, true, true, true, true, true, true, true, true, true, true, true, true, true, true] == []) = true
set_option maxHeartbeats 1000000 in
theorem node6y {ops : Array Oper} {id : Nat} {Q : Exit → Act → World → Prop} {a : Act} {W : World} {g bm b1 : Nat} {T : S29} {v : Value} {f : Ft} {ks : List ByteArray} {on : ByteArray} (hb1 : W.heap[b1]? = some (.cells (nc T v).toArray 29 (0, 0))) (hg : W.heap[g]? = some (.cells (ckc bm on f).toArray 88 (0, 0))) (hm : Mp W bm ks) (hs : T.f1.size ≤ maxLen)
    (hz : ((cntL ks T.f1 : Int) == 0) = true)
    {o0 o1 o2 o3 o4 o5 o6 o7 o8 o9 o10 o11 o12 o13 o14 o15 o16 o17 : Oper} (hsize : ops.size = 18) (h0 : ops[0]? = some o0) (h1 : ops[1]? = some o1) (h2 : ops[2]? = some o2) (h3 : ops[3]? = some o3) (h4 : ops[4]? = some o4) (h5 : ops[5]? = some o5) (h6 : ops[6]? = some o6) (h7 : ops[7]? = some o7) (h8 : ops[8]? = some o8) (h9 : ops[9]? = some o9) (h10 : ops[10]? = some o10) (h11 : ops[11]? = some o11) (h12 : ops[12]? = some o12) (h13 : ops[13]? = some o13) (h14 : ops[14]? = some o14) (h15 : ops[15]? = some o15) (h16 : ops[16]? = some o16) (h17 : ops[17]? = some o17)
    (g0 : o0.guard = none ∧ o0.dst = some 21) (g1 : o1.guard = none ∧ o1.dst = some 22) (g2 : o2.guard = none ∧ o2.dst = some 23) (g3 : o3.guard = none ∧ o3.dst = some 24) (g4 : o4.guard = none ∧ o4.dst = some 25) (g5 : o5.guard = none ∧ o5.dst = some 26) (g6 : o6.guard = none ∧ o6.dst = some 27) (g7 : o7.guard = none ∧ o7.dst = some 28) (g8 : o8.guard = none ∧ o8.dst = some 29) (g9 : o9.guard = some (8, true) ∧ o9.dst = some 30) (g10 : o10.guard = some (8, true) ∧ o10.dst = some 31) (g11 : o11.guard = some (8, true) ∧ o11.dst = some 32) (g12 : o12.guard = some (8, true) ∧ o12.dst = some 33) (g13 : o13.guard = some (8, true) ∧ o13.dst = some 34) (g14 : o14.guard = some (8, true) ∧ o14.dst = some 35) (g15 : o15.guard = some (8, true) ∧ o15.dst = some 36) (g16 : o16.guard = some (8, true) ∧ o16.dst = some 37) (g17 : o17.guard = none ∧ o17.dst = some 38)
    (p0 : o0.op = .move (.tmp 0)) (p1 : o1.op = .nilCheck (.tmp 21)) (p2 : o2.op = .fieldAddr 88 (.tmp 22) 0) (p3 : o3.op = .load 86 (.tmp 23)) (p4 : o4.op = .fieldAddr 29 (.tmp 3) 1) (p5 : o5.op = .load 9 (.tmp 25)) (p6 : o6.op = .lookup 86 (.tmp 24) (.tmp 26) false) (p7 : o7.op = .binOp .eql 3 (.tmp 27) (.const (.int .i64 0)) 3) (p8 : o8.op = .move (.tmp 28)) (p9 : o9.op = .move (.tmp 0)) (p10 : o10.op = .nilCheck (.tmp 30)) (p11 : o11.op = .fieldAddr 88 (.tmp 31) 1) (p12 : o12.op = .load 9 (.tmp 32)) (p13 : o13.op = .fieldAddr 29 (.tmp 3) 1) (p14 : o14.op = .load 9 (.tmp 34)) (p15 : o15.op = .call { callee := .value (.func 15), args := #[.tmp 33, .tmp 35], argTypes := #[9, 9] }) (p16 : o16.op = .unOp .not 4 (.tmp 36)) (p17 : o17.op = .pick (.tmp 29) (.tmp 37) (.const (.bool false)))
    
    (hsz : a.tmps.size = 65) (v0 : a.eval (.tmp 0) = .pointer (some ⟨g, 0, none⟩)) (v3 : a.eval (.tmp 3) = .pointer (some ⟨b1, 0, none⟩)) (hc : node6yChk ops)
    (hQ : ∀ (d : Tmp) v c a w, Q (.panic c) (Act.put a (some d) v) w → Q (.panic c) a w)
    (hpost : ∀ W', Below W.heap.size W W' → Q .normal ((((((((((((((((((a.put (some 21) (.pointer (some ⟨g, 0, none⟩))).put (some 22) (.pointer (some ⟨g, 0, none⟩))).put (some 23) (.pointer (some ⟨g, 0, none⟩))).put (some 24) (.map (some bm))).put (some 25) (.pointer (some ⟨b1, 1, none⟩))).put (some 26) (.string T.f1)).put (some 27) (.int .i64 (cntL ks T.f1))).put (some 28) (.bool true)).put (some 29) (.bool true)).put (some 30) (.pointer (some ⟨g, 0, none⟩))).put (some 31) (.pointer (some ⟨g, 0, none⟩))).put (some 32) (.pointer (some ⟨g, 1, none⟩))).put (some 33) (.string on)).put (some 34) (.pointer (some ⟨b1, 1, none⟩))).put (some 35) (.string T.f1)).put (some 36) (.bool (knownF on T.f1))).put (some 37) (.bool (!knownF on T.f1))).put (some 38) (.bool (!knownF on T.f1))) W') :
    (Code.region id ops true).wp Try.prog Q a W := by
  refine start_ (n := 18) (S := fun w' => w'.heap[b1]? = some (.cells (nc T v).toArray 29 (0, 0)) ∧ w'.heap[g]? = some (.cells (ckc bm on f).toArray 88 (0, 0)) ∧ Mp w' bm ks) (ds := []) #[false, false, false, false, false, false, false, false, false, false, false, false, false, false, false, false, false, false] (by kernel_rfl) hsize rfl ⟨hb1, hg, hm.blk rfl⟩ (fun hS2 => ?_)
  refine pure_ (i := 0) (N := some 21) (v := (.pointer (some ⟨g, 0, none⟩))) #[true, false, false, false, false, false, false, false, false, false, false, false, false, false, false, false, false, false] h0 g0.2 hc.f0 (fun c a w => by rw [g0.2]; exact hQ _ _ c a w) (Or.inl ⟨(by simp [Region.wanted, g0.1]), run_move p0 (by rw [v0])⟩) rfl ?_
  refine pure_ (i := 1) (N := some 22) (v := (.pointer (some ⟨g, 0, none⟩))) #[true, true, false, false, false, false, false, false, false, false, false, false, false, false, false, false, false, false] h1 g1.2 hc.f1 (fun c a w => by rw [g1.2]; exact hQ _ _ c a w) (Or.inl ⟨(by simp [Region.wanted, g1.1]), run_nil p1 (by rw [act_same _ _ _ (by (try simp only [act_size]); rw [hsz]; decide)])⟩) rfl ?_
  refine pure_ (i := 2) (N := some 23) (v := (.pointer (some ⟨g, 0, none⟩))) #[true, true, true, false, false, false, false, false, false, false, false, false, false, false, false, false, false, false] h2 g2.2 hc.f2 (fun c a w => by rw [g2.2]; exact hQ _ _ c a w) (Or.inl ⟨(by simp [Region.wanted, g2.1]), run_fa88_0 p2 (by rw [act_same _ _ _ (by (try simp only [act_size]); rw [hsz]; decide)])⟩) rfl ?_
  refine take_ (i := 3) (N := some 24) (v := (.map (some bm))) #[true, true, true, true, false, false, false, false, false, false, false, false, false, false, false, false, false, false] h3 g3.2 hc.f3 (fun c a w => by rw [g3.2]; exact hQ _ _ c a w) (Or.inl ⟨(by simp [Region.wanted, g3.1]), fun w9 hw9 => run_loadT p3 (by rw [act_same _ _ _ (by (try simp only [act_size]); rw [hsz]; decide)]) ((Mine.blk_cells hw9.2.1 0).trans rfl) Try.underlying86 rfl⟩) hS2 rfl ?_
  refine pure_ (i := 4) (N := some 25) (v := (.pointer (some ⟨b1, 1, none⟩))) #[true, true, true, true, true, false, false, false, false, false, false, false, false, false, false, false, false, false] h4 g4.2 hc.f4 (fun c a w => by rw [g4.2]; exact hQ _ _ c a w) (Or.inl ⟨(by simp [Region.wanted, g4.1]), run_fa29_1 p4 (by rw [act_ne _ _ (by decide), act_ne _ _ (by decide), act_ne _ _ (by decide), act_ne _ _ (by decide), v3])⟩) rfl ?_
  refine take_ (i := 5) (N := some 26) (v := (.string T.f1)) #[true, true, true, true, true, true, false, false, false, false, false, false, false, false, false, false, false, false] h5 g5.2 hc.f5 (fun c a w => by rw [g5.2]; exact hQ _ _ c a w) (Or.inl ⟨(by simp [Region.wanted, g5.1]), fun w9 hw9 => run_loadT p5 (by rw [act_same _ _ _ (by (try simp only [act_size]); rw [hsz]; decide)]) ((Mine.blk_cells hw9.1 1).trans rfl) Try.underlying9 rfl⟩) hS2 rfl ?_
  refine take_ (i := 6) (N := some 27) (v := (.int .i64 (cntL ks T.f1))) #[true, true, true, true, true, true, true, false, false, false, false, false, false, false, false, false, false, false] h6 g6.2 hc.f6 (fun c a w => by rw [g6.2]; exact hQ _ _ c a w) (Or.inl ⟨(by simp [Region.wanted, g6.1]), fun w9 hw9 => run_look hw9.2.2 hs p6 (by rw [act_ne _ _ (by decide), act_ne _ _ (by decide), act_same _ _ _ (by (try simp only [act_size]); rw [hsz]; decide)]) (by rw [act_same _ _ _ (by (try simp only [act_size]); rw [hsz]; decide)])⟩) hS2 rfl ?_
  refine pure_ (i := 7) (N := some 28) (v := (.bool true)) #[true, true, true, true, true, true, true, true, false, false, false, false, false, false, false, false, false, false] h7 g7.2 hc.f7 (fun c a w => by rw [g7.2]; exact hQ _ _ c a w) (Or.inl ⟨(by simp [Region.wanted, g7.1]), (fun w => (run_eq3 p7 (by rw [act_same _ _ _ (by (try simp only [act_size]); rw [hsz]; decide)]) rfl w).trans (by rw [hz]))⟩) rfl ?_
  refine pure_ (i := 8) (N := some 29) (v := (.bool true)) #[true, true, true, true, true, true, true, true, true, false, false, false, false, false, false, false, false, false] h8 g8.2 hc.f8 (fun c a w => by rw [g8.2]; exact hQ _ _ c a w) (Or.inl ⟨(by simp [Region.wanted, g8.1]), run_move p8 (by rw [act_same _ _ _ (by (try simp only [act_size]); rw [hsz]; decide)])⟩) rfl ?_
  refine pure_ (i := 9) (N := some 30) (v := (.pointer (some ⟨g, 0, none⟩))) #[true, true, true, true, true, true, true, true, true, true, false, false, false, false, false, false, false, false] h9 g9.2 hc.f9 (fun c a w => by rw [g9.2]; exact hQ _ _ c a w) (Or.inl ⟨(wanted_yes g9.1 (yielded_of h8 g8.2 (by rw [act_same _ _ _ (by (try simp only [act_size]); rw [hsz]; decide)]) (by (try simp only [act_size]); rw [hsz]; decide))), run_move p9 (by rw [act_ne _ _ (by decide), act_ne _ _ (by decide), act_ne _ _ (by decide), act_ne _ _ (by decide), act_ne _ _ (by decide), act_ne _ _ (by decide), act_ne _ _ (by decide), act_ne _ _ (by decide), act_ne _ _ (by decide), v0])⟩) rfl ?_
  refine pure_ (i := 10) (N := some 31) (v := (.pointer (some ⟨g, 0, none⟩))) #[true, true, true, true, true, true, true, true, true, true, true, false, false, false, false, false, false, false] h10 g10.2 hc.f10 (fun c a w => by rw [g10.2]; exact hQ _ _ c a w) (Or.inl ⟨(wanted_yes g10.1 (yielded_of h8 g8.2 (by rw [act_ne _ _ (by decide), act_same _ _ _ (by (try simp only [act_size]); rw [hsz]; decide)]) (by (try simp only [act_size]); rw [hsz]; decide))), run_nil p10 (by rw [act_same _ _ _ (by (try simp only [act_size]); rw [hsz]; decide)])⟩) rfl ?_
  refine pure_ (i := 11) (N := some 32) (v := (.pointer (some ⟨g, 1, none⟩))) #[true, true, true, true, true, true, true, true, true, true, true, true, false, false, false, false, false, false] h11 g11.2 hc.f11 (fun c a w => by rw [g11.2]; exact hQ _ _ c a w) (Or.inl ⟨(wanted_yes g11.1 (yielded_of h8 g8.2 (by rw [act_ne _ _ (by decide), act_ne _ _ (by decide), act_same _ _ _ (by (try simp only [act_size]); rw [hsz]; decide)]) (by (try simp only [act_size]); rw [hsz]; decide))), run_fa88_1 p11 (by rw [act_same _ _ _ (by (try simp only [act_size]); rw [hsz]; decide)])⟩) rfl ?_
  refine take_ (i := 12) (N := some 33) (v := (.string on)) #[true, true, true, true, true, true, true, true, true, true, true, true, true, false, false, false, false, false] h12 g12.2 hc.f12 (fun c a w => by rw [g12.2]; exact hQ _ _ c a w) (Or.inl ⟨(wanted_yes g12.1 (yielded_of h8 g8.2 (by rw [act_ne _ _ (by decide), act_ne _ _ (by decide), act_ne _ _ (by decide), act_same _ _ _ (by (try simp only [act_size]); rw [hsz]; decide)]) (by (try simp only [act_size]); rw [hsz]; decide))), fun w9 hw9 => run_loadT p12 (by rw [act_same _ _ _ (by (try simp only [act_size]); rw [hsz]; decide)]) ((Mine.blk_cells hw9.2.1 1).trans rfl) Try.underlying9 rfl⟩) hS2 rfl ?_
  refine pure_ (i := 13) (N := some 34) (v := (.pointer (some ⟨b1, 1, none⟩))) #[true, true, true, true, true, true, true, true, true, true, true, true, true, true, false, false, false, false] h13 g13.2 hc.f13 (fun c a w => by rw [g13.2]; exact hQ _ _ c a w) (Or.inl ⟨(wanted_yes g13.1 (yielded_of h8 g8.2 (by rw [act_ne _ _ (by decide), act_ne _ _ (by decide), act_ne _ _ (by decide), act_ne _ _ (by decide), act_same _ _ _ (by (try simp only [act_size]); rw [hsz]; decide)]) (by (try simp only [act_size]); rw [hsz]; decide))), run_fa29_1 p13 (by rw [act_ne _ _ (by decide), act_ne _ _ (by decide), act_ne _ _ (by decide), act_ne _ _ (by decide), act_ne _ _ (by decide), act_ne _ _ (by decide), act_ne _ _ (by decide), act_ne _ _ (by decide), act_ne _ _ (by decide), act_ne _ _ (by decide), act_ne _ _ (by decide), act_ne _ _ (by decide), act_ne _ _ (by decide), v3])⟩) rfl ?_
  refine take_ (i := 14) (N := some 35) (v := (.string T.f1)) #[true, true, true, true, true, true, true, true, true, true, true, true, true, true, true, false, false, false] h14 g14.2 hc.f14 (fun c a w => by rw [g14.2]; exact hQ _ _ c a w) (Or.inl ⟨(wanted_yes g14.1 (yielded_of h8 g8.2 (by rw [act_ne _ _ (by decide), act_ne _ _ (by decide), act_ne _ _ (by decide), act_ne _ _ (by decide), act_ne _ _ (by decide), act_same _ _ _ (by (try simp only [act_size]); rw [hsz]; decide)]) (by (try simp only [act_size]); rw [hsz]; decide))), fun w9 hw9 => run_loadT p14 (by rw [act_same _ _ _ (by (try simp only [act_size]); rw [hsz]; decide)]) ((Mine.blk_cells hw9.1 1).trans rfl) Try.underlying9 rfl⟩) hS2 rfl ?_
  refine YtdiadmlgeojefaaW.PrintLast.one_ (i := 15) (N := some 36) #[true, true, true, true, true, true, true, true, true, true, true, true, true, true, true, true, false, false] h15 g15.2 hc.f15 (by decide) (fun K hK => goes_ (f := 15) (fn := Try.f15) Try.func15 (by kernel_rfl) rfl #[.string on, .string T.f1] (wanted_yes g15.1 (yielded_of h8 g8.2 (by rw [act_ne _ _ (by decide), act_ne _ _ (by decide), act_ne _ _ (by decide), act_ne _ _ (by decide), act_ne _ _ (by decide), act_ne _ _ (by decide), act_same _ _ _ (by (try simp only [act_size]); rw [hsz]; decide)]) (by (try simp only [act_size]); rw [hsz]; decide))) g15.2 p15 ?_ ?_)
  · simp only [List.map_toArray, List.map_cons, List.map_nil]
    rw [act_ne _ _ (by decide), act_ne _ _ (by decide), act_same _ _ _ (by (try simp only [act_size]); rw [hsz]; decide)]
    rw [act_same _ _ _ (by (try simp only [act_size]); rw [hsz]; decide)]
    try rfl
  refine (known_calls on T.f1 W.drew).mono ?_
  rintro e W1 ⟨rfl, hbel⟩
  refine ⟨_, rfl, ?_⟩
  have hB9 : Below W.heap.size W W1 := below_step (below_drew (Below.refl W.heap.size W)) hbel
  refine hK _ _ ⟨below_blk hB9 hb1, below_blk hB9 hg, hm.below hB9⟩ (fun _ => ?_)
  refine pure_ (i := 16) (N := some 37) (v := (.bool (!knownF on T.f1))) #[true, true, true, true, true, true, true, true, true, true, true, true, true, true, true, true, true, false] h16 g16.2 hc.f16 (fun c a w => by rw [g16.2]; exact hQ _ _ c a w) (Or.inl ⟨(wanted_yes g16.1 (yielded_of h8 g8.2 (by rw [act_ne _ _ (by decide), act_ne _ _ (by decide), act_ne _ _ (by decide), act_ne _ _ (by decide), act_ne _ _ (by decide), act_ne _ _ (by decide), act_ne _ _ (by decide), act_same _ _ _ (by (try simp only [act_size]); rw [hsz]; decide)]) (by (try simp only [act_size]); rw [hsz]; decide))), run_not4 p16 (by rw [act_same _ _ _ (by (try simp only [act_size]); rw [hsz]; decide)])⟩) rfl ?_
  refine pure_ (i := 17) (N := some 38) (v := (.bool (!knownF on T.f1))) #[true, true, true, true, true, true, true, true, true, true, true, true, true, true, true, true, true, true] h17 g17.2 hc.f17 (fun c a w => by rw [g17.2]; exact hQ _ _ c a w) (Or.inl ⟨(by simp [Region.wanted, g17.1]), run_pick p17 (b := true) (by rw [act_ne _ _ (by decide), act_ne _ _ (by decide), act_ne _ _ (by decide), act_ne _ _ (by decide), act_ne _ _ (by decide), act_ne _ _ (by decide), act_ne _ _ (by decide), act_ne _ _ (by decide), act_same _ _ _ (by (try simp only [act_size]); rw [hsz]; decide)]) (by rw [if_pos rfl]; exact (by rw [act_same _ _ _ (by (try simp only [act_size]); rw [hsz]; decide)]))⟩) rfl ?_
  refine (done_ hc.f18 ?_)
  exact hpost _ hB9
structure node6nChk (ops : Array Oper) : Prop where
  f0 : anyB .any ops #[false, false, false, false, false, false, false, false, false, false, false, false, false, false, false, false, false, false] #[true, false, false, false, false, false, false, false, false, false, false, false, false, false, false, false, false, false] 0 = true
  f1 : anyB .any ops #[true, false, false, false, false, false, false, false, false, false, false, false, false, false, false, false, false, false] #[true, true, false, false, false, false, false, false, false, false, false, false, false, false, false, false, false, false] 1 = true
  f2 : anyB .any ops #[true, true, false, false, false, false, false, false, false, false, false, false, false, false, false, false, false, false] #[true, true, true, false, false, false, false, false, false, false, false, false, false, false, false, false, false, false] 2 = true
  f3 : takeB .any ops [] #[true, true, true, false, false, false, false, false, false, false, false, false, false, false, false, false, false, false] #[true, true, true, true, false, false, false, false, false, false, false, false, false, false, false, false, false, false] 3 = true
  f4 : anyB .any ops #[true, true, true, true, false, false, false, false, false, false, false, false, false, false, false, false, false, false] #[true, true, true, true, true, false, false, false, false, false, false, false, false, false, false, false, false, false] 4 = true
  f5 : takeB .any ops [] #[true, true, true, true, true, false, false, false, false, false, false, false, false, false, false, false, false, false] #[true, true, true, true, true, true, false, false, false, false, false, false, false, false, false, false, false, false] 5 = true
  f6 : takeB .any ops [] #[true, true, true, true, true, true, false, false, false, false, false, false, false, false, false, false, false, false] #[true, true, true, true, true, true, true, false, false, false, false, false, false, false, false, false, false, false] 6 = true
  f7 : anyB .any ops #[true, true, true, true, true, true, true, false, false, false, false, false, false, false, false, false, false, false] #[true, true, true, true, true, true, true, true, false, false, false, false, false, false, false, false, false, false] 7 = true
  f8 : anyB .any ops #[true, true, true, true, true, true, true, true, false, false, false, false, false, false, false, false, false, false] #[true, true, true, true, true, true, true, true, true, false, false, false, false, false, false, false, false, false] 8 = true
  f9 : anyB .any ops #[true, true, true, true, true, true, true, true, true, false, false, false, false, false, false, false, false, false] #[true, true, true, true, true, true, true, true, true, true, false, false, false, false, false, false, false, false] 9 = true
  f10 : anyB .any ops #[true, true, true, true, true, true, true, true, true, true, false, false, false, false, false, false, false, false] #[true, true, true, true, true, true, true, true, true, true, true, false, false, false, false, false, false, false] 10 = true
  f11 : anyB .any ops #[true, true, true, true, true, true, true, true, true, true, true, false, false, false, false, false, false, false] #[true, true, true, true, true, true, true, true, true, true, true, true, false, false, false, false, false, false] 11 = true
  f12 : anyB .any ops #[true, true, true, true, true, true, true, true, true, true, true, true, false, false, false, false, false, false] #[true, true, true, true, true, true, true, true, true, true, true, true, true, false, false, false, false, false] 12 = true
  f13 : anyB .any ops #[true, true, true, true, true, true, true, true, true, true, true, true, true, false, false, false, false, false] #[true, true, true, true, true, true, true, true, true, true, true, true, true, true, false, false, false, false] 13 = true
  f14 : anyB .any ops #[true, true, true, true, true, true, true, true, true, true, true, true, true, true, false, false, false, false] #[true, true, true, true, true, true, true, true, true, true, true, true, true, true, true, false, false, false] 14 = true
  f15 : anyB .any ops #[true, true, true, true, true, true, true, true, true, true, true, true, true, true, true, false, false, false] #[true, true, true, true, true, true, true, true, true, true, true, true, true, true, true, true, false, false] 15 = true
  f16 : anyB .any ops #[true, true, true, true, true, true, true, true, true, true, true, true, true, true, true, true, false, false] #[true, true, true, true, true, true, true, true, true, true, true, true, true, true, true, true, true, false] 16 = true
  f17 : anyB .any ops #[true, true, true, true, true, true, true, true, true, true, true, true, true, true, true, true, true, false] #[true, true, true, true, true, true, true, true, true, true, true, true, true, true, true, true, true, true] 17 = true
  f18 : (Region.ready .any ops #[true, true, true, true, true, true, true, true, true, true, true, true, true, true, true, true, true, true] == []) = true
set_option maxHeartbeats 1000000 in
theorem node6n {ops : Array Oper} {id : Nat} {Q : Exit → Act → World → Prop} {a : Act} {W : World} {g bm b1 : Nat} {T : S29} {v : Value} {f : Ft} {ks : List ByteArray} {on : ByteArray} (hb1 : W.heap[b1]? = some (.cells (nc T v).toArray 29 (0, 0))) (hg : W.heap[g]? = some (.cells (ckc bm on f).toArray 88 (0, 0))) (hm : Mp W bm ks) (hs : T.f1.size ≤ maxLen)
    (hz : ((cntL ks T.f1 : Int) == 0) = false)
    {o0 o1 o2 o3 o4 o5 o6 o7 o8 o9 o10 o11 o12 o13 o14 o15 o16 o17 : Oper} (hsize : ops.size = 18) (h0 : ops[0]? = some o0) (h1 : ops[1]? = some o1) (h2 : ops[2]? = some o2) (h3 : ops[3]? = some o3) (h4 : ops[4]? = some o4) (h5 : ops[5]? = some o5) (h6 : ops[6]? = some o6) (h7 : ops[7]? = some o7) (h8 : ops[8]? = some o8) (h9 : ops[9]? = some o9) (h10 : ops[10]? = some o10) (h11 : ops[11]? = some o11) (h12 : ops[12]? = some o12) (h13 : ops[13]? = some o13) (h14 : ops[14]? = some o14) (h15 : ops[15]? = some o15) (h16 : ops[16]? = some o16) (h17 : ops[17]? = some o17)
    (g0 : o0.guard = none ∧ o0.dst = some 21) (g1 : o1.guard = none ∧ o1.dst = some 22) (g2 : o2.guard = none ∧ o2.dst = some 23) (g3 : o3.guard = none ∧ o3.dst = some 24) (g4 : o4.guard = none ∧ o4.dst = some 25) (g5 : o5.guard = none ∧ o5.dst = some 26) (g6 : o6.guard = none ∧ o6.dst = some 27) (g7 : o7.guard = none ∧ o7.dst = some 28) (g8 : o8.guard = none ∧ o8.dst = some 29) (g9 : o9.guard = some (8, true) ∧ o9.dst = some 30) (g10 : o10.guard = some (8, true) ∧ o10.dst = some 31) (g11 : o11.guard = some (8, true) ∧ o11.dst = some 32) (g12 : o12.guard = some (8, true) ∧ o12.dst = some 33) (g13 : o13.guard = some (8, true) ∧ o13.dst = some 34) (g14 : o14.guard = some (8, true) ∧ o14.dst = some 35) (g15 : o15.guard = some (8, true) ∧ o15.dst = some 36) (g16 : o16.guard = some (8, true) ∧ o16.dst = some 37) (g17 : o17.guard = none ∧ o17.dst = some 38)
    (p0 : o0.op = .move (.tmp 0)) (p1 : o1.op = .nilCheck (.tmp 21)) (p2 : o2.op = .fieldAddr 88 (.tmp 22) 0) (p3 : o3.op = .load 86 (.tmp 23)) (p4 : o4.op = .fieldAddr 29 (.tmp 3) 1) (p5 : o5.op = .load 9 (.tmp 25)) (p6 : o6.op = .lookup 86 (.tmp 24) (.tmp 26) false) (p7 : o7.op = .binOp .eql 3 (.tmp 27) (.const (.int .i64 0)) 3) (p8 : o8.op = .move (.tmp 28)) (p9 : o9.op = .move (.tmp 0)) (p10 : o10.op = .nilCheck (.tmp 30)) (p11 : o11.op = .fieldAddr 88 (.tmp 31) 1) (p12 : o12.op = .load 9 (.tmp 32)) (p13 : o13.op = .fieldAddr 29 (.tmp 3) 1) (p14 : o14.op = .load 9 (.tmp 34)) (p15 : o15.op = .call { callee := .value (.func 15), args := #[.tmp 33, .tmp 35], argTypes := #[9, 9] }) (p16 : o16.op = .unOp .not 4 (.tmp 36)) (p17 : o17.op = .pick (.tmp 29) (.tmp 37) (.const (.bool false)))
    
    (hsz : a.tmps.size = 65) (v0 : a.eval (.tmp 0) = .pointer (some ⟨g, 0, none⟩)) (v3 : a.eval (.tmp 3) = .pointer (some ⟨b1, 0, none⟩)) (hc : node6nChk ops)
    (hQ : ∀ (d : Tmp) v c a w, Q (.panic c) (Act.put a (some d) v) w → Q (.panic c) a w)
    (hpost : ∀ W', Below W.heap.size W W' → Q .normal ((((((((((((((((((a.put (some 21) (.pointer (some ⟨g, 0, none⟩))).put (some 22) (.pointer (some ⟨g, 0, none⟩))).put (some 23) (.pointer (some ⟨g, 0, none⟩))).put (some 24) (.map (some bm))).put (some 25) (.pointer (some ⟨b1, 1, none⟩))).put (some 26) (.string T.f1)).put (some 27) (.int .i64 (cntL ks T.f1))).put (some 28) (.bool false)).put (some 29) (.bool false)).put (some 30) undef).put (some 31) undef).put (some 32) undef).put (some 33) undef).put (some 34) undef).put (some 35) undef).put (some 36) undef).put (some 37) undef).put (some 38) (.bool false)) W') :
    (Code.region id ops true).wp Try.prog Q a W := by
  refine start_ (n := 18) (S := fun w' => w'.heap[b1]? = some (.cells (nc T v).toArray 29 (0, 0)) ∧ w'.heap[g]? = some (.cells (ckc bm on f).toArray 88 (0, 0)) ∧ Mp w' bm ks) (ds := []) #[false, false, false, false, false, false, false, false, false, false, false, false, false, false, false, false, false, false] (by kernel_rfl) hsize rfl ⟨hb1, hg, hm.blk rfl⟩ (fun hS2 => ?_)
  refine pure_ (i := 0) (N := some 21) (v := (.pointer (some ⟨g, 0, none⟩))) #[true, false, false, false, false, false, false, false, false, false, false, false, false, false, false, false, false, false] h0 g0.2 hc.f0 (fun c a w => by rw [g0.2]; exact hQ _ _ c a w) (Or.inl ⟨(by simp [Region.wanted, g0.1]), run_move p0 (by rw [v0])⟩) rfl ?_
  refine pure_ (i := 1) (N := some 22) (v := (.pointer (some ⟨g, 0, none⟩))) #[true, true, false, false, false, false, false, false, false, false, false, false, false, false, false, false, false, false] h1 g1.2 hc.f1 (fun c a w => by rw [g1.2]; exact hQ _ _ c a w) (Or.inl ⟨(by simp [Region.wanted, g1.1]), run_nil p1 (by rw [act_same _ _ _ (by (try simp only [act_size]); rw [hsz]; decide)])⟩) rfl ?_
  refine pure_ (i := 2) (N := some 23) (v := (.pointer (some ⟨g, 0, none⟩))) #[true, true, true, false, false, false, false, false, false, false, false, false, false, false, false, false, false, false] h2 g2.2 hc.f2 (fun c a w => by rw [g2.2]; exact hQ _ _ c a w) (Or.inl ⟨(by simp [Region.wanted, g2.1]), run_fa88_0 p2 (by rw [act_same _ _ _ (by (try simp only [act_size]); rw [hsz]; decide)])⟩) rfl ?_
  refine take_ (i := 3) (N := some 24) (v := (.map (some bm))) #[true, true, true, true, false, false, false, false, false, false, false, false, false, false, false, false, false, false] h3 g3.2 hc.f3 (fun c a w => by rw [g3.2]; exact hQ _ _ c a w) (Or.inl ⟨(by simp [Region.wanted, g3.1]), fun w9 hw9 => run_loadT p3 (by rw [act_same _ _ _ (by (try simp only [act_size]); rw [hsz]; decide)]) ((Mine.blk_cells hw9.2.1 0).trans rfl) Try.underlying86 rfl⟩) hS2 rfl ?_
  refine pure_ (i := 4) (N := some 25) (v := (.pointer (some ⟨b1, 1, none⟩))) #[true, true, true, true, true, false, false, false, false, false, false, false, false, false, false, false, false, false] h4 g4.2 hc.f4 (fun c a w => by rw [g4.2]; exact hQ _ _ c a w) (Or.inl ⟨(by simp [Region.wanted, g4.1]), run_fa29_1 p4 (by rw [act_ne _ _ (by decide), act_ne _ _ (by decide), act_ne _ _ (by decide), act_ne _ _ (by decide), v3])⟩) rfl ?_
  refine take_ (i := 5) (N := some 26) (v := (.string T.f1)) #[true, true, true, true, true, true, false, false, false, false, false, false, false, false, false, false, false, false] h5 g5.2 hc.f5 (fun c a w => by rw [g5.2]; exact hQ _ _ c a w) (Or.inl ⟨(by simp [Region.wanted, g5.1]), fun w9 hw9 => run_loadT p5 (by rw [act_same _ _ _ (by (try simp only [act_size]); rw [hsz]; decide)]) ((Mine.blk_cells hw9.1 1).trans rfl) Try.underlying9 rfl⟩) hS2 rfl ?_
  refine take_ (i := 6) (N := some 27) (v := (.int .i64 (cntL ks T.f1))) #[true, true, true, true, true, true, true, false, false, false, false, false, false, false, false, false, false, false] h6 g6.2 hc.f6 (fun c a w => by rw [g6.2]; exact hQ _ _ c a w) (Or.inl ⟨(by simp [Region.wanted, g6.1]), fun w9 hw9 => run_look hw9.2.2 hs p6 (by rw [act_ne _ _ (by decide), act_ne _ _ (by decide), act_same _ _ _ (by (try simp only [act_size]); rw [hsz]; decide)]) (by rw [act_same _ _ _ (by (try simp only [act_size]); rw [hsz]; decide)])⟩) hS2 rfl ?_
  refine pure_ (i := 7) (N := some 28) (v := (.bool false)) #[true, true, true, true, true, true, true, true, false, false, false, false, false, false, false, false, false, false] h7 g7.2 hc.f7 (fun c a w => by rw [g7.2]; exact hQ _ _ c a w) (Or.inl ⟨(by simp [Region.wanted, g7.1]), (fun w => (run_eq3 p7 (by rw [act_same _ _ _ (by (try simp only [act_size]); rw [hsz]; decide)]) rfl w).trans (by rw [hz]))⟩) rfl ?_
  refine pure_ (i := 8) (N := some 29) (v := (.bool false)) #[true, true, true, true, true, true, true, true, true, false, false, false, false, false, false, false, false, false] h8 g8.2 hc.f8 (fun c a w => by rw [g8.2]; exact hQ _ _ c a w) (Or.inl ⟨(by simp [Region.wanted, g8.1]), run_move p8 (by rw [act_same _ _ _ (by (try simp only [act_size]); rw [hsz]; decide)])⟩) rfl ?_
  refine pure_ (i := 9) (N := some 30) (v := undef) #[true, true, true, true, true, true, true, true, true, true, false, false, false, false, false, false, false, false] h9 g9.2 hc.f9 (fun c a w => by rw [g9.2]; exact hQ _ _ c a w) (Or.inr ⟨wanted_no g9.1 (yielded_of h8 g8.2 (by rw [act_same _ _ _ (by (try simp only [act_size]); rw [hsz]; decide)]) (by (try simp only [act_size]); rw [hsz]; decide)) (by decide), rfl⟩) rfl ?_
  refine pure_ (i := 10) (N := some 31) (v := undef) #[true, true, true, true, true, true, true, true, true, true, true, false, false, false, false, false, false, false] h10 g10.2 hc.f10 (fun c a w => by rw [g10.2]; exact hQ _ _ c a w) (Or.inr ⟨wanted_no g10.1 (yielded_of h8 g8.2 (by rw [act_ne _ _ (by decide), act_same _ _ _ (by (try simp only [act_size]); rw [hsz]; decide)]) (by (try simp only [act_size]); rw [hsz]; decide)) (by decide), rfl⟩) rfl ?_
  refine pure_ (i := 11) (N := some 32) (v := undef) #[true, true, true, true, true, true, true, true, true, true, true, true, false, false, false, false, false, false] h11 g11.2 hc.f11 (fun c a w => by rw [g11.2]; exact hQ _ _ c a w) (Or.inr ⟨wanted_no g11.1 (yielded_of h8 g8.2 (by rw [act_ne _ _ (by decide), act_ne _ _ (by decide), act_same _ _ _ (by (try simp only [act_size]); rw [hsz]; decide)]) (by (try simp only [act_size]); rw [hsz]; decide)) (by decide), rfl⟩) rfl ?_
  refine pure_ (i := 12) (N := some 33) (v := undef) #[true, true, true, true, true, true, true, true, true, true, true, true, true, false, false, false, false, false] h12 g12.2 hc.f12 (fun c a w => by rw [g12.2]; exact hQ _ _ c a w) (Or.inr ⟨wanted_no g12.1 (yielded_of h8 g8.2 (by rw [act_ne _ _ (by decide), act_ne _ _ (by decide), act_ne _ _ (by decide), act_same _ _ _ (by (try simp only [act_size]); rw [hsz]; decide)]) (by (try simp only [act_size]); rw [hsz]; decide)) (by decide), rfl⟩) rfl ?_
  refine pure_ (i := 13) (N := some 34) (v := undef) #[true, true, true, true, true, true, true, true, true, true, true, true, true, true, false, false, false, false] h13 g13.2 hc.f13 (fun c a w => by rw [g13.2]; exact hQ _ _ c a w) (Or.inr ⟨wanted_no g13.1 (yielded_of h8 g8.2 (by rw [act_ne _ _ (by decide), act_ne _ _ (by decide), act_ne _ _ (by decide), act_ne _ _ (by decide), act_same _ _ _ (by (try simp only [act_size]); rw [hsz]; decide)]) (by (try simp only [act_size]); rw [hsz]; decide)) (by decide), rfl⟩) rfl ?_
  refine pure_ (i := 14) (N := some 35) (v := undef) #[true, true, true, true, true, true, true, true, true, true, true, true, true, true, true, false, false, false] h14 g14.2 hc.f14 (fun c a w => by rw [g14.2]; exact hQ _ _ c a w) (Or.inr ⟨wanted_no g14.1 (yielded_of h8 g8.2 (by rw [act_ne _ _ (by decide), act_ne _ _ (by decide), act_ne _ _ (by decide), act_ne _ _ (by decide), act_ne _ _ (by decide), act_same _ _ _ (by (try simp only [act_size]); rw [hsz]; decide)]) (by (try simp only [act_size]); rw [hsz]; decide)) (by decide), rfl⟩) rfl ?_
  refine pure_ (i := 15) (N := some 36) (v := undef) #[true, true, true, true, true, true, true, true, true, true, true, true, true, true, true, true, false, false] h15 g15.2 hc.f15 (fun c a w => by rw [g15.2]; exact hQ _ _ c a w) (Or.inr ⟨wanted_no g15.1 (yielded_of h8 g8.2 (by rw [act_ne _ _ (by decide), act_ne _ _ (by decide), act_ne _ _ (by decide), act_ne _ _ (by decide), act_ne _ _ (by decide), act_ne _ _ (by decide), act_same _ _ _ (by (try simp only [act_size]); rw [hsz]; decide)]) (by (try simp only [act_size]); rw [hsz]; decide)) (by decide), rfl⟩) rfl ?_
  refine pure_ (i := 16) (N := some 37) (v := undef) #[true, true, true, true, true, true, true, true, true, true, true, true, true, true, true, true, true, false] h16 g16.2 hc.f16 (fun c a w => by rw [g16.2]; exact hQ _ _ c a w) (Or.inr ⟨wanted_no g16.1 (yielded_of h8 g8.2 (by rw [act_ne _ _ (by decide), act_ne _ _ (by decide), act_ne _ _ (by decide), act_ne _ _ (by decide), act_ne _ _ (by decide), act_ne _ _ (by decide), act_ne _ _ (by decide), act_same _ _ _ (by (try simp only [act_size]); rw [hsz]; decide)]) (by (try simp only [act_size]); rw [hsz]; decide)) (by decide), rfl⟩) rfl ?_
  refine pure_ (i := 17) (N := some 38) (v := (.bool false)) #[true, true, true, true, true, true, true, true, true, true, true, true, true, true, true, true, true, true] h17 g17.2 hc.f17 (fun c a w => by rw [g17.2]; exact hQ _ _ c a w) (Or.inl ⟨(by simp [Region.wanted, g17.1]), run_pick p17 (b := false) (by rw [act_ne _ _ (by decide), act_ne _ _ (by decide), act_ne _ _ (by decide), act_ne _ _ (by decide), act_ne _ _ (by decide), act_ne _ _ (by decide), act_ne _ _ (by decide), act_ne _ _ (by decide), act_same _ _ _ (by (try simp only [act_size]); rw [hsz]; decide)]) (by rw [if_neg (by decide)]; rfl)⟩) rfl ?_
  refine (done_ hc.f18 ?_)
  exact hpost _ (below_drew (Below.refl _ _))
theorem each_n {n : Nat} {xs : List S29} {A : Option Addr} {c : Nat} {a : Value} {w : World} {R : Ending → World → Prop} (hn : n = xs.length) (h : Calls Try.prog 39 #[a, .slice A xs.length c] w R) : Calls Try.prog 39 #[a, .slice A n c] w R := by rw [hn]; exact h
theorem match_n {rec : Ft → S29 → Option Ft} {w0 w : World} {g bm n : Nat} {ks : List ByteArray} {on : ByteArray} {f f' : Ft} {ok : Nat → Prop} {T : S29} {xs : List S29} {A : Option Addr} {c : Nat} (hx : xs = T.f3) (hn : n = xs.length) (hM : MatchSh rec ks on) (hC : CkAt w0 w g bm ks on f) (hok : ∀ q, ok q → q ≠ g ∧ q ≠ bm) (hV : VK w ok (.slice A xs.length c) xs) (h : matchL rec [] f xs = some f') :
    Calls Try.prog 85 #[.pointer (some ⟨g, 0, none⟩), .agg (nc T (.slice A n c)).toArray] w (CkPost w0 w g bm ks on f') := by
  subst hn
  subst hx
  exact hM hC hok hV h
set_option maxHeartbeats 4000000 in
set_option maxRecDepth 100000 in
theorem node_shows {rec : Ft → S29 → Option Ft} {ks : List ByteArray} {on : ByteArray} (hE : EachSh rec ks on) (hM : MatchSh rec ks on) : NodeSh (nodeG ks on rec) ks on := by
  intro w0 w g bm f f' ok T v0 hC hok hV h
  have OK := aK hok
  have HC := aK hC
  have GL := aK hC.lt
  have GM := aK hC.map.lt
  have HK := aK (KeepBut.refl w g none)
  have HE := aK @hE
  have HM := aK @hM
  have VV := aK (Kd.V_bound hV)
  obtain ⟨A, c, e0⟩ := Kd.V_slice hV
  subst e0
  obtain ⟨xs, exs⟩ : ∃ l_, l_ = T.f3 := ⟨_, rfl⟩
  obtain ⟨n, en⟩ : ∃ n_, n_ = xs.length := ⟨_, rfl⟩
  unfold nodeG nodeF at h
  rw [← exs] at VV h
  have EXS := aK exs
  rw [← exs, ← en]
  rw [← en] at h
  have EN := aK en
  clear hC hok hV en hE hM exs
  rcases Bool.eq_false_or_eq_true (T.f0 == 12) with c12 | c12
  · rw [if_pos c12] at h
    have e4 : (T.f0 == 4) = false := by have := beq_iff_eq.1 c12; rw [this]; decide
    have e19 : (T.f0 == 19) = false := by have := beq_iff_eq.1 c12; rw [this]; decide
    have H4 := aK h
    clear h
    go_enter Try.func65, Try.ntmps65
    go_wp2_with (first
      | ((with_reducible refine gD 3 rfl ?_); refine Mine.ev_box rfl (N := 3) rfl (.tmp 1) rfl (nc (T) ((.slice A n c))) rfl ?_; intro b0 hbn w1 hblk hbel; have GBb0 := aK (show w.heap.size ≤ b0 by have := HK.out.1; omega); replace HC := aK (HC.out.below hbel); replace HK := Zw HK hbel; replace VV := aK (Kd.V_below VV.out hbel); have BXb0 := aK hblk; clear hblk hbel hbn)
      | ((with_reducible refine gD 5 rfl ?_); refine ev_cell rfl (N := 5) rfl 3 (.tmp 4) rfl ⟨b0, 0, none⟩ rfl (.int .i64 T.f0) _ ((Mine.blk_cells BXb0.out 0).trans rfl) Try.underlying3 rfl ?_)
      | ((with_reducible refine gD 45 rfl ?_); refine ev_load29 rfl (N := 45) rfl (.tmp 3) rfl (b := b0) rfl BXb0.out ?_)
      | ((with_reducible refine gD 46 rfl ?_); refine goesL_ (some 46) rfl rfl Try.func85 (by kernel_rfl) rfl #[.pointer (some ⟨g, 0, none⟩), .agg (nc T (.slice A n c)).toArray] rfl (mpT rfl) ?_; refine (match_n EXS.out EN.out HM.out HC.out (fun q hq => OK.out q hq.1) VV.out H4.out).mono ?_; rintro e w1 ⟨rfl, he, hk⟩; refine ⟨_, rfl, ?_⟩; replace HC := aK (he); replace HK := Zk HK hk; replace BXb0 := Zb hk BXb0 GBb0 GL; replace VV := aK (Kd.V_keep VV.out hk (fun q hq => (OK.out q hq.1).1)); clear he hk))
    first | go_end0 | ((try simp only [Exit.inBlock, Exit.then]); refine bodyPost_ret (results_none rfl _ _ _) rfl ?_)
    exact ⟨rfl, HC.out, HK.out⟩
  · rw [if_neg (by rw [c12]; decide)] at h
    obtain ⟨f2, h2, h⟩ := Option.bind_eq_some_iff.1 h
    have H4 := aK h
    clear h
    rcases Bool.eq_false_or_eq_true (T.f0 == 4) with c4 | c4
    · rw [if_pos c4] at h2
      by_cases hs : T.f1.size ≤ maxLen
      · rw [if_pos hs] at h2
        have HS := aK hs
        clear hs
        simp only [Option.some.injEq] at h2
        rcases Bool.eq_false_or_eq_true ((cntL ks T.f1 : Int) == 0) with cz | cz
        · rw [if_pos cz] at h2
          have CZ := aK cz
          clear cz
          subst h2
          go_enter Try.func65, Try.ntmps65
          go_wp2_with (first
            | ((with_reducible refine gD 3 rfl ?_); refine Mine.ev_box rfl (N := 3) rfl (.tmp 1) rfl (nc (T) ((.slice A n c))) rfl ?_; intro b0 hbn w1 hblk hbel; have GBb0 := aK (show w.heap.size ≤ b0 by have := HK.out.1; omega); replace HC := aK (HC.out.below hbel); replace HK := Zw HK hbel; replace VV := aK (Kd.V_below VV.out hbel); have BXb0 := aK hblk; clear hblk hbel hbn)
            | ((with_reducible refine gD 5 rfl ?_); refine ev_cell rfl (N := 5) rfl 3 (.tmp 4) rfl ⟨b0, 0, none⟩ rfl (.int .i64 T.f0) _ ((Mine.blk_cells BXb0.out 0).trans rfl) Try.underlying3 rfl ?_))
          refine node3 BXb0.out HC.out.blk HC.out.map HS.out rfl rfl rfl rfl rfl rfl rfl rfl rfl ⟨rfl, rfl⟩ ⟨rfl, rfl⟩ ⟨rfl, rfl⟩ ⟨rfl, rfl⟩ ⟨rfl, rfl⟩ ⟨rfl, rfl⟩ ⟨rfl, rfl⟩ ⟨rfl, rfl⟩ rfl rfl rfl rfl rfl rfl rfl rfl  rfl rfl rfl (by constructor <;> kernel_rfl) (fun _ _ _ _ _ h => h) ?_
          intro w2 e2
          have hbel : Below w1.heap.size w1 w2 := by rw [e2]; exact below_drew (Below.refl _ _)
          clear e2
          have n0 := aK (HC.out.below hbel)
          have n1 := aK (keep_below HK.out hbel)
          have n2 := aK (below_blk hbel BXb0.out)
          have n3 := aK (Kd.V_below VV.out hbel)
          clear HC HK BXb0 VV
          have HC := n0
          have HK := n1
          have BXb0 := n2
          have VV := n3
          clear n0 n1 n2 n3
          clear hbel
          simp only [Act.put, List.setIfInBounds_toArray, List.set_cons_zero, List.set_cons_succ]
          rw [CZ.out]
          go_wp2_with (first
            | ((with_reducible refine gD 17 rfl ?_); refine ev_load29 rfl (N := 17) rfl (.tmp 3) rfl (b := b0) rfl BXb0.out ?_)
            | ((with_reducible refine gD 18 rfl ?_); refine goesL_ (some 18) rfl rfl Try.func63 (by kernel_rfl) rfl #[.pointer (some ⟨g, 0, none⟩), .int .i64 14, .agg (nc T (.slice A n c)).toArray] rfl (mpT rfl) ?_; refine (fail_calls HC.out 14 T (.slice A n c)).mono ?_; rintro e w1 ⟨rfl, he, hk⟩; refine ⟨_, rfl, ?_⟩; replace HC := aK (he); replace HK := Zk HK hk; replace BXb0 := Zb hk BXb0 GBb0 GL; replace VV := aK (Kd.V_keep VV.out hk (fun q hq => (OK.out q hq.1).1)); clear he hk)
            | ((with_reducible refine gD 63 rfl ?_); refine ev_cell rfl (N := 63) rfl 27 (.tmp 62) rfl ⟨b0, 3, none⟩ rfl (.slice A n c) _ ((Mine.blk_cells BXb0.out 3).trans rfl) Try.underlying27 rfl ?_)
            | ((with_reducible refine gD 64 rfl ?_); refine goesL_ (some 64) rfl rfl Try.func39 (by kernel_rfl) rfl #[.pointer (some ⟨g, 0, none⟩), .slice A n c] rfl (mpT rfl) ?_; refine (each_n EN.out (HE.out HC.out (fun q hq => OK.out q hq.1) VV.out H4.out)).mono ?_; rintro e w1 ⟨rfl, he, hk⟩; refine ⟨_, rfl, ?_⟩; replace HC := aK (he); replace HK := Zk HK hk; replace BXb0 := Zb hk BXb0 GBb0 GL; replace VV := aK (Kd.V_keep VV.out hk (fun q hq => (OK.out q hq.1).1)); clear he hk))
          first | go_end0 | ((try simp only [Exit.inBlock, Exit.then]); refine bodyPost_ret (results_none rfl _ _ _) rfl ?_)
          exact ⟨rfl, HC.out, HK.out⟩
        · rw [if_neg (by rw [cz]; decide)] at h2
          have CZ := aK cz
          clear cz
          subst h2
          go_enter Try.func65, Try.ntmps65
          go_wp2_with (first
            | ((with_reducible refine gD 3 rfl ?_); refine Mine.ev_box rfl (N := 3) rfl (.tmp 1) rfl (nc (T) ((.slice A n c))) rfl ?_; intro b0 hbn w1 hblk hbel; have GBb0 := aK (show w.heap.size ≤ b0 by have := HK.out.1; omega); replace HC := aK (HC.out.below hbel); replace HK := Zw HK hbel; replace VV := aK (Kd.V_below VV.out hbel); have BXb0 := aK hblk; clear hblk hbel hbn)
            | ((with_reducible refine gD 5 rfl ?_); refine ev_cell rfl (N := 5) rfl 3 (.tmp 4) rfl ⟨b0, 0, none⟩ rfl (.int .i64 T.f0) _ ((Mine.blk_cells BXb0.out 0).trans rfl) Try.underlying3 rfl ?_))
          refine node3 BXb0.out HC.out.blk HC.out.map HS.out rfl rfl rfl rfl rfl rfl rfl rfl rfl ⟨rfl, rfl⟩ ⟨rfl, rfl⟩ ⟨rfl, rfl⟩ ⟨rfl, rfl⟩ ⟨rfl, rfl⟩ ⟨rfl, rfl⟩ ⟨rfl, rfl⟩ ⟨rfl, rfl⟩ rfl rfl rfl rfl rfl rfl rfl rfl  rfl rfl rfl (by constructor <;> kernel_rfl) (fun _ _ _ _ _ h => h) ?_
          intro w2 e2
          have hbel : Below w1.heap.size w1 w2 := by rw [e2]; exact below_drew (Below.refl _ _)
          clear e2
          have n0 := aK (HC.out.below hbel)
          have n1 := aK (keep_below HK.out hbel)
          have n2 := aK (below_blk hbel BXb0.out)
          have n3 := aK (Kd.V_below VV.out hbel)
          clear HC HK BXb0 VV
          have HC := n0
          have HK := n1
          have BXb0 := n2
          have VV := n3
          clear n0 n1 n2 n3
          clear hbel
          simp only [Act.put, List.setIfInBounds_toArray, List.set_cons_zero, List.set_cons_succ]
          rw [CZ.out]
          go_wp2_with (first
            | ((with_reducible refine gD 63 rfl ?_); refine ev_cell rfl (N := 63) rfl 27 (.tmp 62) rfl ⟨b0, 3, none⟩ rfl (.slice A n c) _ ((Mine.blk_cells BXb0.out 3).trans rfl) Try.underlying27 rfl ?_)
            | ((with_reducible refine gD 64 rfl ?_); refine goesL_ (some 64) rfl rfl Try.func39 (by kernel_rfl) rfl #[.pointer (some ⟨g, 0, none⟩), .slice A n c] rfl (mpT rfl) ?_; refine (each_n EN.out (HE.out HC.out (fun q hq => OK.out q hq.1) VV.out H4.out)).mono ?_; rintro e w1 ⟨rfl, he, hk⟩; refine ⟨_, rfl, ?_⟩; replace HC := aK (he); replace HK := Zk HK hk; replace BXb0 := Zb hk BXb0 GBb0 GL; replace VV := aK (Kd.V_keep VV.out hk (fun q hq => (OK.out q hq.1).1)); clear he hk))
          first | go_end0 | ((try simp only [Exit.inBlock, Exit.then]); refine bodyPost_ret (results_none rfl _ _ _) rfl ?_)
          exact ⟨rfl, HC.out, HK.out⟩
      · rw [if_neg hs] at h2
        cases h2
    · rw [if_neg (by rw [c4]; decide)] at h2
      rcases Bool.eq_false_or_eq_true (T.f0 == 19) with c19 | c19
      · rw [if_pos c19] at h2
        by_cases hs : T.f1.size ≤ maxLen
        · rw [if_pos hs] at h2
          have HS := aK hs
          clear hs
          simp only [Option.some.injEq] at h2
          rcases Bool.eq_false_or_eq_true ((cntL ks T.f1 : Int) == 0) with cz | cz
          · rw [if_pos cz] at h2
            have CZ := aK cz
            clear cz
            rcases Bool.eq_false_or_eq_true (!knownF on T.f1) with ck | ck
            · rw [if_pos ck] at h2
              have CK := aK ck
              clear ck
              subst h2
              go_enter Try.func65, Try.ntmps65
              go_wp2_with (first
                | ((with_reducible refine gD 3 rfl ?_); refine Mine.ev_box rfl (N := 3) rfl (.tmp 1) rfl (nc (T) ((.slice A n c))) rfl ?_; intro b0 hbn w1 hblk hbel; have GBb0 := aK (show w.heap.size ≤ b0 by have := HK.out.1; omega); replace HC := aK (HC.out.below hbel); replace HK := Zw HK hbel; replace VV := aK (Kd.V_below VV.out hbel); have BXb0 := aK hblk; clear hblk hbel hbn)
                | ((with_reducible refine gD 5 rfl ?_); refine ev_cell rfl (N := 5) rfl 3 (.tmp 4) rfl ⟨b0, 0, none⟩ rfl (.int .i64 T.f0) _ ((Mine.blk_cells BXb0.out 0).trans rfl) Try.underlying3 rfl ?_))
              refine node6y BXb0.out HC.out.blk HC.out.map HS.out CZ.out rfl rfl rfl rfl rfl rfl rfl rfl rfl rfl rfl rfl rfl rfl rfl rfl rfl rfl rfl ⟨rfl, rfl⟩ ⟨rfl, rfl⟩ ⟨rfl, rfl⟩ ⟨rfl, rfl⟩ ⟨rfl, rfl⟩ ⟨rfl, rfl⟩ ⟨rfl, rfl⟩ ⟨rfl, rfl⟩ ⟨rfl, rfl⟩ ⟨rfl, rfl⟩ ⟨rfl, rfl⟩ ⟨rfl, rfl⟩ ⟨rfl, rfl⟩ ⟨rfl, rfl⟩ ⟨rfl, rfl⟩ ⟨rfl, rfl⟩ ⟨rfl, rfl⟩ ⟨rfl, rfl⟩ rfl rfl rfl rfl rfl rfl rfl rfl rfl rfl rfl rfl rfl rfl rfl rfl rfl rfl  rfl rfl rfl (by constructor <;> kernel_rfl) (fun _ _ _ _ _ h => h) ?_
              intro w2 hbel
              have n0 := aK (HC.out.below hbel)
              have n1 := aK (keep_below HK.out hbel)
              have n2 := aK (below_blk hbel BXb0.out)
              have n3 := aK (Kd.V_below VV.out hbel)
              clear HC HK BXb0 VV
              have HC := n0
              have HK := n1
              have BXb0 := n2
              have VV := n3
              clear n0 n1 n2 n3
              clear hbel
              simp only [Act.put, List.setIfInBounds_toArray, List.set_cons_zero, List.set_cons_succ]
              rw [CK.out]
              go_wp2_with (first
                | ((with_reducible refine gD 40 rfl ?_); refine ev_load29 rfl (N := 40) rfl (.tmp 3) rfl (b := b0) rfl BXb0.out ?_)
                | ((with_reducible refine gD 41 rfl ?_); refine goesL_ (some 41) rfl rfl Try.func63 (by kernel_rfl) rfl #[.pointer (some ⟨g, 0, none⟩), .int .i64 14, .agg (nc T (.slice A n c)).toArray] rfl (mpT rfl) ?_; refine (fail_calls HC.out 14 T (.slice A n c)).mono ?_; rintro e w1 ⟨rfl, he, hk⟩; refine ⟨_, rfl, ?_⟩; replace HC := aK (he); replace HK := Zk HK hk; replace BXb0 := Zb hk BXb0 GBb0 GL; replace VV := aK (Kd.V_keep VV.out hk (fun q hq => (OK.out q hq.1).1)); clear he hk)
                | ((with_reducible refine gD 63 rfl ?_); refine ev_cell rfl (N := 63) rfl 27 (.tmp 62) rfl ⟨b0, 3, none⟩ rfl (.slice A n c) _ ((Mine.blk_cells BXb0.out 3).trans rfl) Try.underlying27 rfl ?_)
                | ((with_reducible refine gD 64 rfl ?_); refine goesL_ (some 64) rfl rfl Try.func39 (by kernel_rfl) rfl #[.pointer (some ⟨g, 0, none⟩), .slice A n c] rfl (mpT rfl) ?_; refine (each_n EN.out (HE.out HC.out (fun q hq => OK.out q hq.1) VV.out H4.out)).mono ?_; rintro e w1 ⟨rfl, he, hk⟩; refine ⟨_, rfl, ?_⟩; replace HC := aK (he); replace HK := Zk HK hk; replace BXb0 := Zb hk BXb0 GBb0 GL; replace VV := aK (Kd.V_keep VV.out hk (fun q hq => (OK.out q hq.1).1)); clear he hk))
              first | go_end0 | ((try simp only [Exit.inBlock, Exit.then]); refine bodyPost_ret (results_none rfl _ _ _) rfl ?_)
              exact ⟨rfl, HC.out, HK.out⟩
            · rw [if_neg (by rw [ck]; decide)] at h2
              have CK := aK ck
              clear ck
              subst h2
              go_enter Try.func65, Try.ntmps65
              go_wp2_with (first
                | ((with_reducible refine gD 3 rfl ?_); refine Mine.ev_box rfl (N := 3) rfl (.tmp 1) rfl (nc (T) ((.slice A n c))) rfl ?_; intro b0 hbn w1 hblk hbel; have GBb0 := aK (show w.heap.size ≤ b0 by have := HK.out.1; omega); replace HC := aK (HC.out.below hbel); replace HK := Zw HK hbel; replace VV := aK (Kd.V_below VV.out hbel); have BXb0 := aK hblk; clear hblk hbel hbn)
                | ((with_reducible refine gD 5 rfl ?_); refine ev_cell rfl (N := 5) rfl 3 (.tmp 4) rfl ⟨b0, 0, none⟩ rfl (.int .i64 T.f0) _ ((Mine.blk_cells BXb0.out 0).trans rfl) Try.underlying3 rfl ?_))
              refine node6y BXb0.out HC.out.blk HC.out.map HS.out CZ.out rfl rfl rfl rfl rfl rfl rfl rfl rfl rfl rfl rfl rfl rfl rfl rfl rfl rfl rfl ⟨rfl, rfl⟩ ⟨rfl, rfl⟩ ⟨rfl, rfl⟩ ⟨rfl, rfl⟩ ⟨rfl, rfl⟩ ⟨rfl, rfl⟩ ⟨rfl, rfl⟩ ⟨rfl, rfl⟩ ⟨rfl, rfl⟩ ⟨rfl, rfl⟩ ⟨rfl, rfl⟩ ⟨rfl, rfl⟩ ⟨rfl, rfl⟩ ⟨rfl, rfl⟩ ⟨rfl, rfl⟩ ⟨rfl, rfl⟩ ⟨rfl, rfl⟩ ⟨rfl, rfl⟩ rfl rfl rfl rfl rfl rfl rfl rfl rfl rfl rfl rfl rfl rfl rfl rfl rfl rfl  rfl rfl rfl (by constructor <;> kernel_rfl) (fun _ _ _ _ _ h => h) ?_
              intro w2 hbel
              have n0 := aK (HC.out.below hbel)
              have n1 := aK (keep_below HK.out hbel)
              have n2 := aK (below_blk hbel BXb0.out)
              have n3 := aK (Kd.V_below VV.out hbel)
              clear HC HK BXb0 VV
              have HC := n0
              have HK := n1
              have BXb0 := n2
              have VV := n3
              clear n0 n1 n2 n3
              clear hbel
              simp only [Act.put, List.setIfInBounds_toArray, List.set_cons_zero, List.set_cons_succ]
              rw [CK.out]
              go_wp2_with (first
                | ((with_reducible refine gD 63 rfl ?_); refine ev_cell rfl (N := 63) rfl 27 (.tmp 62) rfl ⟨b0, 3, none⟩ rfl (.slice A n c) _ ((Mine.blk_cells BXb0.out 3).trans rfl) Try.underlying27 rfl ?_)
                | ((with_reducible refine gD 64 rfl ?_); refine goesL_ (some 64) rfl rfl Try.func39 (by kernel_rfl) rfl #[.pointer (some ⟨g, 0, none⟩), .slice A n c] rfl (mpT rfl) ?_; refine (each_n EN.out (HE.out HC.out (fun q hq => OK.out q hq.1) VV.out H4.out)).mono ?_; rintro e w1 ⟨rfl, he, hk⟩; refine ⟨_, rfl, ?_⟩; replace HC := aK (he); replace HK := Zk HK hk; replace BXb0 := Zb hk BXb0 GBb0 GL; replace VV := aK (Kd.V_keep VV.out hk (fun q hq => (OK.out q hq.1).1)); clear he hk))
              first | go_end0 | ((try simp only [Exit.inBlock, Exit.then]); refine bodyPost_ret (results_none rfl _ _ _) rfl ?_)
              exact ⟨rfl, HC.out, HK.out⟩
          · rw [if_neg (by rw [cz]; decide)] at h2
            have CZ := aK cz
            clear cz
            subst h2
            go_enter Try.func65, Try.ntmps65
            go_wp2_with (first
              | ((with_reducible refine gD 3 rfl ?_); refine Mine.ev_box rfl (N := 3) rfl (.tmp 1) rfl (nc (T) ((.slice A n c))) rfl ?_; intro b0 hbn w1 hblk hbel; have GBb0 := aK (show w.heap.size ≤ b0 by have := HK.out.1; omega); replace HC := aK (HC.out.below hbel); replace HK := Zw HK hbel; replace VV := aK (Kd.V_below VV.out hbel); have BXb0 := aK hblk; clear hblk hbel hbn)
              | ((with_reducible refine gD 5 rfl ?_); refine ev_cell rfl (N := 5) rfl 3 (.tmp 4) rfl ⟨b0, 0, none⟩ rfl (.int .i64 T.f0) _ ((Mine.blk_cells BXb0.out 0).trans rfl) Try.underlying3 rfl ?_))
            refine node6n BXb0.out HC.out.blk HC.out.map HS.out CZ.out rfl rfl rfl rfl rfl rfl rfl rfl rfl rfl rfl rfl rfl rfl rfl rfl rfl rfl rfl ⟨rfl, rfl⟩ ⟨rfl, rfl⟩ ⟨rfl, rfl⟩ ⟨rfl, rfl⟩ ⟨rfl, rfl⟩ ⟨rfl, rfl⟩ ⟨rfl, rfl⟩ ⟨rfl, rfl⟩ ⟨rfl, rfl⟩ ⟨rfl, rfl⟩ ⟨rfl, rfl⟩ ⟨rfl, rfl⟩ ⟨rfl, rfl⟩ ⟨rfl, rfl⟩ ⟨rfl, rfl⟩ ⟨rfl, rfl⟩ ⟨rfl, rfl⟩ ⟨rfl, rfl⟩ rfl rfl rfl rfl rfl rfl rfl rfl rfl rfl rfl rfl rfl rfl rfl rfl rfl rfl  rfl rfl rfl (by constructor <;> kernel_rfl) (fun _ _ _ _ _ h => h) ?_
            intro w2 hbel
            have n0 := aK (HC.out.below hbel)
            have n1 := aK (keep_below HK.out hbel)
            have n2 := aK (below_blk hbel BXb0.out)
            have n3 := aK (Kd.V_below VV.out hbel)
            clear HC HK BXb0 VV
            have HC := n0
            have HK := n1
            have BXb0 := n2
            have VV := n3
            clear n0 n1 n2 n3
            clear hbel
            simp only [Act.put, List.setIfInBounds_toArray, List.set_cons_zero, List.set_cons_succ]
            go_wp2_with (first
              | ((with_reducible refine gD 63 rfl ?_); refine ev_cell rfl (N := 63) rfl 27 (.tmp 62) rfl ⟨b0, 3, none⟩ rfl (.slice A n c) _ ((Mine.blk_cells BXb0.out 3).trans rfl) Try.underlying27 rfl ?_)
              | ((with_reducible refine gD 64 rfl ?_); refine goesL_ (some 64) rfl rfl Try.func39 (by kernel_rfl) rfl #[.pointer (some ⟨g, 0, none⟩), .slice A n c] rfl (mpT rfl) ?_; refine (each_n EN.out (HE.out HC.out (fun q hq => OK.out q hq.1) VV.out H4.out)).mono ?_; rintro e w1 ⟨rfl, he, hk⟩; refine ⟨_, rfl, ?_⟩; replace HC := aK (he); replace HK := Zk HK hk; replace BXb0 := Zb hk BXb0 GBb0 GL; replace VV := aK (Kd.V_keep VV.out hk (fun q hq => (OK.out q hq.1).1)); clear he hk))
            first | go_end0 | ((try simp only [Exit.inBlock, Exit.then]); refine bodyPost_ret (results_none rfl _ _ _) rfl ?_)
            exact ⟨rfl, HC.out, HK.out⟩
        · rw [if_neg hs] at h2
          cases h2
      · rw [if_neg (by rw [c19]; decide)] at h2
        rcases Bool.eq_false_or_eq_true (T.f0 == 16) with c16 | c16
        · rw [if_pos c16] at h2
          simp only [Option.some.injEq] at h2
          subst h2
          go_enter Try.func65, Try.ntmps65
          go_wp2_with (first
            | ((with_reducible refine gD 3 rfl ?_); refine Mine.ev_box rfl (N := 3) rfl (.tmp 1) rfl (nc (T) ((.slice A n c))) rfl ?_; intro b0 hbn w1 hblk hbel; have GBb0 := aK (show w.heap.size ≤ b0 by have := HK.out.1; omega); replace HC := aK (HC.out.below hbel); replace HK := Zw HK hbel; replace VV := aK (Kd.V_below VV.out hbel); have BXb0 := aK hblk; clear hblk hbel hbn)
            | ((with_reducible refine gD 5 rfl ?_); refine ev_cell rfl (N := 5) rfl 3 (.tmp 4) rfl ⟨b0, 0, none⟩ rfl (.int .i64 T.f0) _ ((Mine.blk_cells BXb0.out 0).trans rfl) Try.underlying3 rfl ?_)
            | ((with_reducible refine gD 50 rfl ?_); refine ev_load29 rfl (N := 50) rfl (.tmp 3) rfl (b := b0) rfl BXb0.out ?_)
            | ((with_reducible refine gD 51 rfl ?_); refine goesL_ (some 51) rfl rfl Try.func86 (by kernel_rfl) rfl #[.pointer (some ⟨g, 0, none⟩), .agg (nc T (.slice A n c)).toArray] rfl (mpT rfl) ?_; refine (fieldC_calls HC.out T (.slice A n c)).mono ?_; rintro e w1 ⟨rfl, he, hk⟩; refine ⟨_, rfl, ?_⟩; replace HC := aK (he); replace HK := Zk HK hk; replace BXb0 := Zb hk BXb0 GBb0 GL; replace VV := aK (Kd.V_keep VV.out hk (fun q hq => (OK.out q hq.1).1)); clear he hk)
            | ((with_reducible refine gD 63 rfl ?_); refine ev_cell rfl (N := 63) rfl 27 (.tmp 62) rfl ⟨b0, 3, none⟩ rfl (.slice A n c) _ ((Mine.blk_cells BXb0.out 3).trans rfl) Try.underlying27 rfl ?_)
            | ((with_reducible refine gD 64 rfl ?_); refine goesL_ (some 64) rfl rfl Try.func39 (by kernel_rfl) rfl #[.pointer (some ⟨g, 0, none⟩), .slice A n c] rfl (mpT rfl) ?_; refine (each_n EN.out (HE.out HC.out (fun q hq => OK.out q hq.1) VV.out H4.out)).mono ?_; rintro e w1 ⟨rfl, he, hk⟩; refine ⟨_, rfl, ?_⟩; replace HC := aK (he); replace HK := Zk HK hk; replace BXb0 := Zb hk BXb0 GBb0 GL; replace VV := aK (Kd.V_keep VV.out hk (fun q hq => (OK.out q hq.1).1)); clear he hk))
          first | go_end0 | ((try simp only [Exit.inBlock, Exit.then]); refine bodyPost_ret (results_none rfl _ _ _) rfl ?_)
          exact ⟨rfl, HC.out, HK.out⟩
        · rw [if_neg (by rw [c16]; decide)] at h2
          rcases Bool.eq_false_or_eq_true (T.f0 == 14) with c14 | c14
          · rw [if_pos c14] at h2
            simp only [Option.some.injEq] at h2
            rcases Bool.eq_false_or_eq_true (decide (8 < (n : Int))) with c8 | c8
            · rw [if_pos c8] at h2
              subst h2
              go_enter Try.func65, Try.ntmps65
              go_wp2_with (first
                | ((with_reducible refine gD 3 rfl ?_); refine Mine.ev_box rfl (N := 3) rfl (.tmp 1) rfl (nc (T) ((.slice A n c))) rfl ?_; intro b0 hbn w1 hblk hbel; have GBb0 := aK (show w.heap.size ≤ b0 by have := HK.out.1; omega); replace HC := aK (HC.out.below hbel); replace HK := Zw HK hbel; replace VV := aK (Kd.V_below VV.out hbel); have BXb0 := aK hblk; clear hblk hbel hbn)
                | ((with_reducible refine gD 5 rfl ?_); refine ev_cell rfl (N := 5) rfl 3 (.tmp 4) rfl ⟨b0, 0, none⟩ rfl (.int .i64 T.f0) _ ((Mine.blk_cells BXb0.out 0).trans rfl) Try.underlying3 rfl ?_)
                | ((with_reducible refine gD 55 rfl ?_); refine ev_cell rfl (N := 55) rfl 27 (.tmp 54) rfl ⟨b0, 3, none⟩ rfl (.slice A n c) _ ((Mine.blk_cells BXb0.out 3).trans rfl) Try.underlying27 rfl ?_)
                | ((with_reducible refine gD 59 rfl ?_); refine ev_load29 rfl (N := 59) rfl (.tmp 3) rfl (b := b0) rfl BXb0.out ?_)
                | ((with_reducible refine gD 60 rfl ?_); refine goesL_ (some 60) rfl rfl Try.func63 (by kernel_rfl) rfl #[.pointer (some ⟨g, 0, none⟩), .int .i64 3, .agg (nc T (.slice A n c)).toArray] rfl (mpT rfl) ?_; refine (fail_calls HC.out 3 T (.slice A n c)).mono ?_; rintro e w1 ⟨rfl, he, hk⟩; refine ⟨_, rfl, ?_⟩; replace HC := aK (he); replace HK := Zk HK hk; replace BXb0 := Zb hk BXb0 GBb0 GL; replace VV := aK (Kd.V_keep VV.out hk (fun q hq => (OK.out q hq.1).1)); clear he hk)
                | ((with_reducible refine gD 63 rfl ?_); refine ev_cell rfl (N := 63) rfl 27 (.tmp 62) rfl ⟨b0, 3, none⟩ rfl (.slice A n c) _ ((Mine.blk_cells BXb0.out 3).trans rfl) Try.underlying27 rfl ?_)
                | ((with_reducible refine gD 64 rfl ?_); refine goesL_ (some 64) rfl rfl Try.func39 (by kernel_rfl) rfl #[.pointer (some ⟨g, 0, none⟩), .slice A n c] rfl (mpT rfl) ?_; refine (each_n EN.out (HE.out HC.out (fun q hq => OK.out q hq.1) VV.out H4.out)).mono ?_; rintro e w1 ⟨rfl, he, hk⟩; refine ⟨_, rfl, ?_⟩; replace HC := aK (he); replace HK := Zk HK hk; replace BXb0 := Zb hk BXb0 GBb0 GL; replace VV := aK (Kd.V_keep VV.out hk (fun q hq => (OK.out q hq.1).1)); clear he hk))
              first | go_end0 | ((try simp only [Exit.inBlock, Exit.then]); refine bodyPost_ret (results_none rfl _ _ _) rfl ?_)
              exact ⟨rfl, HC.out, HK.out⟩
            · rw [if_neg (by rw [c8]; decide)] at h2
              subst h2
              go_enter Try.func65, Try.ntmps65
              go_wp2_with (first
                | ((with_reducible refine gD 3 rfl ?_); refine Mine.ev_box rfl (N := 3) rfl (.tmp 1) rfl (nc (T) ((.slice A n c))) rfl ?_; intro b0 hbn w1 hblk hbel; have GBb0 := aK (show w.heap.size ≤ b0 by have := HK.out.1; omega); replace HC := aK (HC.out.below hbel); replace HK := Zw HK hbel; replace VV := aK (Kd.V_below VV.out hbel); have BXb0 := aK hblk; clear hblk hbel hbn)
                | ((with_reducible refine gD 5 rfl ?_); refine ev_cell rfl (N := 5) rfl 3 (.tmp 4) rfl ⟨b0, 0, none⟩ rfl (.int .i64 T.f0) _ ((Mine.blk_cells BXb0.out 0).trans rfl) Try.underlying3 rfl ?_)
                | ((with_reducible refine gD 55 rfl ?_); refine ev_cell rfl (N := 55) rfl 27 (.tmp 54) rfl ⟨b0, 3, none⟩ rfl (.slice A n c) _ ((Mine.blk_cells BXb0.out 3).trans rfl) Try.underlying27 rfl ?_)
                | ((with_reducible refine gD 63 rfl ?_); refine ev_cell rfl (N := 63) rfl 27 (.tmp 62) rfl ⟨b0, 3, none⟩ rfl (.slice A n c) _ ((Mine.blk_cells BXb0.out 3).trans rfl) Try.underlying27 rfl ?_)
                | ((with_reducible refine gD 64 rfl ?_); refine goesL_ (some 64) rfl rfl Try.func39 (by kernel_rfl) rfl #[.pointer (some ⟨g, 0, none⟩), .slice A n c] rfl (mpT rfl) ?_; refine (each_n EN.out (HE.out HC.out (fun q hq => OK.out q hq.1) VV.out H4.out)).mono ?_; rintro e w1 ⟨rfl, he, hk⟩; refine ⟨_, rfl, ?_⟩; replace HC := aK (he); replace HK := Zk HK hk; replace BXb0 := Zb hk BXb0 GBb0 GL; replace VV := aK (Kd.V_keep VV.out hk (fun q hq => (OK.out q hq.1).1)); clear he hk))
              first | go_end0 | ((try simp only [Exit.inBlock, Exit.then]); refine bodyPost_ret (results_none rfl _ _ _) rfl ?_)
              exact ⟨rfl, HC.out, HK.out⟩
          · rw [if_neg (by rw [c14]; decide)] at h2
            simp only [Option.some.injEq] at h2
            subst h2
            go_enter Try.func65, Try.ntmps65
            go_wp2_with (first
              | ((with_reducible refine gD 3 rfl ?_); refine Mine.ev_box rfl (N := 3) rfl (.tmp 1) rfl (nc (T) ((.slice A n c))) rfl ?_; intro b0 hbn w1 hblk hbel; have GBb0 := aK (show w.heap.size ≤ b0 by have := HK.out.1; omega); replace HC := aK (HC.out.below hbel); replace HK := Zw HK hbel; replace VV := aK (Kd.V_below VV.out hbel); have BXb0 := aK hblk; clear hblk hbel hbn)
              | ((with_reducible refine gD 5 rfl ?_); refine ev_cell rfl (N := 5) rfl 3 (.tmp 4) rfl ⟨b0, 0, none⟩ rfl (.int .i64 T.f0) _ ((Mine.blk_cells BXb0.out 0).trans rfl) Try.underlying3 rfl ?_)
              | ((with_reducible refine gD 63 rfl ?_); refine ev_cell rfl (N := 63) rfl 27 (.tmp 62) rfl ⟨b0, 3, none⟩ rfl (.slice A n c) _ ((Mine.blk_cells BXb0.out 3).trans rfl) Try.underlying27 rfl ?_)
              | ((with_reducible refine gD 64 rfl ?_); refine goesL_ (some 64) rfl rfl Try.func39 (by kernel_rfl) rfl #[.pointer (some ⟨g, 0, none⟩), .slice A n c] rfl (mpT rfl) ?_; refine (each_n EN.out (HE.out HC.out (fun q hq => OK.out q hq.1) VV.out H4.out)).mono ?_; rintro e w1 ⟨rfl, he, hk⟩; refine ⟨_, rfl, ?_⟩; replace HC := aK (he); replace HK := Zk HK hk; replace BXb0 := Zb hk BXb0 GBb0 GL; replace VV := aK (Kd.V_keep VV.out hk (fun q hq => (OK.out q hq.1).1)); clear he hk))
            first | go_end0 | ((try simp only [Exit.inBlock, Exit.then]); refine bodyPost_ret (results_none rfl _ _ _) rfl ?_)
            exact ⟨rfl, HC.out, HK.out⟩
theorem nodes_sh (ks : List ByteArray) (on : ByteArray) : ∀ m, NodeSh (nodeC ks on m) ks on
  | 0 => fun _ _ _ h => by cases h
  | m + 1 => node_shows (each_shows (nodes_sh ks on m)) (match_shows (each_shows (nodes_sh ks on m)))
end Go.Proofs.Ytdiadmlgeojefaa.A
