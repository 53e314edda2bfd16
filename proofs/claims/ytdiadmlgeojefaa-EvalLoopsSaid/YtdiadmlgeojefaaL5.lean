/- Laws and walks for EvalLoops: texts laid together by my own small program. -/
import Derived.Test.YtdiadmlgeojefaaL4
namespace Go.Proofs.Ytdiadmlgeojefaa.A
open Go.RowKit Go.Proofs.YtdiadmlgeojefaaW.PrintWords Go.Proofs.YtdiadmlgeojefaaW.PrintLast Go.Proofs.YtdiadmlgeojefaaW.PrintMore
attribute [local go_sem] max2_int min2_int max_two min_two max_three min_three max_four min_four   -- for this text's walks alone
set_option linter.unusedVariables false
set_option linter.unusedSimpArgs false
def eval_Init.l0 : Nat → List (S65) → List (S29) → Int → Int → Option ((List (S65)))
  | 0, _, _, _, _ => none
  | k + 1, x3, x7, x8, x9 => if x9 < x8 then (if 0 ≤ x9 then (if x9 < (x7.length : Int) then (if ((rd_T29 x7 x9).f0) = 2 then (if x3.length < 5864062014805 then (eval_Init.l0 k (x3 ++ [(⟨(rd_T29 x7 x9).f1, (rd_T29 x7 x9).f2⟩ : S65)]) x7 x8 (wrap64 (x9 + 1))) else (none)) else (eval_Init.l0 k x3 x7 x8 (wrap64 (x9 + 1)))) else (none)) else (none)) else (some x3)
def eval_Init.f (k : Nat) (a0_0 : Int) (a0_1 : ByteArray) (a0_2 : Int) (l0_3 : List (S29)) (a0_4 : Int) : Option ((List (S65))) := eval_Init.l0 k ([] : List (S65)) l0_3 (l0_3.length : Int) 0
theorem eval_Init.mono_l : ∀ k, (∀ y0 y1 y2 y3, LeO (eval_Init.l0 k y0 y1 y2 y3) (eval_Init.l0 (k + 1) y0 y1 y2 y3))
  | 0 => fun _ _ _ _ r h => by simp [eval_Init.l0] at h
  | k + 1 => by
    have ih0 := eval_Init.mono_l k
    · intro y0 y1 y2 y3
      unfold eval_Init.l0
      repeat' first
      | (with_reducible exact ih0 _ _ _ _)
      | (with_reducible exact LeO.refl _)
      | (with_reducible exact LeO.none _)
      | (with_reducible refine LeO.ite ?_ ?_)
      | (with_reducible refine LeO.bind ?_ (fun _ => ?_))
      | exact ih0 _ _ _ _
      | exact LeO.none _
      | refine LeO.ite ?_ ?_
      | refine LeO.bind ?_ (fun _ => ?_)
theorem eval_Init.mono : ∀ a0 a1 a2 a3 a4 k, LeO (eval_Init.f k a0 a1 a2 a3 a4) (eval_Init.f (k + 1) a0 a1 a2 a3 a4) := by
  intro a0 a1 a2 a3 a4 k
  have ih0 := eval_Init.mono_l k
  unfold eval_Init.f
  repeat' first
      | (with_reducible exact ih0 _ _ _ _)
      | (with_reducible exact LeO.refl _)
      | (with_reducible exact LeO.none _)
      | (with_reducible refine LeO.ite ?_ ?_)
      | (with_reducible refine LeO.bind ?_ (fun _ => ?_))
      | exact ih0 _ _ _ _
      | exact LeO.none _
      | refine LeO.ite ?_ ?_
      | refine LeO.bind ?_ (fun _ => ?_)
set_option maxHeartbeats 8000000 in
set_option maxRecDepth 100000 in
theorem eval_Init.calls (k : Nat) (a0_0 : Int) (a0_1 : ByteArray) (a0_2 : Int) (A0_3 : Option Addr) (c0_3 : Nat) (l0_3 : List (S29)) (a0_4 : Int) (r : List (S65)) (w : World) (hr0_3 : Kd.C k29 w A0_3 l0_3.length l0_3) (hc0_3 : l0_3.length ≤ c0_3) (h : eval_Init.f k a0_0 a0_1 a0_2 l0_3 a0_4 = some r) :
    Calls Try.prog 26 #[.agg #[.int .i64 a0_0, .string a0_1, .int .i64 a0_2, .slice A0_3 l0_3.length c0_3, .int .i64 a0_4]] w fun e w' => ∃ v0_ : Value, e = .returned (v0_) ∧ Kd.R k65 65 w' w.heap.size (fun _ => True) v0_ r ∧ Below w.heap.size w w' := by
  have hu29 := Try.underlying29
  have hu65 := Try.underlying65
  have HR0_3 := Aside0.mk hr0_3
  have HC0_3 := Aside0.mk hc0_3
  clear hr0_3 hc0_3
  have HB := Aside0.mk (Below.refl w.heap.size w)
  have H : (eval_Init.l0 k ([] : List (S65)) l0_3 (l0_3.length : Int) 0) = some r := h
  clear h
  have H' := Aside0.mk H
  clear H
  go_enter Try.func26, Try.ntmps26
  go_wp2_with (first | ((with_reducible refine gate_dst (N := 1) rfl ?_); refine box_event ?hg (N := 1) ?hd (cs := #[.int .i64 a0_0, .string a0_1, .int .i64 a0_2, .slice A0_3 l0_3.length c0_3, .int .i64 a0_4]) (t := 29) ?hr ?_; (case hd => rfl); (case hg => rfl); (case hr => first | (go_simp; done) | (go_simp; rfl)); intro gb686 hg w2 hbox hb; have n0_ := Aside0.mk (below_step (by repeat (first | (with_reducible first | exact HB.out | apply below_alloc | apply pw_below_drewN | apply below_drew1) | exact HB.out)) hb); have n1_ := Aside0.mk (hbox); have n2_ := Aside0.mk ((by rw [hg]; exact (below_size (by repeat (first | (with_reducible first | exact HB.out | apply below_alloc | apply pw_below_drewN | apply below_drew1) | exact HB.out))) : w.heap.size ≤ gb686)); have n3_ := Aside0.mk ((by rw [hg]; exact (below_size (by repeat (first | (with_reducible first | exact HB.out | apply below_alloc | apply pw_below_drewN | apply below_drew1) | exact HB.out))) : w.heap.size ≤ gb686)); clear HB; have HB := n0_; have BK686 := n1_; have GW686 := n2_; have GE686 := n3_; clear n0_ n1_ n2_ n3_; clear hb hbox hg; have hcz3_0 : w2.cell? ⟨gb686, 0, none⟩ = some (.int .i64 a0_0) := (blk_cell BK686.out 0).trans rfl; have hcz3_1 : w2.cell? ⟨gb686, 1, none⟩ = some (.string a0_1) := (blk_cell BK686.out 1).trans rfl; have hcz3_2 : w2.cell? ⟨gb686, 2, none⟩ = some (.int .i64 a0_2) := (blk_cell BK686.out 2).trans rfl; have hcz3_3 : w2.cell? ⟨gb686, 3, none⟩ = some (.slice A0_3 l0_3.length c0_3) := (blk_cell BK686.out 3).trans rfl; have hcz3_4 : w2.cell? ⟨gb686, 4, none⟩ = some (.int .i64 a0_4) := (blk_cell BK686.out 4).trans rfl; have hfz3_0 := blk_frozen BK686.out 0; have hfz3_1 := blk_frozen BK686.out 1; have hfz3_2 := blk_frozen BK686.out 2; have hfz3_3 := blk_frozen BK686.out 3; have hfz3_4 := blk_frozen BK686.out 4))
  go_loopg [3, 9] k (fun kq v3 v9 w' => ∃ (x3_1 : List (S65)) (x9_1 : Int), v9 = .int .i64 x9_1 ∧ Aside0 (eval_Init.l0 kq x3_1 l0_3 (l0_3.length : Int) x9_1 = some r) ∧ Aside0 (kq ≤ k) ∧ Aside0 (Kd.R k65 65 w' w.heap.size (fun _ => True) v3 x3_1) ∧ Aside0 (w'.heap[gb686]? = some (.cells #[.int .i64 a0_0, .string a0_1, .int .i64 a0_2, (.slice A0_3 l0_3.length c0_3), .int .i64 a0_4] 29 (0, 0))) ∧ Aside0 (Below w.heap.size w w'))
  case atStart => exact ⟨(([] : List (S65))), (0), (by first | rfl | (simp; done) | (simp [*]; done)), H', ⟨Nat.le_refl _⟩, ⟨by first | exact Kd.R_nil _ _ _ _ _ | exact Kd.N_nil _ _ _ _ _ | exact Kd.V_nil _ _ _ _ _ | exact Kd.Q_nil _ _ _ _ _ | exact Kd.S_nil _ _ _ _ _⟩, ⟨by (with_reducible repeat (first | refine blk_drewN ?_ _ | refine blk_drew ?_ | refine blk_alloc ?_ _)); exact BK686.out⟩, ⟨by repeat (first | (with_reducible first | exact HB.out | apply below_alloc | apply pw_below_drewN | apply below_drew1 | refine below_set ?_ GE686.out) | exact HB.out)⟩⟩
  case round =>
    clear H'
    try clear c2
    try clear p2
    try clear hcz3_0
    try clear hcz3_1
    try clear hcz3_2
    try clear hcz3_3
    try clear hcz3_4
    try clear hfz3_0
    try clear hfz3_1
    try clear hfz3_2
    try clear hfz3_3
    try clear hfz3_4
    obtain ⟨x3_1, x9_1, rfl, HA, HK1, HO_3, BK686, HB⟩ := hrel
    cases gk with
    | zero => exact absurd HA.out (by simp [eval_Init.l0])
    | succ k1 =>
      have H := HA.out
      clear HA
      simp only [eval_Init.l0] at H
      by_cases c4 : x9_1 < (l0_3.length : Int)
      · rw [if_pos c4] at H
        have c4b0 : decide (x9_1 < (l0_3.length : Int)) = true := decide_eq_true c4
        clear c4
        by_cases c5 : 0 ≤ x9_1
        · rw [if_pos c5] at H
          have c5b0 : decide (0 ≤ x9_1) = true := decide_eq_true c5
          clear c5
          by_cases c6 : x9_1 < (l0_3.length : Int)
          · rw [if_pos c6] at H
            have c6b0 : decide (x9_1 < (l0_3.length : Int)) = true := decide_eq_true c6
            clear c6
            by_cases c7 : ((rd_T29 l0_3 x9_1).f0) = 2
            · rw [if_pos c7] at H
              have c7b0 : (((rd_T29 l0_3 x9_1).f0) == 2) = true := beq_iff_eq.mpr c7
              have c7b1 : (((rd_T29 l0_3 x9_1).f0) != 2) = false := bne_eq_false_iff_eq.mpr c7
              clear c7
              by_cases c8 : x3_1.length < 5864062014805
              · rw [if_pos c8] at H
                have LMc8 := Aside0.mk c8
                clear c8
                obtain ⟨y689, hy689⟩ : ∃ y_ : List (S65), y_ = (x3_1 ++ [(⟨(rd_T29 l0_3 x9_1).f1, (rd_T29 l0_3 x9_1).f2⟩ : S65)]) := ⟨_, rfl⟩
                replace H : (eval_Init.l0 k1 y689 l0_3 (l0_3.length : Int) (wrap64 (x9_1 + 1))) = some r := by first | (rw [hy689]; with_reducible exact H) | (have H2_ := (Option.bind_some _ _).symm.trans H; rw [hy689]; with_reducible exact H2_) | (have H2_ := (Option.bind_some _ _).symm.trans H; with_reducible exact H2_) | with_reducible exact H | (rw [hy689]; exact H) | exact H
                have Ny689 := Aside0.mk hy689
                clear hy689
                have H' := Aside0.mk H
                clear H
                have p687 : 0 ≤ (x9_1 : Int) := of_decide_eq_true (by first | (with_reducible assumption) | assumption)
                have q687 : x9_1 < (l0_3.length : Int) := of_decide_eq_true (by first | (with_reducible assumption) | assumption)
                obtain ⟨ad687, A687_3, c687_3, e687, hx687_0, hx687_1, hx687_2, hx687_3, hx687_4, hl687_3, hi687_3⟩ := at_T29 HR0_3.out x9_1 p687 q687
                cases e687
                replace hx687_0 := (HB.out.cell (World.block_lt_of_cell? w _ hx687_0)).trans hx687_0
                replace hx687_1 := (HB.out.cell (World.block_lt_of_cell? w _ hx687_1)).trans hx687_1
                replace hx687_2 := (HB.out.cell (World.block_lt_of_cell? w _ hx687_2)).trans hx687_2
                replace hx687_3 := (HB.out.cell (World.block_lt_of_cell? w _ hx687_3)).trans hx687_3
                replace hx687_4 := (HB.out.cell (World.block_lt_of_cell? w _ hx687_4)).trans hx687_4
                have HR687_3 := Aside0.mk hi687_3
                have HC687_3 := Aside0.mk hl687_3
                clear hi687_3 hl687_3
                replace p687 := eq_true p687
                replace q687 := eq_true q687
                go_wp2_with (first | ((with_reducible refine gate_dst (N := 5) rfl ?_); refine box_event ?hg (N := 5) ?hd (cs := #[.int .i64 0, .string (⟨#[]⟩ : ByteArray), .int .i64 0, .slice none 0 0, .int .i64 0]) (t := 29) ?hr ?_; (case hd => rfl); (case hg => rfl); (case hr => first | (go_simp; done) | (go_simp; rfl)); intro gb688 hg w9 hbox hb; have n0_ := Aside0.mk (Kd.R_below (by (with_reducible repeat (first | apply Kd.R_alloc | apply Kd.R_drewN | apply Kd.R_drew)); exact HO_3.out) hb); have n1_ := Aside0.mk (blk_below (g := gb686) (o := .cells #[.int .i64 a0_0, .string a0_1, .int .i64 a0_2, .slice (some ad687) l0_3.length c0_3, .int .i64 a0_4] 29 (0, 0)) (by (with_reducible repeat (first | refine blk_drewN ?_ _ | refine blk_drew ?_ | refine blk_alloc ?_ _)); exact BK686.out) hb); have n2_ := Aside0.mk (below_step (by repeat (first | (with_reducible first | exact HB.out | apply below_alloc | apply pw_below_drewN | apply below_drew1 | refine below_set ?_ GE686.out) | exact HB.out)) hb); have n3_ := Aside0.mk (hbox); have n4_ := Aside0.mk ((by rw [hg]; exact (below_size (by repeat (first | (with_reducible first | exact HB.out | apply below_alloc | apply pw_below_drewN | apply below_drew1 | refine below_set ?_ GE686.out) | exact HB.out))) : w.heap.size ≤ gb688)); have n5_ := Aside0.mk ((by rw [hg]; exact (below_size (by repeat (first | (with_reducible first | exact HB.out | apply below_alloc | apply pw_below_drewN | apply below_drew1 | refine below_set ?_ GE686.out) | exact HB.out))) : w.heap.size ≤ gb688)); have n6_ := Aside0.mk ((by rw [hg]; exact Nat.ne_of_lt (blk_lt (g := gb686) (o := .cells #[.int .i64 a0_0, .string a0_1, .int .i64 a0_2, .slice (some ad687) l0_3.length c0_3, .int .i64 a0_4] 29 (0, 0)) (by (with_reducible repeat (first | refine blk_drewN ?_ _ | refine blk_drew ?_ | refine blk_alloc ?_ _)); exact BK686.out)) : gb686 ≠ gb688)); have n7_ := Aside0.mk ((by rw [hg]; exact Nat.ne_of_gt (blk_lt (g := gb686) (o := .cells #[.int .i64 a0_0, .string a0_1, .int .i64 a0_2, .slice (some ad687) l0_3.length c0_3, .int .i64 a0_4] 29 (0, 0)) (by (with_reducible repeat (first | refine blk_drewN ?_ _ | refine blk_drew ?_ | refine blk_alloc ?_ _)); exact BK686.out)) : gb688 ≠ gb686)); clear HO_3; clear BK686; clear HB; have HO_3 := n0_; have BK686 := n1_; have HB := n2_; have BK688 := n3_; have GW688 := n4_; have GE688 := n5_; have NB686_688 := n6_; have NB688_686 := n7_; clear n0_ n1_ n2_ n3_ n4_ n5_ n6_ n7_; clear hb hbox hg; have hnb10 := NB688_686.out; have hnc10 := NB686_688.out; have hcz11_0 : w9.cell? ⟨gb688, 0, none⟩ = some (.int .i64 0) := (blk_cell BK688.out 0).trans rfl; have hcz11_1 : w9.cell? ⟨gb688, 1, none⟩ = some (.string (⟨#[]⟩ : ByteArray)) := (blk_cell BK688.out 1).trans rfl; have hcz11_2 : w9.cell? ⟨gb688, 2, none⟩ = some (.int .i64 0) := (blk_cell BK688.out 2).trans rfl; have hcz11_3 : w9.cell? ⟨gb688, 3, none⟩ = some (.slice none 0 0) := (blk_cell BK688.out 3).trans rfl; have hcz11_4 : w9.cell? ⟨gb688, 4, none⟩ = some (.int .i64 0) := (blk_cell BK688.out 4).trans rfl; have hfz11_0 := blk_frozen BK688.out 0; have hfz11_1 := blk_frozen BK688.out 1; have hfz11_2 := blk_frozen BK688.out 2; have hfz11_3 := blk_frozen BK688.out 3; have hfz11_4 := blk_frozen BK688.out 4) | ((with_reducible refine gate_builtin (b := .append) (xs := #[.tmp 16, .tmp 22]) rfl ?_); at_builtin; refine Kd.R_append k65 (w0 := w) w.heap.size rfl (.tmp 16) (.tmp 22) 45 65 (.agg #[(.string ⟨#[]⟩), (.int .i64 0)]) 24 rfl Try.underlying45 info65 rfl (by decide) (by omega) u3 x3_1 (⟨(rd_T29 l0_3 x9_1).f1, (rd_T29 l0_3 x9_1).f2⟩ : S65) [.string ((rd_T29 l0_3 x9_1).f1), .int .i64 ((rd_T29 l0_3 x9_1).f2)] (fun _ => True) (fun _ => False) rfl (by first | (go_simp; done) | (go_simp; rfl)) ?aP (fun _ hk => hk.elim) ?aF ?aO ?aB ?aS ?aL ?_; (case aP => exact k65_mkM _ _ _ (⟨(rd_T29 l0_3 x9_1).f1, (rd_T29 l0_3 x9_1).f2⟩ : S65)); (case aB => exact (by repeat (first | (with_reducible first | exact HB.out | apply below_alloc | apply pw_below_drewN | apply below_drew1 | refine below_set ?_ GE686.out | refine below_set ?_ GE688.out) | exact HB.out))); (case aF => exact (fun _ _ => trivial)); (case aO => exact (by (with_reducible repeat (first | apply Kd.R_alloc | apply Kd.R_drewN | apply Kd.R_drew)); exact Kd.R_mono (Kd.R_far (p := ⟨gb688, 4, none⟩) (Kd.R_far (p := ⟨gb688, 3, none⟩) (Kd.R_far (p := ⟨gb688, 2, none⟩) (Kd.R_far (p := ⟨gb688, 1, none⟩) (Kd.R_far (p := ⟨gb688, 0, none⟩) (Kd.R_types HO_3.out BK688.out (by decide)) (fun _ hk => hk.2) (.int .i64 ((rd_T29 l0_3 x9_1).f0))) (fun _ hk => hk.2) (.string ((rd_T29 l0_3 x9_1).f1))) (fun _ hk => hk.2) (.int .i64 ((rd_T29 l0_3 x9_1).f2))) (fun _ hk => hk.2) (.slice A687_3 ((rd_T29 l0_3 x9_1).f3).length c687_3)) (fun _ hk => hk.2) (.int .i64 ((rd_T29 l0_3 x9_1).f4))) (fun _ hk => trivial))); (case aS => exact (below_size (by repeat (first | (with_reducible first | exact HB.out | apply below_alloc | apply pw_below_drewN | apply below_drew1 | refine below_set ?_ GE686.out | refine below_set ?_ GE688.out) | exact HB.out)))); (case aL => have := LMc8.out; omega); intro v690 w12 ho hb hg hat; rw [← Ny689.out] at ho; have n0_ := Aside0.mk (blk_grown (g := gb686) (o := .cells #[.int .i64 a0_0, .string a0_1, .int .i64 a0_2, .slice (some ad687) l0_3.length c0_3, .int .i64 a0_4] 29 (0, 0)) (by (with_reducible repeat (first | refine blk_drewN ?_ _ | refine blk_drew ?_ | refine blk_alloc ?_ _)); refine blk_far ?_ NB686_688.out _; (with_reducible repeat (first | refine blk_drewN ?_ _ | refine blk_drew ?_ | refine blk_alloc ?_ _)); refine blk_far ?_ NB686_688.out _; (with_reducible repeat (first | refine blk_drewN ?_ _ | refine blk_drew ?_ | refine blk_alloc ?_ _)); refine blk_far ?_ NB686_688.out _; (with_reducible repeat (first | refine blk_drewN ?_ _ | refine blk_drew ?_ | refine blk_alloc ?_ _)); refine blk_far ?_ NB686_688.out _; (with_reducible repeat (first | refine blk_drewN ?_ _ | refine blk_drew ?_ | refine blk_alloc ?_ _)); refine blk_far ?_ NB686_688.out _; (with_reducible repeat (first | refine blk_drewN ?_ _ | refine blk_drew ?_ | refine blk_alloc ?_ _)); exact BK686.out) hg (Kd.R_ne HO_3.out BK686.out (by decide))); have n1_ := Aside0.mk (blk_grown (g := gb688) (o := .cells #[.int .i64 ((rd_T29 l0_3 x9_1).f0), .string ((rd_T29 l0_3 x9_1).f1), .int .i64 ((rd_T29 l0_3 x9_1).f2), .slice A687_3 ((rd_T29 l0_3 x9_1).f3).length c687_3, .int .i64 ((rd_T29 l0_3 x9_1).f4)] 29 (0, 0)) (by (with_reducible repeat (first | refine blk_drewN ?_ _ | refine blk_drew ?_ | refine blk_alloc ?_ _)); refine blk_put (cs := #[.int .i64 ((rd_T29 l0_3 x9_1).f0), .string ((rd_T29 l0_3 x9_1).f1), .int .i64 ((rd_T29 l0_3 x9_1).f2), .slice A687_3 ((rd_T29 l0_3 x9_1).f3).length c687_3, .int .i64 0]) ?_ 4 _ rfl; (with_reducible repeat (first | refine blk_drewN ?_ _ | refine blk_drew ?_ | refine blk_alloc ?_ _)); refine blk_put (cs := #[.int .i64 ((rd_T29 l0_3 x9_1).f0), .string ((rd_T29 l0_3 x9_1).f1), .int .i64 ((rd_T29 l0_3 x9_1).f2), .slice none 0 0, .int .i64 0]) ?_ 3 _ rfl; (with_reducible repeat (first | refine blk_drewN ?_ _ | refine blk_drew ?_ | refine blk_alloc ?_ _)); refine blk_put (cs := #[.int .i64 ((rd_T29 l0_3 x9_1).f0), .string ((rd_T29 l0_3 x9_1).f1), .int .i64 0, .slice none 0 0, .int .i64 0]) ?_ 2 _ rfl; (with_reducible repeat (first | refine blk_drewN ?_ _ | refine blk_drew ?_ | refine blk_alloc ?_ _)); refine blk_put (cs := #[.int .i64 ((rd_T29 l0_3 x9_1).f0), .string (⟨#[]⟩ : ByteArray), .int .i64 0, .slice none 0 0, .int .i64 0]) ?_ 1 _ rfl; (with_reducible repeat (first | refine blk_drewN ?_ _ | refine blk_drew ?_ | refine blk_alloc ?_ _)); refine blk_put (cs := #[.int .i64 0, .string (⟨#[]⟩ : ByteArray), .int .i64 0, .slice none 0 0, .int .i64 0]) ?_ 0 _ rfl; (with_reducible repeat (first | refine blk_drewN ?_ _ | refine blk_drew ?_ | refine blk_alloc ?_ _)); exact BK688.out) hg (Kd.R_ne HO_3.out BK688.out (by decide))); have n2_ := Aside0.mk (hb); have n3_ := Aside0.mk (ho); clear BK686; clear BK688; clear HB; clear HO_3; have BK686 := n0_; have BK688 := n1_; have HB := n2_; have HO691 := n3_; clear n0_ n1_ n2_ n3_; clear ho hb hg hat))
                go_roundg k1
                case measure => have := HK1.out; omega
                case rel => exact ⟨(y689), (wrap64 (x9_1 + 1)), (by first | rfl | (simp; done) | (simp [*]; done)), H', ⟨by have := HK1.out; omega⟩, ⟨by (with_reducible repeat (first | apply Kd.R_alloc | apply Kd.R_drewN | apply Kd.R_drew)); exact HO691.out⟩, ⟨by (with_reducible repeat (first | refine blk_drewN ?_ _ | refine blk_drew ?_ | refine blk_alloc ?_ _)); exact BK686.out⟩, ⟨by repeat (first | (with_reducible first | exact HB.out | apply below_alloc | apply pw_below_drewN | apply below_drew1 | refine below_set ?_ GE686.out | refine below_set ?_ GE688.out) | exact HB.out)⟩⟩
              · rw [if_neg c8] at H
                exact absurd H (by simp)
            · rw [if_neg c7] at H
              have c7b0 : (((rd_T29 l0_3 x9_1).f0) == 2) = false := beq_eq_false_iff_ne.mpr c7
              have c7b1 : (((rd_T29 l0_3 x9_1).f0) != 2) = true := bne_iff_ne.mpr c7
              have H' := Aside0.mk H
              clear H
              have p687 : 0 ≤ (x9_1 : Int) := of_decide_eq_true (by first | (with_reducible assumption) | assumption)
              have q687 : x9_1 < (l0_3.length : Int) := of_decide_eq_true (by first | (with_reducible assumption) | assumption)
              obtain ⟨ad687, A687_3, c687_3, e687, hx687_0, hx687_1, hx687_2, hx687_3, hx687_4, hl687_3, hi687_3⟩ := at_T29 HR0_3.out x9_1 p687 q687
              cases e687
              replace hx687_0 := (HB.out.cell (World.block_lt_of_cell? w _ hx687_0)).trans hx687_0
              replace hx687_1 := (HB.out.cell (World.block_lt_of_cell? w _ hx687_1)).trans hx687_1
              replace hx687_2 := (HB.out.cell (World.block_lt_of_cell? w _ hx687_2)).trans hx687_2
              replace hx687_3 := (HB.out.cell (World.block_lt_of_cell? w _ hx687_3)).trans hx687_3
              replace hx687_4 := (HB.out.cell (World.block_lt_of_cell? w _ hx687_4)).trans hx687_4
              have HR687_3 := Aside0.mk hi687_3
              have HC687_3 := Aside0.mk hl687_3
              clear hi687_3 hl687_3
              replace p687 := eq_true p687
              replace q687 := eq_true q687
              go_wp2_with (first | ((with_reducible refine gate_dst (N := 5) rfl ?_); refine box_event ?hg (N := 5) ?hd (cs := #[.int .i64 0, .string (⟨#[]⟩ : ByteArray), .int .i64 0, .slice none 0 0, .int .i64 0]) (t := 29) ?hr ?_; (case hd => rfl); (case hg => rfl); (case hr => first | (go_simp; done) | (go_simp; rfl)); intro gb688 hg w13 hbox hb; have n0_ := Aside0.mk (Kd.R_below (by (with_reducible repeat (first | apply Kd.R_alloc | apply Kd.R_drewN | apply Kd.R_drew)); exact HO_3.out) hb); have n1_ := Aside0.mk (blk_below (g := gb686) (o := .cells #[.int .i64 a0_0, .string a0_1, .int .i64 a0_2, .slice (some ad687) l0_3.length c0_3, .int .i64 a0_4] 29 (0, 0)) (by (with_reducible repeat (first | refine blk_drewN ?_ _ | refine blk_drew ?_ | refine blk_alloc ?_ _)); exact BK686.out) hb); have n2_ := Aside0.mk (below_step (by repeat (first | (with_reducible first | exact HB.out | apply below_alloc | apply pw_below_drewN | apply below_drew1 | refine below_set ?_ GE686.out) | exact HB.out)) hb); have n3_ := Aside0.mk (hbox); have n4_ := Aside0.mk ((by rw [hg]; exact (below_size (by repeat (first | (with_reducible first | exact HB.out | apply below_alloc | apply pw_below_drewN | apply below_drew1 | refine below_set ?_ GE686.out) | exact HB.out))) : w.heap.size ≤ gb688)); have n5_ := Aside0.mk ((by rw [hg]; exact (below_size (by repeat (first | (with_reducible first | exact HB.out | apply below_alloc | apply pw_below_drewN | apply below_drew1 | refine below_set ?_ GE686.out) | exact HB.out))) : w.heap.size ≤ gb688)); have n6_ := Aside0.mk ((by rw [hg]; exact Nat.ne_of_lt (blk_lt (g := gb686) (o := .cells #[.int .i64 a0_0, .string a0_1, .int .i64 a0_2, .slice (some ad687) l0_3.length c0_3, .int .i64 a0_4] 29 (0, 0)) (by (with_reducible repeat (first | refine blk_drewN ?_ _ | refine blk_drew ?_ | refine blk_alloc ?_ _)); exact BK686.out)) : gb686 ≠ gb688)); have n7_ := Aside0.mk ((by rw [hg]; exact Nat.ne_of_gt (blk_lt (g := gb686) (o := .cells #[.int .i64 a0_0, .string a0_1, .int .i64 a0_2, .slice (some ad687) l0_3.length c0_3, .int .i64 a0_4] 29 (0, 0)) (by (with_reducible repeat (first | refine blk_drewN ?_ _ | refine blk_drew ?_ | refine blk_alloc ?_ _)); exact BK686.out)) : gb688 ≠ gb686)); clear HO_3; clear BK686; clear HB; have HO_3 := n0_; have BK686 := n1_; have HB := n2_; have BK688 := n3_; have GW688 := n4_; have GE688 := n5_; have NB686_688 := n6_; have NB688_686 := n7_; clear n0_ n1_ n2_ n3_ n4_ n5_ n6_ n7_; clear hb hbox hg; have hnb14 := NB688_686.out; have hnc14 := NB686_688.out; have hcz15_0 : w13.cell? ⟨gb688, 0, none⟩ = some (.int .i64 0) := (blk_cell BK688.out 0).trans rfl; have hcz15_1 : w13.cell? ⟨gb688, 1, none⟩ = some (.string (⟨#[]⟩ : ByteArray)) := (blk_cell BK688.out 1).trans rfl; have hcz15_2 : w13.cell? ⟨gb688, 2, none⟩ = some (.int .i64 0) := (blk_cell BK688.out 2).trans rfl; have hcz15_3 : w13.cell? ⟨gb688, 3, none⟩ = some (.slice none 0 0) := (blk_cell BK688.out 3).trans rfl; have hcz15_4 : w13.cell? ⟨gb688, 4, none⟩ = some (.int .i64 0) := (blk_cell BK688.out 4).trans rfl; have hfz15_0 := blk_frozen BK688.out 0; have hfz15_1 := blk_frozen BK688.out 1; have hfz15_2 := blk_frozen BK688.out 2; have hfz15_3 := blk_frozen BK688.out 3; have hfz15_4 := blk_frozen BK688.out 4))
              go_roundg k1
              case measure => have := HK1.out; omega
              case rel => exact ⟨(x3_1), (wrap64 (x9_1 + 1)), (by first | rfl | (simp; done) | (simp [*]; done)), H', ⟨by have := HK1.out; omega⟩, ⟨by (with_reducible repeat (first | apply Kd.R_alloc | apply Kd.R_drewN | apply Kd.R_drew)); exact Kd.R_mono (Kd.R_far (p := ⟨gb688, 4, none⟩) (Kd.R_far (p := ⟨gb688, 3, none⟩) (Kd.R_far (p := ⟨gb688, 2, none⟩) (Kd.R_far (p := ⟨gb688, 1, none⟩) (Kd.R_far (p := ⟨gb688, 0, none⟩) (Kd.R_types HO_3.out BK688.out (by decide)) (fun _ hk => hk.2) (.int .i64 ((rd_T29 l0_3 x9_1).f0))) (fun _ hk => hk.2) (.string ((rd_T29 l0_3 x9_1).f1))) (fun _ hk => hk.2) (.int .i64 ((rd_T29 l0_3 x9_1).f2))) (fun _ hk => hk.2) (.slice A687_3 ((rd_T29 l0_3 x9_1).f3).length c687_3)) (fun _ hk => hk.2) (.int .i64 ((rd_T29 l0_3 x9_1).f4))) (fun _ hk => trivial)⟩, ⟨by (with_reducible repeat (first | refine blk_drewN ?_ _ | refine blk_drew ?_ | refine blk_alloc ?_ _)); refine blk_far ?_ NB686_688.out _; (with_reducible repeat (first | refine blk_drewN ?_ _ | refine blk_drew ?_ | refine blk_alloc ?_ _)); refine blk_far ?_ NB686_688.out _; (with_reducible repeat (first | refine blk_drewN ?_ _ | refine blk_drew ?_ | refine blk_alloc ?_ _)); refine blk_far ?_ NB686_688.out _; (with_reducible repeat (first | refine blk_drewN ?_ _ | refine blk_drew ?_ | refine blk_alloc ?_ _)); refine blk_far ?_ NB686_688.out _; (with_reducible repeat (first | refine blk_drewN ?_ _ | refine blk_drew ?_ | refine blk_alloc ?_ _)); refine blk_far ?_ NB686_688.out _; (with_reducible repeat (first | refine blk_drewN ?_ _ | refine blk_drew ?_ | refine blk_alloc ?_ _)); exact BK686.out⟩, ⟨by repeat (first | (with_reducible first | exact HB.out | apply below_alloc | apply pw_below_drewN | apply below_drew1 | refine below_set ?_ GE686.out | refine below_set ?_ GE688.out) | exact HB.out)⟩⟩
          · rw [if_neg c6] at H
            exact absurd H (by simp)
        · rw [if_neg c5] at H
          exact absurd H (by simp)
      · rw [if_neg c4] at H
        have c4b0 : decide (x9_1 < (l0_3.length : Int)) = false := decide_eq_false c4
        clear c4
        obtain rfl := Option.some.inj H
        go_wp2
        go_ret
        exact ⟨_, by first | rfl | (simp [errW_none, errW_some] <;> rfl) | (simp [*, errW_none, errW_some] <;> rfl), by (with_reducible repeat (first | apply Kd.R_alloc | apply Kd.R_drewN | apply Kd.R_drew)); exact HO_3.out, by repeat (first | (with_reducible first | exact HB.out | apply below_alloc | apply pw_below_drewN | apply below_drew1 | refine below_set ?_ GE686.out) | exact HB.out)⟩
end Go.Proofs.Ytdiadmlgeojefaa.A
namespace Go.Proofs.Ytdiadmlgeojefaa.A
open Go.RowKit Go.Proofs.YtdiadmlgeojefaaW.PrintWords Go.Proofs.YtdiadmlgeojefaaW.PrintLast Go.Proofs.YtdiadmlgeojefaaW.PrintMore
set_option linter.unusedVariables false
set_option linter.unusedSimpArgs false
end Go.Proofs.Ytdiadmlgeojefaa.A
namespace Go.Proofs.Ytdiadmlgeojefaa.A
open Go.RowKit Go.Proofs.YtdiadmlgeojefaaW.PrintWords Go.Proofs.YtdiadmlgeojefaaW.PrintLast Go.Proofs.YtdiadmlgeojefaaW.PrintMore
set_option linter.unusedVariables false
set_option linter.unusedSimpArgs false
structure node3Chk (ops : Array Oper) : Prop where
  f0 : anyB .any ops #[false, false, false, false, false, false, false, false] #[true, false, false, false, false, false, false, false] 0 = true
  f1 : anyB .any ops #[true, false, false, false, false, false, false, false] #[true, true, false, false, false, false, false, false] 1 = true
  f2 : anyB .any ops #[true, true, false, false, false, false, false, false] #[true, true, true, false, false, false, false, false] 2 = true
  f3 : takeB .any ops [] #[true, true, true, false, false, false, false, false] #[true, true, true, true, false, false, false, false] 3 = true
  f4 : anyB .any ops #[true, true, true, true, false, false, false, false] #[true, true, true, true, true, false, false, false] 4 = true
  f5 : takeB .any ops [] #[true, true, true, true, true, false, false, false] #[true, true, true, true, true, true, false, false] 5 = true
  f6 : takeB .any ops [] #[true, true, true, true, true, true, false, false] #[true, true, true, true, true, true, true, false] 6 = true
  f7 : anyB .any ops #[true, true, true, true, true, true, true, false] #[true, true, true, true, true, true, true, true] 7 = true
  f8 : (Region.ready .any ops #[true, true, true, true, true, true, true, true] == []) = true
structure node6yChk (ops : Array Oper) : Prop where
  f0 : anyB .any ops #[false, false, false, false, false, false, false, false, false, false, false, false, false, false, false, false, false, false] #[true, false, false, false, false, false, false, false, false, false, false, false, false, false, false, false, false, false] 0 = true
  f1 : anyB .any ops #[true, false, false, false, false, false, false, false, false, false, false, false, false, false, false, false, false, false] #[true, true, false, false, false, false, false, false, false, false, false, false, false, false, false, false, false, false] 1 = true
  f2 : anyB .any ops #[true, true, false, false, false, false, false, false, false, false, false, false, false, false, false, false, false, false] #[true, true, true, false, false, false, false, false, false, false, false, false, false, false, false, false, false, false] 2 = true
  f3 : takeB .any ops [] #[true, true, true, false, false, false, false, false, false, false, false, false, false, false, false, false, false, false] #[true, true, true, true, false, false, false, false, false, false, false, false, false, false, false, false, false, false] 3 = true
  f4 : anyB .any ops #[true, true, true, true, false, false, false, false, false, false, false, false, false, false, false, false, false, false] #[true, true, true, true, true, false, false, false, false, false, false, false, false, false, false, false, false, false] 4 = true
  f5 : takeB .any ops [] #[true, true, true, true, true, false, false, false, false, false, false, false, false, false, false, false, false, false] #[true, true, true, true, true, true, false, false, false, false, false, false, false, false, false, false, false, false] 5 = true
  f6 : takeB .any ops [] #[true, true, true, true, true, true, false, false, false, false, false, false, false, false, false, false, false, false] #[true, true, true, true, true, true, true, false, false, false, false, false, false, false, false, false, false, false] 6 = true
  f7 : anyB .any ops #[true, true, true, true, true, true, true, false, false, false, false, false, false, false, false, false, false, false] #[true, true, true, true, true, true, true, true, false, false, false, false, false, false, false, false, false, false] 7 = true
  f8 : anyB .any ops #[true, true, true, true, true, true, true, true, false, false, false, false, false, false, false, false, false, false] #[true, true, true, true, true, true, true, true, true, false, false, false, false, false, false, false, false, false] 8 = true
  f9 : anyB .any ops #[true, true, true, true, true, true, true, true, true, false, false, false, false, false, false, false, false, false] #[true, true, true, true, true, true, true, true, true, true, false, false, false, false, false, false, false, false] 9 = true
  f10 : anyB .any ops #[true, true, true, true, true, true, true, true, true, true, false, false, false, false, false, false, false, false] #[true, true, true, true, true, true, true, true, true, true, true, false, false, false, false, false, false, false] 10 = true
  f11 : anyB .any ops #[true, true, true, true, true, true, true, true, true, true, true, false, false, false, false, false, false, false] #[true, true, true, true, true, true, true, true, true, true, true, true, false, false, false, false, false, false] 11 = true
  f12 : takeB .any ops [] #[true, true, true, true, true, true, true, true, true, true, true, true, false, false, false, false, false, false] #[true, true, true, true, true, true, true, true, true, true, true, true, true, false, false, false, false, false] 12 = true
  f13 : anyB .any ops #[true, true, true, true, true, true, true, true, true, true, true, true, true, false, false, false, false, false] #[true, true, true, true, true, true, true, true, true, true, true, true, true, true, false, false, false, false] 13 = true
  f14 : takeB .any ops [] #[true, true, true, true, true, true, true, true, true, true, true, true, true, true, false, false, false, false] #[true, true, true, true, true, true, true, true, true, true, true, true, true, true, true, false, false, false] 14 = true
  f15 : readyB .any ops #[true, true, true, true, true, true, true, true, true, true, true, true, true, true, true, false, false, false] #[true, true, true, true, true, true, true, true, true, true, true, true, true, true, true, true, false, false] 15 = true
  f16 : anyB .any ops #[true, true, true, true, true, true, true, true, true, true, true, true, true, true, true, true, false, false] #[true, true, true, true, true, true, true, true, true, true, true, true, true, true, true, true, true, false] 16 = true
  f17 : anyB .any ops #[true, true, true, true, true, true, true, true, true, true, true, true, true, true, true, true, true, false] #[true, true, true, true, true, true, true, true, true, true, true, true, true, true, true, true, true, true] 17 = true
  f18 : (Region.ready .any ops #[true, true, true, true, true, true, true, true, true, true, true, true, true, true, true, true, true, true] == []) = true
structure node6nChk (ops : Array Oper) : Prop where
  f0 : anyB .any ops #[false, false, false, false, false, false, false, false, false, false, false, false, false, false, false, false, false, false] #[true, false, false, false, false, false, false, false, false, false, false, false, false, false, false, false, false, false] 0 = true
  f1 : anyB .any ops #[true, false, false, false, false, false, false, false, false, false, false, false, false, false, false, false, false, false] #[true, true, false, false, false, false, false, false, false, false, false, false, false, false, false, false, false, false] 1 = true
  f2 : anyB .any ops #[true, true, false, false, false, false, false, false, false, false, false, false, false, false, false, false, false, false] #[true, true, true, false, false, false, false, false, false, false, false, false, false, false, false, false, false, false] 2 = true
  f3 : takeB .any ops [] #[true, true, true, false, false, false, false, false, false, false, false, false, false, false, false, false, false, false] #[true, true, true, true, false, false, false, false, false, false, false, false, false, false, false, false, false, false] 3 = true
  f4 : anyB .any ops #[true, true, true, true, false, false, false, false, false, false, false, false, false, false, false, false, false, false] #[true, true, true, true, true, false, false, false, false, false, false, false, false, false, false, false, false, false] 4 = true
  f5 : takeB .any ops [] #[true, true, true, true, true, false, false, false, false, false, false, false, false, false, false, false, false, false] #[true, true, true, true, true, true, false, false, false, false, false, false, false, false, false, false, false, false] 5 = true
  f6 : takeB .any ops [] #[true, true, true, true, true, true, false, false, false, false, false, false, false, false, false, false, false, false] #[true, true, true, true, true, true, true, false, false, false, false, false, false, false, false, false, false, false] 6 = true
  f7 : anyB .any ops #[true, true, true, true, true, true, true, false, false, false, false, false, false, false, false, false, false, false] #[true, true, true, true, true, true, true, true, false, false, false, false, false, false, false, false, false, false] 7 = true
  f8 : anyB .any ops #[true, true, true, true, true, true, true, true, false, false, false, false, false, false, false, false, false, false] #[true, true, true, true, true, true, true, true, true, false, false, false, false, false, false, false, false, false] 8 = true
  f9 : anyB .any ops #[true, true, true, true, true, true, true, true, true, false, false, false, false, false, false, false, false, false] #[true, true, true, true, true, true, true, true, true, true, false, false, false, false, false, false, false, false] 9 = true
  f10 : anyB .any ops #[true, true, true, true, true, true, true, true, true, true, false, false, false, false, false, false, false, false] #[true, true, true, true, true, true, true, true, true, true, true, false, false, false, false, false, false, false] 10 = true
  f11 : anyB .any ops #[true, true, true, true, true, true, true, true, true, true, true, false, false, false, false, false, false, false] #[true, true, true, true, true, true, true, true, true, true, true, true, false, false, false, false, false, false] 11 = true
  f12 : anyB .any ops #[true, true, true, true, true, true, true, true, true, true, true, true, false, false, false, false, false, false] #[true, true, true, true, true, true, true, true, true, true, true, true, true, false, false, false, false, false] 12 = true
  f13 : anyB .any ops #[true, true, true, true, true, true, true, true, true, true, true, true, true, false, false, false, false, false] #[true, true, true, true, true, true, true, true, true, true, true, true, true, true, false, false, false, false] 13 = true
  f14 : anyB .any ops #[true, true, true, true, true, true, true, true, true, true, true, true, true, true, false, false, false, false] #[true, true, true, true, true, true, true, true, true, true, true, true, true, true, true, false, false, false] 14 = true
  f15 : anyB .any ops #[true, true, true, true, true, true, true, true, true, true, true, true, true, true, true, false, false, false] #[true, true, true, true, true, true, true, true, true, true, true, true, true, true, true, true, false, false] 15 = true
  f16 : anyB .any ops #[true, true, true, true, true, true, true, true, true, true, true, true, true, true, true, true, false, false] #[true, true, true, true, true, true, true, true, true, true, true, true, true, true, true, true, true, false] 16 = true
  f17 : anyB .any ops #[true, true, true, true, true, true, true, true, true, true, true, true, true, true, true, true, true, false] #[true, true, true, true, true, true, true, true, true, true, true, true, true, true, true, true, true, true] 17 = true
  f18 : (Region.ready .any ops #[true, true, true, true, true, true, true, true, true, true, true, true, true, true, true, true, true, true] == []) = true
end Go.Proofs.Ytdiadmlgeojefaa.A
namespace Go.Proofs.Ytdiadmlgeojefaa.A
open Go.RowKit Go.Proofs.YtdiadmlgeojefaaW.PrintWords Go.Proofs.YtdiadmlgeojefaaW.PrintLast Go.Proofs.YtdiadmlgeojefaaW.PrintMore
set_option linter.unusedVariables false
set_option linter.unusedSimpArgs false
theorem CkAt.put {w0 W W1 : World} {g bm : Nat} {ks ks' : List ByteArray} {on : ByteArray} {f : Ft} (h : CkAt w0 W g bm ks on f) (hm : Mp W1 bm ks') (hg : W.grownBy W1 (some bm)) : CkAt w0 W1 g bm ks' on f :=
  ⟨grown_blk hg h.blk (Ne.symm h.ne), hm, h.ge, h.geM, pw_below_grown h.bel _ h.bel.size hg (by intro k hk; injection hk with hk; have := h.geM; omega)⟩
structure heads6nChk (ops : Array Oper) : Prop where
  f0 : anyB .any ops #[false, false, false, false, false, false, false, false, false, false, false, false, false, false, false, false, false, false, false] #[true, false, false, false, false, false, false, false, false, false, false, false, false, false, false, false, false, false, false] 0 = true
  f1 : takeB .any ops [] #[true, false, false, false, false, false, false, false, false, false, false, false, false, false, false, false, false, false, false] #[true, true, false, false, false, false, false, false, false, false, false, false, false, false, false, false, false, false, false] 1 = true
  f2 : anyB .any ops #[true, true, false, false, false, false, false, false, false, false, false, false, false, false, false, false, false, false, false] #[true, true, true, false, false, false, false, false, false, false, false, false, false, false, false, false, false, false, false] 2 = true
  f3 : anyB .any ops #[true, true, true, false, false, false, false, false, false, false, false, false, false, false, false, false, false, false, false] #[true, true, true, true, false, false, false, false, false, false, false, false, false, false, false, false, false, false, false] 3 = true
  f4 : anyB .any ops #[true, true, true, true, false, false, false, false, false, false, false, false, false, false, false, false, false, false, false] #[true, true, true, true, true, false, false, false, false, false, false, false, false, false, false, false, false, false, false] 4 = true
  f5 : anyB .any ops #[true, true, true, true, true, false, false, false, false, false, false, false, false, false, false, false, false, false, false] #[true, true, true, true, true, true, false, false, false, false, false, false, false, false, false, false, false, false, false] 5 = true
  f6 : anyB .any ops #[true, true, true, true, true, true, false, false, false, false, false, false, false, false, false, false, false, false, false] #[true, true, true, true, true, true, true, false, false, false, false, false, false, false, false, false, false, false, false] 6 = true
  f7 : anyB .any ops #[true, true, true, true, true, true, true, false, false, false, false, false, false, false, false, false, false, false, false] #[true, true, true, true, true, true, true, true, false, false, false, false, false, false, false, false, false, false, false] 7 = true
  f8 : anyB .any ops #[true, true, true, true, true, true, true, true, false, false, false, false, false, false, false, false, false, false, false] #[true, true, true, true, true, true, true, true, true, false, false, false, false, false, false, false, false, false, false] 8 = true
  f9 : anyB .any ops #[true, true, true, true, true, true, true, true, true, false, false, false, false, false, false, false, false, false, false] #[true, true, true, true, true, true, true, true, true, true, false, false, false, false, false, false, false, false, false] 9 = true
  f10 : anyB .any ops #[true, true, true, true, true, true, true, true, true, true, false, false, false, false, false, false, false, false, false] #[true, true, true, true, true, true, true, true, true, true, true, false, false, false, false, false, false, false, false] 10 = true
  f11 : anyB .any ops #[true, true, true, true, true, true, true, true, true, true, true, false, false, false, false, false, false, false, false] #[true, true, true, true, true, true, true, true, true, true, true, true, false, false, false, false, false, false, false] 11 = true
  f12 : anyB .any ops #[true, true, true, true, true, true, true, true, true, true, true, true, false, false, false, false, false, false, false] #[true, true, true, true, true, true, true, true, true, true, true, true, true, false, false, false, false, false, false] 12 = true
  f13 : anyB .any ops #[true, true, true, true, true, true, true, true, true, true, true, true, true, false, false, false, false, false, false] #[true, true, true, true, true, true, true, true, true, true, true, true, true, true, false, false, false, false, false] 13 = true
  f14 : anyB .any ops #[true, true, true, true, true, true, true, true, true, true, true, true, true, true, false, false, false, false, false] #[true, true, true, true, true, true, true, true, true, true, true, true, true, true, true, false, false, false, false] 14 = true
  f15 : anyB .any ops #[true, true, true, true, true, true, true, true, true, true, true, true, true, true, true, false, false, false, false] #[true, true, true, true, true, true, true, true, true, true, true, true, true, true, true, true, false, false, false] 15 = true
  f16 : anyB .any ops #[true, true, true, true, true, true, true, true, true, true, true, true, true, true, true, true, false, false, false] #[true, true, true, true, true, true, true, true, true, true, true, true, true, true, true, true, true, false, false] 16 = true
  f17 : anyB .any ops #[true, true, true, true, true, true, true, true, true, true, true, true, true, true, true, true, true, false, false] #[true, true, true, true, true, true, true, true, true, true, true, true, true, true, true, true, true, true, false] 17 = true
  f18 : anyB .any ops #[true, true, true, true, true, true, true, true, true, true, true, true, true, true, true, true, true, true, false] #[true, true, true, true, true, true, true, true, true, true, true, true, true, true, true, true, true, true, true] 18 = true
  f19 : (Region.ready .any ops #[true, true, true, true, true, true, true, true, true, true, true, true, true, true, true, true, true, true, true] == []) = true
structure heads6tChk (ops : Array Oper) : Prop where
  f0 : anyB .any ops #[false, false, false, false, false, false, false, false, false, false, false, false, false, false, false, false, false, false, false] #[true, false, false, false, false, false, false, false, false, false, false, false, false, false, false, false, false, false, false] 0 = true
  f1 : takeB .any ops [] #[true, false, false, false, false, false, false, false, false, false, false, false, false, false, false, false, false, false, false] #[true, true, false, false, false, false, false, false, false, false, false, false, false, false, false, false, false, false, false] 1 = true
  f2 : anyB .any ops #[true, true, false, false, false, false, false, false, false, false, false, false, false, false, false, false, false, false, false] #[true, true, true, false, false, false, false, false, false, false, false, false, false, false, false, false, false, false, false] 2 = true
  f3 : anyB .any ops #[true, true, true, false, false, false, false, false, false, false, false, false, false, false, false, false, false, false, false] #[true, true, true, true, false, false, false, false, false, false, false, false, false, false, false, false, false, false, false] 3 = true
  f4 : anyB .any ops #[true, true, true, true, false, false, false, false, false, false, false, false, false, false, false, false, false, false, false] #[true, true, true, true, true, false, false, false, false, false, false, false, false, false, false, false, false, false, false] 4 = true
  f5 : anyB .any ops #[true, true, true, true, true, false, false, false, false, false, false, false, false, false, false, false, false, false, false] #[true, true, true, true, true, true, false, false, false, false, false, false, false, false, false, false, false, false, false] 5 = true
  f6 : anyB .any ops #[true, true, true, true, true, true, false, false, false, false, false, false, false, false, false, false, false, false, false] #[true, true, true, true, true, true, true, false, false, false, false, false, false, false, false, false, false, false, false] 6 = true
  f7 : takeB .any ops [] #[true, true, true, true, true, true, true, false, false, false, false, false, false, false, false, false, false, false, false] #[true, true, true, true, true, true, true, true, false, false, false, false, false, false, false, false, false, false, false] 7 = true
  f8 : anyB .any ops #[true, true, true, true, true, true, true, true, false, false, false, false, false, false, false, false, false, false, false] #[true, true, true, true, true, true, true, true, true, false, false, false, false, false, false, false, false, false, false] 8 = true
  f9 : takeB .any ops [] #[true, true, true, true, true, true, true, true, true, false, false, false, false, false, false, false, false, false, false] #[true, true, true, true, true, true, true, true, true, true, false, false, false, false, false, false, false, false, false] 9 = true
  f10 : takeB .any ops [] #[true, true, true, true, true, true, true, true, true, true, false, false, false, false, false, false, false, false, false] #[true, true, true, true, true, true, true, true, true, true, true, false, false, false, false, false, false, false, false] 10 = true
  f11 : anyB .any ops #[true, true, true, true, true, true, true, true, true, true, true, false, false, false, false, false, false, false, false] #[true, true, true, true, true, true, true, true, true, true, true, true, false, false, false, false, false, false, false] 11 = true
  f12 : anyB .any ops #[true, true, true, true, true, true, true, true, true, true, true, true, false, false, false, false, false, false, false] #[true, true, true, true, true, true, true, true, true, true, true, true, true, false, false, false, false, false, false] 12 = true
  f13 : anyB .any ops #[true, true, true, true, true, true, true, true, true, true, true, true, true, false, false, false, false, false, false] #[true, true, true, true, true, true, true, true, true, true, true, true, true, true, false, false, false, false, false] 13 = true
  f14 : anyB .any ops #[true, true, true, true, true, true, true, true, true, true, true, true, true, true, false, false, false, false, false] #[true, true, true, true, true, true, true, true, true, true, true, true, true, true, true, false, false, false, false] 14 = true
  f15 : anyB .any ops #[true, true, true, true, true, true, true, true, true, true, true, true, true, true, true, false, false, false, false] #[true, true, true, true, true, true, true, true, true, true, true, true, true, true, true, true, false, false, false] 15 = true
  f16 : anyB .any ops #[true, true, true, true, true, true, true, true, true, true, true, true, true, true, true, true, false, false, false] #[true, true, true, true, true, true, true, true, true, true, true, true, true, true, true, true, true, false, false] 16 = true
  f17 : anyB .any ops #[true, true, true, true, true, true, true, true, true, true, true, true, true, true, true, true, true, false, false] #[true, true, true, true, true, true, true, true, true, true, true, true, true, true, true, true, true, true, false] 17 = true
  f18 : anyB .any ops #[true, true, true, true, true, true, true, true, true, true, true, true, true, true, true, true, true, true, false] #[true, true, true, true, true, true, true, true, true, true, true, true, true, true, true, true, true, true, true] 18 = true
  f19 : (Region.ready .any ops #[true, true, true, true, true, true, true, true, true, true, true, true, true, true, true, true, true, true, true] == []) = true
structure heads6fChk (ops : Array Oper) : Prop where
  f0 : anyB .any ops #[false, false, false, false, false, false, false, false, false, false, false, false, false, false, false, false, false, false, false] #[true, false, false, false, false, false, false, false, false, false, false, false, false, false, false, false, false, false, false] 0 = true
  f1 : takeB .any ops [] #[true, false, false, false, false, false, false, false, false, false, false, false, false, false, false, false, false, false, false] #[true, true, false, false, false, false, false, false, false, false, false, false, false, false, false, false, false, false, false] 1 = true
  f2 : anyB .any ops #[true, true, false, false, false, false, false, false, false, false, false, false, false, false, false, false, false, false, false] #[true, true, true, false, false, false, false, false, false, false, false, false, false, false, false, false, false, false, false] 2 = true
  f3 : anyB .any ops #[true, true, true, false, false, false, false, false, false, false, false, false, false, false, false, false, false, false, false] #[true, true, true, true, false, false, false, false, false, false, false, false, false, false, false, false, false, false, false] 3 = true
  f4 : anyB .any ops #[true, true, true, true, false, false, false, false, false, false, false, false, false, false, false, false, false, false, false] #[true, true, true, true, true, false, false, false, false, false, false, false, false, false, false, false, false, false, false] 4 = true
  f5 : anyB .any ops #[true, true, true, true, true, false, false, false, false, false, false, false, false, false, false, false, false, false, false] #[true, true, true, true, true, true, false, false, false, false, false, false, false, false, false, false, false, false, false] 5 = true
  f6 : anyB .any ops #[true, true, true, true, true, true, false, false, false, false, false, false, false, false, false, false, false, false, false] #[true, true, true, true, true, true, true, false, false, false, false, false, false, false, false, false, false, false, false] 6 = true
  f7 : takeB .any ops [] #[true, true, true, true, true, true, true, false, false, false, false, false, false, false, false, false, false, false, false] #[true, true, true, true, true, true, true, true, false, false, false, false, false, false, false, false, false, false, false] 7 = true
  f8 : anyB .any ops #[true, true, true, true, true, true, true, true, false, false, false, false, false, false, false, false, false, false, false] #[true, true, true, true, true, true, true, true, true, false, false, false, false, false, false, false, false, false, false] 8 = true
  f9 : takeB .any ops [] #[true, true, true, true, true, true, true, true, true, false, false, false, false, false, false, false, false, false, false] #[true, true, true, true, true, true, true, true, true, true, false, false, false, false, false, false, false, false, false] 9 = true
  f10 : takeB .any ops [] #[true, true, true, true, true, true, true, true, true, true, false, false, false, false, false, false, false, false, false] #[true, true, true, true, true, true, true, true, true, true, true, false, false, false, false, false, false, false, false] 10 = true
  f11 : anyB .any ops #[true, true, true, true, true, true, true, true, true, true, true, false, false, false, false, false, false, false, false] #[true, true, true, true, true, true, true, true, true, true, true, true, false, false, false, false, false, false, false] 11 = true
  f12 : anyB .any ops #[true, true, true, true, true, true, true, true, true, true, true, true, false, false, false, false, false, false, false] #[true, true, true, true, true, true, true, true, true, true, true, true, true, false, false, false, false, false, false] 12 = true
  f13 : anyB .any ops #[true, true, true, true, true, true, true, true, true, true, true, true, true, false, false, false, false, false, false] #[true, true, true, true, true, true, true, true, true, true, true, true, true, true, false, false, false, false, false] 13 = true
  f14 : takeB .any ops [] #[true, true, true, true, true, true, true, true, true, true, true, true, true, true, false, false, false, false, false] #[true, true, true, true, true, true, true, true, true, true, true, true, true, true, true, false, false, false, false] 14 = true
  f15 : readyB .any ops #[true, true, true, true, true, true, true, true, true, true, true, true, true, true, true, false, false, false, false] #[true, true, true, true, true, true, true, true, true, true, true, true, true, true, true, true, false, false, false] 15 = true
  f16 : anyB .any ops #[true, true, true, true, true, true, true, true, true, true, true, true, true, true, true, true, false, false, false] #[true, true, true, true, true, true, true, true, true, true, true, true, true, true, true, true, true, false, false] 16 = true
  f17 : anyB .any ops #[true, true, true, true, true, true, true, true, true, true, true, true, true, true, true, true, true, false, false] #[true, true, true, true, true, true, true, true, true, true, true, true, true, true, true, true, true, true, false] 17 = true
  f18 : anyB .any ops #[true, true, true, true, true, true, true, true, true, true, true, true, true, true, true, true, true, true, false] #[true, true, true, true, true, true, true, true, true, true, true, true, true, true, true, true, true, true, true] 18 = true
  f19 : (Region.ready .any ops #[true, true, true, true, true, true, true, true, true, true, true, true, true, true, true, true, true, true, true] == []) = true
structure heads9Chk (ops : Array Oper) : Prop where
  f0 : anyB .any ops #[false, false, false, false, false, false, false, false, false] #[true, false, false, false, false, false, false, false, false] 0 = true
  f1 : anyB .any ops #[true, false, false, false, false, false, false, false, false] #[true, true, false, false, false, false, false, false, false] 1 = true
  f2 : anyB .any ops #[true, true, false, false, false, false, false, false, false] #[true, true, true, false, false, false, false, false, false] 2 = true
  f3 : takeB .any ops [8] #[true, true, true, false, false, false, false, false, false] #[true, true, true, true, false, false, false, false, false] 3 = true
  f4 : anyB .any ops #[true, true, true, true, false, false, false, false, false] #[true, true, true, true, true, false, false, false, false] 4 = true
  f5 : takeB .any ops [8] #[true, true, true, true, true, false, false, false, false] #[true, true, true, true, true, true, false, false, false] 5 = true
  f6 : takeB .any ops [8] #[true, true, true, true, true, true, false, false, false] #[true, true, true, true, true, true, true, false, false] 6 = true
  f7 : anyB .any ops #[true, true, true, true, true, true, true, false, false] #[true, true, true, true, true, true, true, true, false] 7 = true
  f8 : readyB .any ops #[true, true, true, true, true, true, true, true, false] #[true, true, true, true, true, true, true, true, true] 8 = true
  f9 : (Region.ready .any ops #[true, true, true, true, true, true, true, true, true] == []) = true
structure heads12iChk (ops : Array Oper) : Prop where
  f0 : anyB .any ops #[false, false, false, false, false, false, false, false, false, false, false, false, false] #[false, true, false, false, false, false, false, false, false, false, false, false, false] 1 = true
  f1 : takeB .any ops [] #[false, true, false, false, false, false, false, false, false, false, false, false, false] #[false, true, true, false, false, false, false, false, false, false, false, false, false] 2 = true
  f2 : readyB .any ops #[false, true, true, false, false, false, false, false, false, false, false, false, false] #[true, true, true, false, false, false, false, false, false, false, false, false, false] 0 = true
  f3 : readyB .any ops #[true, true, true, false, false, false, false, false, false, false, false, false, false] #[true, true, true, true, false, false, false, false, false, false, false, false, false] 3 = true
  f4 : anyB .any ops #[true, true, true, true, false, false, false, false, false, false, false, false, false] #[true, true, true, true, true, false, false, false, false, false, false, false, false] 4 = true
  f5 : anyB .any ops #[true, true, true, true, true, false, false, false, false, false, false, false, false] #[true, true, true, true, true, true, false, false, false, false, false, false, false] 5 = true
  f6 : anyB .any ops #[true, true, true, true, true, true, false, false, false, false, false, false, false] #[true, true, true, true, true, true, true, false, false, false, false, false, false] 6 = true
  f7 : anyB .any ops #[true, true, true, true, true, true, true, false, false, false, false, false, false] #[true, true, true, true, true, true, true, true, false, false, false, false, false] 7 = true
  f8 : takeB .any ops [] #[true, true, true, true, true, true, true, true, false, false, false, false, false] #[true, true, true, true, true, true, true, true, true, false, false, false, false] 8 = true
  f9 : takeB .any ops [] #[true, true, true, true, true, true, true, true, true, false, false, false, false] #[true, true, true, true, true, true, true, true, true, true, false, false, false] 9 = true
  f10 : anyB .any ops #[true, true, true, true, true, true, true, true, true, true, false, false, false] #[true, true, true, true, true, true, true, true, true, true, true, false, false] 10 = true
  f11 : anyB .any ops #[true, true, true, true, true, true, true, true, true, true, true, false, false] #[true, true, true, true, true, true, true, true, true, true, true, true, false] 11 = true
  f12 : anyB .any ops #[true, true, true, true, true, true, true, true, true, true, true, true, false] #[true, true, true, true, true, true, true, true, true, true, true, true, true] 12 = true
  f13 : (Region.ready .any ops #[true, true, true, true, true, true, true, true, true, true, true, true, true] == []) = true
structure heads12oChk (ops : Array Oper) : Prop where
  f0 : anyB .any ops #[false, false, false, false, false, false, false, false, false, false, false, false, false] #[false, true, false, false, false, false, false, false, false, false, false, false, false] 1 = true
  f1 : takeB .any ops [] #[false, true, false, false, false, false, false, false, false, false, false, false, false] #[false, true, true, false, false, false, false, false, false, false, false, false, false] 2 = true
  f2 : readyB .any ops #[false, true, true, false, false, false, false, false, false, false, false, false, false] #[true, true, true, false, false, false, false, false, false, false, false, false, false] 0 = true
  f3 : readyB .any ops #[true, true, true, false, false, false, false, false, false, false, false, false, false] #[true, true, true, true, false, false, false, false, false, false, false, false, false] 3 = true
  f4 : anyB .any ops #[true, true, true, true, false, false, false, false, false, false, false, false, false] #[true, true, true, true, true, false, false, false, false, false, false, false, false] 4 = true
  f5 : anyB .any ops #[true, true, true, true, true, false, false, false, false, false, false, false, false] #[true, true, true, true, true, true, false, false, false, false, false, false, false] 5 = true
  f6 : anyB .any ops #[true, true, true, true, true, true, false, false, false, false, false, false, false] #[true, true, true, true, true, true, true, false, false, false, false, false, false] 6 = true
  f7 : anyB .any ops #[true, true, true, true, true, true, true, false, false, false, false, false, false] #[true, true, true, true, true, true, true, true, false, false, false, false, false] 7 = true
  f8 : anyB .any ops #[true, true, true, true, true, true, true, true, false, false, false, false, false] #[true, true, true, true, true, true, true, true, true, false, false, false, false] 8 = true
  f9 : anyB .any ops #[true, true, true, true, true, true, true, true, true, false, false, false, false] #[true, true, true, true, true, true, true, true, true, true, false, false, false] 9 = true
  f10 : anyB .any ops #[true, true, true, true, true, true, true, true, true, true, false, false, false] #[true, true, true, true, true, true, true, true, true, true, true, false, false] 10 = true
  f11 : anyB .any ops #[true, true, true, true, true, true, true, true, true, true, true, false, false] #[true, true, true, true, true, true, true, true, true, true, true, true, false] 11 = true
  f12 : anyB .any ops #[true, true, true, true, true, true, true, true, true, true, true, true, false] #[true, true, true, true, true, true, true, true, true, true, true, true, true] 12 = true
  f13 : (Region.ready .any ops #[true, true, true, true, true, true, true, true, true, true, true, true, true] == []) = true
end Go.Proofs.Ytdiadmlgeojefaa.A
namespace Go.Proofs.Ytdiadmlgeojefaa.A
open Go.RowKit Go.Proofs.YtdiadmlgeojefaaW.PrintWords Go.Proofs.YtdiadmlgeojefaaW.PrintLast Go.Proofs.YtdiadmlgeojefaaW.PrintMore
set_option linter.unusedVariables false
set_option linter.unusedSimpArgs false
theorem CkAt.on {w0 W W1 : World} {g bm : Nat} {ks : List ByteArray} {on on' : ByteArray} {f : Ft} (h : CkAt w0 W g bm ks on f) (hg : W.grownBy W1 (some g)) (hb : W1.heap[g]? = some (.cells ((ckc bm on f).take 1 ++ [Value.string on'] ++ (ckc bm on f).drop (1 + 1)).toArray 88 (0, 0))) : CkAt w0 W1 g bm ks on' f :=
  ⟨hb, h.map.grown hg (by simpa using h.ne), h.ge, h.geM, pw_below_grown h.bel _ h.bel.size hg (by intro k hk; injection hk with hk; have := h.ge; omega)⟩
end Go.Proofs.Ytdiadmlgeojefaa.A
namespace Go.Proofs.Ytdiadmlgeojefaa.A
open Go.RowKit Go.Proofs.YtdiadmlgeojefaaW.PrintWords Go.Proofs.YtdiadmlgeojefaaW.PrintLast Go.Proofs.YtdiadmlgeojefaaW.PrintMore
attribute [local go_sem] max2_int min2_int max_two min_two max_three min_three max_four min_four   -- for this text's walks alone
set_option linter.unusedVariables false
set_option linter.unusedSimpArgs false
def podestaref15_Known.f (k : Nat) (a0 : ByteArray) (a1 : ByteArray) : Option (Bool) := (podestaref01_Field.f k a1).bind fun bt488 => (if a0.toList = ([112, 97, 99, 107, 101, 116] : List UInt8) then (if bt488.2 = true then (some true) else (if a1.toList = ([117, 110, 105, 116] : List UInt8) then (some true) else (if a1.toList = ([112, 111, 114, 116] : List UInt8) then (some true) else (if a0.toList = ([114, 101, 109, 111, 118, 101, 100] : List UInt8) then (some (a1.toList == ([117, 110, 105, 116] : List UInt8))) else (some false))))) else (if a0.toList = ([114, 101, 109, 111, 118, 101, 100] : List UInt8) then (some (a1.toList == ([117, 110, 105, 116] : List UInt8))) else (some false)))
theorem podestaref15_Known.mono : ∀ a0 a1 k, LeO (podestaref15_Known.f k a0 a1) (podestaref15_Known.f (k + 1) a0 a1) := by
  intro a0 a1 k
  unfold podestaref15_Known.f
  repeat' first
      | (with_reducible exact podestaref01_Field.mono _ _)
      | (with_reducible exact LeO.refl _)
      | (with_reducible exact LeO.none _)
      | (with_reducible refine LeO.ite ?_ ?_)
      | (with_reducible refine LeO.bind ?_ (fun _ => ?_))
      | exact podestaref01_Field.mono _ _
      | exact LeO.none _
      | refine LeO.ite ?_ ?_
      | refine LeO.bind ?_ (fun _ => ?_)
set_option maxHeartbeats 8000000 in
set_option maxRecDepth 100000 in
theorem podestaref15_Known.calls (k : Nat) (a0 : ByteArray) (a1 : ByteArray) (r : Bool) (w : World) (h : podestaref15_Known.f k a0 a1 = some r) :
    Calls Try.prog 16 #[.string a0, .string a1] w fun e w' => e = .returned (.bool r) ∧ Below w.heap.size w w' := by
  have HB := Aside0.mk (Below.refl w.heap.size w)
  have H : ((podestaref01_Field.f k a1).bind fun bt488 => (if a0.toList = ([112, 97, 99, 107, 101, 116] : List UInt8) then (if bt488.2 = true then (some true) else (if a1.toList = ([117, 110, 105, 116] : List UInt8) then (some true) else (if a1.toList = ([112, 111, 114, 116] : List UInt8) then (some true) else (if a0.toList = ([114, 101, 109, 111, 118, 101, 100] : List UInt8) then (some (a1.toList == ([117, 110, 105, 116] : List UInt8))) else (some false))))) else (if a0.toList = ([114, 101, 109, 111, 118, 101, 100] : List UInt8) then (some (a1.toList == ([117, 110, 105, 116] : List UInt8))) else (some false)))) = some r := h
  clear h
  replace H := Option.bind_eq_some_iff.mp H
  obtain ⟨⟨t488, t489⟩, A30, H⟩ := H
  replace H : (if a0.toList = ([112, 97, 99, 107, 101, 116] : List UInt8) then (if t489 = true then (some true) else (if a1.toList = ([117, 110, 105, 116] : List UInt8) then (some true) else (if a1.toList = ([112, 111, 114, 116] : List UInt8) then (some true) else (if a0.toList = ([114, 101, 109, 111, 118, 101, 100] : List UInt8) then (some (a1.toList == ([117, 110, 105, 116] : List UInt8))) else (some false))))) else (if a0.toList = ([114, 101, 109, 111, 118, 101, 100] : List UInt8) then (some (a1.toList == ([117, 110, 105, 116] : List UInt8))) else (some false))) = some r := H
  have A3 := Aside0.mk A30
  clear A30
  by_cases c4 : a0.toList = ([112, 97, 99, 107, 101, 116] : List UInt8)
  · rw [if_pos c4] at H
    have c4b0 : (a0.toList == ([112, 97, 99, 107, 101, 116] : List UInt8)) = true := beq_iff_eq.mpr c4
    have c4b1 : (a0.toList != ([112, 97, 99, 107, 101, 116] : List UInt8)) = false := bne_eq_false_iff_eq.mpr c4
    clear c4
    by_cases c5 : t489 = true
    · subst c5
      have H1 : (some true) = some r := by rw [if_pos rfl] at H; exact H
      clear H
      have H := H1
      clear H1
      obtain rfl := Option.some.inj H
      go_enter Try.func16, Try.ntmps16
      go_wp2_with (first | ((with_reducible refine gate_callee (f := 30) rfl ?_); refine goesL_ (some 9) rfl rfl Try.func30 (by kernel_rfl) rfl #[.string a1] rfl (by (try simp only [List.map_toArray, List.map_cons, List.map_nil]); first | done | rfl | (simp only [List.length_drop, List.length_take]; rfl)) ?_; (with_reducible refine (podestaref01_Field.calls k a1 t488 true _ A3.out).mono ?_); rintro e w6 ⟨rfl, hb⟩; refine ⟨_, rfl, ?_⟩; have n0_ := Aside0.mk (below_step (by repeat (first | (with_reducible first | exact HB.out | apply below_alloc | apply pw_below_drewN | apply below_drew1) | exact HB.out)) hb); clear HB; have HB := n0_; clear n0_; (try clear hb); (try clear hb2); (try clear hk); (try clear hi)))
      go_ret
      exact ⟨by first | rfl | (simp [errW_none, errW_some] <;> rfl) | (simp [*, errW_none, errW_some] <;> rfl), by repeat (first | (with_reducible first | exact HB.out | apply below_alloc | apply pw_below_drewN | apply below_drew1) | exact HB.out)⟩
    · replace c5 := Bool.eq_false_iff.mpr c5
      subst c5
      have H1 : (if a1.toList = ([117, 110, 105, 116] : List UInt8) then (some true) else (if a1.toList = ([112, 111, 114, 116] : List UInt8) then (some true) else (if a0.toList = ([114, 101, 109, 111, 118, 101, 100] : List UInt8) then (some (a1.toList == ([117, 110, 105, 116] : List UInt8))) else (some false)))) = some r := by rw [if_neg (show ¬ (false = true) by decide)] at H; exact H
      clear H
      have H := H1
      clear H1
      by_cases c7 : a1.toList = ([117, 110, 105, 116] : List UInt8)
      · rw [if_pos c7] at H
        have c7b0 : (a1.toList == ([117, 110, 105, 116] : List UInt8)) = true := beq_iff_eq.mpr c7
        have c7b1 : (a1.toList != ([117, 110, 105, 116] : List UInt8)) = false := bne_eq_false_iff_eq.mpr c7
        clear c7
        obtain rfl := Option.some.inj H
        go_enter Try.func16, Try.ntmps16
        go_wp2_with (first | ((with_reducible refine gate_callee (f := 30) rfl ?_); refine goesL_ (some 9) rfl rfl Try.func30 (by kernel_rfl) rfl #[.string a1] rfl (by (try simp only [List.map_toArray, List.map_cons, List.map_nil]); first | done | rfl | (simp only [List.length_drop, List.length_take]; rfl)) ?_; (with_reducible refine (podestaref01_Field.calls k a1 t488 false _ A3.out).mono ?_); rintro e w8 ⟨rfl, hb⟩; refine ⟨_, rfl, ?_⟩; have n0_ := Aside0.mk (below_step (by repeat (first | (with_reducible first | exact HB.out | apply below_alloc | apply pw_below_drewN | apply below_drew1) | exact HB.out)) hb); clear HB; have HB := n0_; clear n0_; (try clear hb); (try clear hb2); (try clear hk); (try clear hi)))
        go_ret
        exact ⟨by first | rfl | (simp [errW_none, errW_some] <;> rfl) | (simp [*, errW_none, errW_some] <;> rfl), by repeat (first | (with_reducible first | exact HB.out | apply below_alloc | apply pw_below_drewN | apply below_drew1) | exact HB.out)⟩
      · rw [if_neg c7] at H
        have c7b0 : (a1.toList == ([117, 110, 105, 116] : List UInt8)) = false := beq_eq_false_iff_ne.mpr c7
        have c7b1 : (a1.toList != ([117, 110, 105, 116] : List UInt8)) = true := bne_iff_ne.mpr c7
        by_cases c9 : a1.toList = ([112, 111, 114, 116] : List UInt8)
        · rw [if_pos c9] at H
          have c9b0 : (a1.toList == ([112, 111, 114, 116] : List UInt8)) = true := beq_iff_eq.mpr c9
          have c9b1 : (a1.toList != ([112, 111, 114, 116] : List UInt8)) = false := bne_eq_false_iff_eq.mpr c9
          clear c9
          obtain rfl := Option.some.inj H
          go_enter Try.func16, Try.ntmps16
          go_wp2_with (first | ((with_reducible refine gate_callee (f := 30) rfl ?_); refine goesL_ (some 9) rfl rfl Try.func30 (by kernel_rfl) rfl #[.string a1] rfl (by (try simp only [List.map_toArray, List.map_cons, List.map_nil]); first | done | rfl | (simp only [List.length_drop, List.length_take]; rfl)) ?_; (with_reducible refine (podestaref01_Field.calls k a1 t488 false _ A3.out).mono ?_); rintro e w10 ⟨rfl, hb⟩; refine ⟨_, rfl, ?_⟩; have n0_ := Aside0.mk (below_step (by repeat (first | (with_reducible first | exact HB.out | apply below_alloc | apply pw_below_drewN | apply below_drew1) | exact HB.out)) hb); clear HB; have HB := n0_; clear n0_; (try clear hb); (try clear hb2); (try clear hk); (try clear hi)))
          go_ret
          exact ⟨by first | rfl | (simp [errW_none, errW_some] <;> rfl) | (simp [*, errW_none, errW_some] <;> rfl), by repeat (first | (with_reducible first | exact HB.out | apply below_alloc | apply pw_below_drewN | apply below_drew1) | exact HB.out)⟩
        · rw [if_neg c9] at H
          have c9b0 : (a1.toList == ([112, 111, 114, 116] : List UInt8)) = false := beq_eq_false_iff_ne.mpr c9
          have c9b1 : (a1.toList != ([112, 111, 114, 116] : List UInt8)) = true := bne_iff_ne.mpr c9
          by_cases c11 : a0.toList = ([114, 101, 109, 111, 118, 101, 100] : List UInt8)
          · rw [if_pos c11] at H
            have c11b0 : (a0.toList == ([114, 101, 109, 111, 118, 101, 100] : List UInt8)) = true := beq_iff_eq.mpr c11
            have c11b1 : (a0.toList != ([114, 101, 109, 111, 118, 101, 100] : List UInt8)) = false := bne_eq_false_iff_eq.mpr c11
            clear c11
            obtain rfl := Option.some.inj H
            go_enter Try.func16, Try.ntmps16
            go_wp2_with (first | ((with_reducible refine gate_callee (f := 30) rfl ?_); refine goesL_ (some 9) rfl rfl Try.func30 (by kernel_rfl) rfl #[.string a1] rfl (by (try simp only [List.map_toArray, List.map_cons, List.map_nil]); first | done | rfl | (simp only [List.length_drop, List.length_take]; rfl)) ?_; (with_reducible refine (podestaref01_Field.calls k a1 t488 false _ A3.out).mono ?_); rintro e w12 ⟨rfl, hb⟩; refine ⟨_, rfl, ?_⟩; have n0_ := Aside0.mk (below_step (by repeat (first | (with_reducible first | exact HB.out | apply below_alloc | apply pw_below_drewN | apply below_drew1) | exact HB.out)) hb); clear HB; have HB := n0_; clear n0_; (try clear hb); (try clear hb2); (try clear hk); (try clear hi)))
            go_ret
            exact ⟨by first | rfl | (simp [errW_none, errW_some] <;> rfl) | (simp [*, errW_none, errW_some] <;> rfl), by repeat (first | (with_reducible first | exact HB.out | apply below_alloc | apply pw_below_drewN | apply below_drew1) | exact HB.out)⟩
          · rw [if_neg c11] at H
            have c11b0 : (a0.toList == ([114, 101, 109, 111, 118, 101, 100] : List UInt8)) = false := beq_eq_false_iff_ne.mpr c11
            have c11b1 : (a0.toList != ([114, 101, 109, 111, 118, 101, 100] : List UInt8)) = true := bne_iff_ne.mpr c11
            obtain rfl := Option.some.inj H
            go_enter Try.func16, Try.ntmps16
            go_wp2_with (first | ((with_reducible refine gate_callee (f := 30) rfl ?_); refine goesL_ (some 9) rfl rfl Try.func30 (by kernel_rfl) rfl #[.string a1] rfl (by (try simp only [List.map_toArray, List.map_cons, List.map_nil]); first | done | rfl | (simp only [List.length_drop, List.length_take]; rfl)) ?_; (with_reducible refine (podestaref01_Field.calls k a1 t488 false _ A3.out).mono ?_); rintro e w13 ⟨rfl, hb⟩; refine ⟨_, rfl, ?_⟩; have n0_ := Aside0.mk (below_step (by repeat (first | (with_reducible first | exact HB.out | apply below_alloc | apply pw_below_drewN | apply below_drew1) | exact HB.out)) hb); clear HB; have HB := n0_; clear n0_; (try clear hb); (try clear hb2); (try clear hk); (try clear hi)))
            go_ret
            exact ⟨by first | rfl | (simp [errW_none, errW_some] <;> rfl) | (simp [*, errW_none, errW_some] <;> rfl), by repeat (first | (with_reducible first | exact HB.out | apply below_alloc | apply pw_below_drewN | apply below_drew1) | exact HB.out)⟩
  · rw [if_neg c4] at H
    have c4b0 : (a0.toList == ([112, 97, 99, 107, 101, 116] : List UInt8)) = false := beq_eq_false_iff_ne.mpr c4
    have c4b1 : (a0.toList != ([112, 97, 99, 107, 101, 116] : List UInt8)) = true := bne_iff_ne.mpr c4
    by_cases c14 : a0.toList = ([114, 101, 109, 111, 118, 101, 100] : List UInt8)
    · rw [if_pos c14] at H
      have c14b0 : (a0.toList == ([114, 101, 109, 111, 118, 101, 100] : List UInt8)) = true := beq_iff_eq.mpr c14
      have c14b1 : (a0.toList != ([114, 101, 109, 111, 118, 101, 100] : List UInt8)) = false := bne_eq_false_iff_eq.mpr c14
      clear c14
      obtain rfl := Option.some.inj H
      go_enter Try.func16, Try.ntmps16
      go_wp2_with (first | ((with_reducible refine gate_callee (f := 30) rfl ?_); refine goesL_ (some 9) rfl rfl Try.func30 (by kernel_rfl) rfl #[.string a1] rfl (by (try simp only [List.map_toArray, List.map_cons, List.map_nil]); first | done | rfl | (simp only [List.length_drop, List.length_take]; rfl)) ?_; (with_reducible refine (podestaref01_Field.calls k a1 t488 t489 _ A3.out).mono ?_); rintro e w15 ⟨rfl, hb⟩; refine ⟨_, rfl, ?_⟩; have n0_ := Aside0.mk (below_step (by repeat (first | (with_reducible first | exact HB.out | apply below_alloc | apply pw_below_drewN | apply below_drew1) | exact HB.out)) hb); clear HB; have HB := n0_; clear n0_; (try clear hb); (try clear hb2); (try clear hk); (try clear hi)))
      go_ret
      exact ⟨by first | rfl | (simp [errW_none, errW_some] <;> rfl) | (simp [*, errW_none, errW_some] <;> rfl), by repeat (first | (with_reducible first | exact HB.out | apply below_alloc | apply pw_below_drewN | apply below_drew1) | exact HB.out)⟩
    · rw [if_neg c14] at H
      have c14b0 : (a0.toList == ([114, 101, 109, 111, 118, 101, 100] : List UInt8)) = false := beq_eq_false_iff_ne.mpr c14
      have c14b1 : (a0.toList != ([114, 101, 109, 111, 118, 101, 100] : List UInt8)) = true := bne_iff_ne.mpr c14
      obtain rfl := Option.some.inj H
      go_enter Try.func16, Try.ntmps16
      go_wp2_with (first | ((with_reducible refine gate_callee (f := 30) rfl ?_); refine goesL_ (some 9) rfl rfl Try.func30 (by kernel_rfl) rfl #[.string a1] rfl (by (try simp only [List.map_toArray, List.map_cons, List.map_nil]); first | done | rfl | (simp only [List.length_drop, List.length_take]; rfl)) ?_; (with_reducible refine (podestaref01_Field.calls k a1 t488 t489 _ A3.out).mono ?_); rintro e w16 ⟨rfl, hb⟩; refine ⟨_, rfl, ?_⟩; have n0_ := Aside0.mk (below_step (by repeat (first | (with_reducible first | exact HB.out | apply below_alloc | apply pw_below_drewN | apply below_drew1) | exact HB.out)) hb); clear HB; have HB := n0_; clear n0_; (try clear hb); (try clear hb2); (try clear hk); (try clear hi)))
      go_ret
      exact ⟨by first | rfl | (simp [errW_none, errW_some] <;> rfl) | (simp [*, errW_none, errW_some] <;> rfl), by repeat (first | (with_reducible first | exact HB.out | apply below_alloc | apply pw_below_drewN | apply below_drew1) | exact HB.out)⟩
end Go.Proofs.Ytdiadmlgeojefaa.A
namespace Go.Proofs.Ytdiadmlgeojefaa.A
open Go.RowKit Go.Proofs.YtdiadmlgeojefaaW.PrintWords Go.Proofs.YtdiadmlgeojefaaW.PrintLast Go.Proofs.YtdiadmlgeojefaaW.PrintMore
set_option linter.unusedVariables false
set_option linter.unusedSimpArgs false
end Go.Proofs.Ytdiadmlgeojefaa.A
namespace Go.Proofs.Ytdiadmlgeojefaa.A
open Go.RowKit Go.Proofs.YtdiadmlgeojefaaW.PrintWords Go.Proofs.YtdiadmlgeojefaaW.PrintLast Go.Proofs.YtdiadmlgeojefaaW.PrintMore
set_option linter.unusedVariables false
set_option linter.unusedSimpArgs false
theorem N65_cells {W : World} {e base : Nat} {ok : Nat → Prop} {v : Value} {xs : List S65} (h : Kd.N k65 e W base ok v xs) (hn : 0 < xs.length) : ∃ b c, v = .slice (some ⟨b, 0, none⟩) xs.length c ∧ ∀ j z, xs[j]? = some z → W.cell? ⟨b, 2 * j, none⟩ = some (.string z.f0) ∧ W.cell? ⟨b, 2 * j + 1, none⟩ = some (.int .i64 z.f1) := by
  obtain ⟨b, c, e0, _⟩ := Kd.N_form h hn
  subst e0
  refine ⟨b, c, rfl, fun j z hj => ?_⟩
  have hlt := (List.getElem?_eq_some_iff.1 hj).1
  obtain ⟨cs, hcl, hFK, hcc, _⟩ := Kd.N_elem h z65 (j : Int) (by omega) (by omega)
  have hcs := k65_open (Kd.FK_now hFK)
  have e1 : xs.getD (j : Int).toNat z65 = z := by
    have h2 := (List.getElem?_eq_some_iff.1 hj).2
    simp [hlt, h2]
  rw [e1] at hcs
  subst hcs
  have h0 := hcc 0 _ rfl
  have h1 := hcc 1 _ rfl
  have e2 : ((j : Int).toNat * k65.sz) = 2 * j := by
    show j * 2 = 2 * j
    omega
  rw [e2] at h0 h1
  exact ⟨h0, h1⟩
def RunOk (w : World) (xs : List S65) (nx : Nat) (e : Ending) (w' : World) : Prop := ∃ bv cv Ao co, e = .returned (.tuple #[.slice (some ⟨bv, 0, none⟩) nx cv, .slice Ao 0 co, .int .i64 0]) ∧ Below w.heap.size w w' ∧ ∀ j z, xs[j]? = some z → w'.cell? ⟨bv, 2 * j, none⟩ = some (.string z.f0) ∧ w'.cell? ⟨bv, 2 * j + 1, none⟩ = some (.int .i64 z.f1)
def RunNo (w : World) (n : Int) (e : Ending) (w' : World) : Prop := e = .returned (.tuple #[.slice none 0 0, .slice none 0 0, .int .i64 n]) ∧ Below w.heap.size w w'
def noA : Nat → Sg → S29 → Option Sg := fun _ _ _ => none
def noT : Nat → Int → Int → Sg → S29 → Option Sg := fun _ _ _ _ _ => none
def stm0 (k : Nat) : Sg → List S29 → Option Sg := stmtsP (stmtP noA noT k)
theorem stm0_sh (k : Nat) : StmsF 42 (stm0 k) := stmts_shows (stmtP_sh (fun _ _ _ _ _ _ _ _ _ _ _ h => by cases h) (fun _ _ _ _ _ _ _ _ _ _ _ _ _ h => by cases h) k)
section
variable {k : Nat} {w : World} {ok : Nat → Prop} {T : S29} {v0 : Value} {xs xs1 : List S65} {A1 : Option Addr} {c1 nx : Nat} {m : Mst} {s1 : Sg}
theorem run_ok (hV : VK w ok v0 T.f3) (hC : Kd.C k65 w A1 xs.length xs) (hc1 : xs.length ≤ c1) (hl : xs.length < 5864062014805) (h12 : m.hd.length = 12) (h : runP (stm0 k) xs m T = some s1) (he : s1.m.e = 0) (hx : s1.xs = xs1) (hd : s1.ds = []) (hn : xs1.length = nx) (h0 : 0 < nx) :
    Calls Try.prog 22 #[.agg (nc T v0).toArray, .slice A1 xs.length c1, .agg (evc m).toArray, .int .i64 m.ow, .int .i64 m.fu] w (RunOk w xs1 nx) := by
  refine (run_calls (stm0_sh k) hV hC hc1 hl h12 h).mono ?_
  rintro e w' ⟨vv, ov, rfl, hb, _, hok⟩
  obtain ⟨hN, okd, _, hD⟩ := hok he
  rw [hx] at hN
  rw [hd] at hD
  subst hn
  obtain ⟨bv, cv, e0, hc⟩ := N65_cells hN h0
  obtain ⟨Ao, co, e1⟩ := Kd.N_slice hD
  subst e0 e1
  exact ⟨bv, cv, Ao, co, by rw [he]; rfl, hb, hc⟩
theorem run_no {n : Int} (hV : VK w ok v0 T.f3) (hC : Kd.C k65 w A1 xs.length xs) (hc1 : xs.length ≤ c1) (hl : xs.length < 5864062014805) (h12 : m.hd.length = 12) (h : runP (stm0 k) xs m T = some s1) (he : s1.m.e = n) (hn : n ≠ 0) :
    Calls Try.prog 22 #[.agg (nc T v0).toArray, .slice A1 xs.length c1, .agg (evc m).toArray, .int .i64 m.ow, .int .i64 m.fu] w (RunNo w n) := by
  refine (run_calls (stm0_sh k) hV hC hc1 hl h12 h).mono ?_
  rintro e w' ⟨vv, ov, rfl, hb, hno, _⟩
  subst he
  obtain ⟨rfl, rfl⟩ := hno hn
  exact ⟨rfl, hb⟩
end
def tickM (fu : Int) : Mst := ⟨⟨#[116, 105, 99, 107]⟩, 0, 0, [0, 0, 0, 0, 0, 0, 0, 0, 0, 0, 0, 0], 1, fu, 0⟩
section
variable {o : Oper} {a : Act} {x y z : Operand}
theorem run_build42 (ho : o.op = .build 42 #[(0, .const (.string ⟨#[116, 105, 99, 107]⟩))]) (fu : Int) : ∀ w, (execOp a.eval o).run Try.prog w = .ok (.value (.agg (evc (tickM fu)).toArray)) w := by
  intro w
  have h0 : a.eval (.const (.string ⟨#[116, 105, 99, 107]⟩)) = .string ⟨#[116, 105, 99, 107]⟩ := rfl
  generalize a.eval = ev at h0
  unfold execOp
  simp only [ho, List.map_toArray, List.map_cons, List.map_nil, h0]
  first | (go_simp; done) | (go_simp; rfl) | rfl
theorem run_ext0 (ho : o.op = .extract x 0) {u v t : Value} (hx : a.eval x = .tuple #[u, v, t]) : ∀ w, (execOp a.eval o).run Try.prog w = .ok (.value u) w := by
  intro w
  generalize a.eval = ev at hx
  unfold execOp
  simp only [ho, hx]
  first | (go_simp; done) | (go_simp; rfl) | rfl
theorem run_ext1 (ho : o.op = .extract x 1) {u v t : Value} (hx : a.eval x = .tuple #[u, v, t]) : ∀ w, (execOp a.eval o).run Try.prog w = .ok (.value v) w := by
  intro w
  generalize a.eval = ev at hx
  unfold execOp
  simp only [ho, hx]
  first | (go_simp; done) | (go_simp; rfl) | rfl
theorem run_ext2 (ho : o.op = .extract x 2) {u v t : Value} (hx : a.eval x = .tuple #[u, v, t]) : ∀ w, (execOp a.eval o).run Try.prog w = .ok (.value t) w := by
  intro w
  generalize a.eval = ev at hx
  unfold execOp
  simp only [ho, hx]
  first | (go_simp; done) | (go_simp; rfl) | rfl
end
def txA : ByteArray := ⟨#[118, 97, 114, 32, 120, 32, 61, 32, 49, 59, 32, 111, 110, 32, 116, 105, 99, 107, 32, 123, 32, 120, 32, 61, 32, 120, 32, 43, 32, 49, 59, 32, 125]⟩
def trA : S29 := ⟨1, ⟨#[]⟩, 0, [⟨2, ⟨#[120]⟩, 1, [], 0⟩, ⟨3, ⟨#[116, 105, 99, 107]⟩, 0, [⟨4, ⟨#[120]⟩, 0, [⟨20, ⟨#[43]⟩, 0, [⟨19, ⟨#[120]⟩, 0, [], 25⟩, ⟨18, ⟨#[]⟩, 1, [], 29⟩], 25⟩], 21⟩], 11⟩], 0⟩
theorem trA_ok : parse_ 1000 100 txA = some (trA, 0, 0) := by kernel_rfl
theorem iniA : eval_Init.f 10 trA.f0 trA.f1 trA.f2 trA.f3 trA.f4 = some [⟨⟨#[120]⟩, 1⟩] := by kernel_rfl
theorem runA : runP (stm0 20) [⟨⟨#[120]⟩, 1⟩] (tickM 100) trA = some ⟨tickM 96, [⟨⟨#[120]⟩, 2⟩], []⟩ := by kernel_rfl
end Go.Proofs.Ytdiadmlgeojefaa.A
namespace Go.Proofs.Ytdiadmlgeojefaa.A
open Go.RowKit Go.Proofs.YtdiadmlgeojefaaW.PrintWords Go.Proofs.YtdiadmlgeojefaaW.PrintLast Go.Proofs.YtdiadmlgeojefaaW.PrintMore
set_option linter.unusedVariables false
set_option linter.unusedSimpArgs false
structure ansR2Chk (ops : Array Oper) : Prop where
  f0 : takeB .any ops [] #[false, false, false, false, false, false, false, false, false, false, false, false] #[true, false, false, false, false, false, false, false, false, false, false, false] 0 = true
  f1 : takeB .any ops [] #[true, false, false, false, false, false, false, false, false, false, false, false] #[true, true, false, false, false, false, false, false, false, false, false, false] 1 = true
  f2 : anyB .any ops #[true, true, false, false, false, false, false, false, false, false, false, false] #[true, true, false, true, false, false, false, false, false, false, false, false] 3 = true
  f3 : readyB .any ops #[true, true, false, true, false, false, false, false, false, false, false, false] #[true, true, true, true, false, false, false, false, false, false, false, false] 2 = true
  f4 : readyB .any ops #[true, true, true, true, false, false, false, false, false, false, false, false] #[true, true, true, true, true, false, false, false, false, false, false, false] 4 = true
  f5 : anyB .any ops #[true, true, true, true, true, false, false, false, false, false, false, false] #[true, true, true, true, true, true, false, false, false, false, false, false] 5 = true
  f6 : anyB .any ops #[true, true, true, true, true, true, false, false, false, false, false, false] #[true, true, true, true, true, true, true, false, false, false, false, false] 6 = true
  f7 : anyB .any ops #[true, true, true, true, true, true, true, false, false, false, false, false] #[true, true, true, true, true, true, true, true, false, false, false, false] 7 = true
  f8 : anyB .any ops #[true, true, true, true, true, true, true, true, false, false, false, false] #[true, true, true, true, true, true, true, true, true, false, false, false] 8 = true
  f9 : anyB .any ops #[true, true, true, true, true, true, true, true, true, false, false, false] #[true, true, true, true, true, true, true, true, true, true, false, false] 9 = true
  f10 : anyB .any ops #[true, true, true, true, true, true, true, true, true, true, false, false] #[true, true, true, true, true, true, true, true, true, true, true, false] 10 = true
  f11 : anyB .any ops #[true, true, true, true, true, true, true, true, true, true, true, false] #[true, true, true, true, true, true, true, true, true, true, true, true] 11 = true
  f12 : (Region.ready .any ops #[true, true, true, true, true, true, true, true, true, true, true, true] == []) = true
set_option maxHeartbeats 1000000 in
theorem ansR2 {ops : Array Oper} {id : Nat} {Q : Exit → Act → World → Prop} {a : Act} {W : World} {b1 c : Nat} {T : S29} {A : Option Addr} {ok : Nat → Prop} (hb1 : W.heap[b1]? = some (.cells (nc T (.slice A T.f3.length c)).toArray 29 (0, 0))) (hV : VK W ok (.slice A T.f3.length c) T.f3) {xs xs1 : List S65} {nx k : Nat} {s1 : Sg} (hi : eval_Init.f 10 T.f0 T.f1 T.f2 T.f3 T.f4 = some xs)
    (hr : runP (stm0 k) xs (tickM 100) T = some s1) (he : s1.m.e = 0) (hx : s1.xs = xs1) (hd : s1.ds = []) (hn : xs1.length = nx) (hp : 0 < nx) (hl : xs.length < 5864062014805)
    {o0 o1 o2 o3 o4 o5 o6 o7 o8 o9 o10 o11 : Oper} (hsize : ops.size = 12) (h0 : ops[0]? = some o0) (h1 : ops[1]? = some o1) (h2 : ops[2]? = some o2) (h3 : ops[3]? = some o3) (h4 : ops[4]? = some o4) (h5 : ops[5]? = some o5) (h6 : ops[6]? = some o6) (h7 : ops[7]? = some o7) (h8 : ops[8]? = some o8) (h9 : ops[9]? = some o9) (h10 : ops[10]? = some o10) (h11 : ops[11]? = some o11)
    (g0 : o0.guard = none ∧ o0.dst = some 11) (g1 : o1.guard = none ∧ o1.dst = some 12) (g2 : o2.guard = none ∧ o2.dst = some 13) (g3 : o3.guard = none ∧ o3.dst = some 14) (g4 : o4.guard = none ∧ o4.dst = some 15) (g5 : o5.guard = none ∧ o5.dst = some 10) (g6 : o6.guard = none ∧ o6.dst = some 16) (g7 : o7.guard = none ∧ o7.dst = some 17) (g8 : o8.guard = none ∧ o8.dst = some 18) (g9 : o9.guard = none ∧ o9.dst = some 3) (g10 : o10.guard = none ∧ o10.dst = some 4) (g11 : o11.guard = none ∧ o11.dst = some 5)
    (p0 : o0.op = .load 29 (.tmp 1)) (p1 : o1.op = .load 29 (.tmp 1)) (p2 : o2.op = .call { callee := .value (.func 26), args := #[.tmp 12], argTypes := #[29] }) (p3 : o3.op = .build 42 #[(0, (.const (.string { data := #[116, 105, 99, 107] })))]) (p4 : o4.op = .call { callee := .value (.func 22), args := #[.tmp 11, .tmp 13, .tmp 14, .const (.int .i64 1), .const (.int .i64 100)], argTypes := #[29, 45, 42, 3, 3] }) (p5 : o5.op = .move (.tmp 15)) (p6 : o6.op = .extract (.tmp 10) 0) (p7 : o7.op = .extract (.tmp 10) 1) (p8 : o8.op = .extract (.tmp 10) 2) (p9 : o9.op = .assign (.tmp 16)) (p10 : o10.op = .assign (.tmp 17)) (p11 : o11.op = .assign (.tmp 18))
    
    (hsz : a.tmps.size = 50) (v1 : a.eval (.tmp 1) = .pointer (some ⟨b1, 0, none⟩)) (hc : ansR2Chk ops)
    (hQ : ∀ (d : Tmp) v c a w, Q (.panic c) (Act.put a (some d) v) w → Q (.panic c) a w)
    (hpost : ∀ (A2 : Option Addr) (c2 bv cv : Nat) (Ao : Option Addr) (co : Nat) W', Below W.heap.size W W' → (∀ j z, xs1[j]? = some z → W'.cell? ⟨bv, 2 * j, none⟩ = some (.string z.f0) ∧ W'.cell? ⟨bv, 2 * j + 1, none⟩ = some (.int .i64 z.f1)) → Q .normal ((((((((((((a.put (some 11) (.agg (nc T (.slice A T.f3.length c)).toArray)).put (some 12) (.agg (nc T (.slice A T.f3.length c)).toArray)).put (some 14) (.agg (evc (tickM 100)).toArray)).put (some 13) (.slice A2 xs.length c2)).put (some 15) (.tuple #[.slice (some ⟨bv, 0, none⟩) nx cv, .slice Ao 0 co, .int .i64 0])).put (some 10) (.tuple #[.slice (some ⟨bv, 0, none⟩) nx cv, .slice Ao 0 co, .int .i64 0])).put (some 16) (.slice (some ⟨bv, 0, none⟩) nx cv)).put (some 17) (.slice Ao 0 co)).put (some 18) (.int .i64 0)).put (some 3) (.slice (some ⟨bv, 0, none⟩) nx cv)).put (some 4) (.slice Ao 0 co)).put (some 5) (.int .i64 0)) W') :
    (Code.region id ops true).wp Try.prog Q a W := by
  refine start_ (n := 12) (S := fun w' => w'.heap[b1]? = some (.cells (nc T (.slice A T.f3.length c)).toArray 29 (0, 0))) (ds := []) #[false, false, false, false, false, false, false, false, false, false, false, false] (by kernel_rfl) hsize rfl hb1 (fun hS2 => ?_)
  refine take_ (i := 0) (N := some 11) (v := (.agg (nc T (.slice A T.f3.length c)).toArray)) #[true, false, false, false, false, false, false, false, false, false, false, false] h0 g0.2 hc.f0 (fun c a w => by rw [g0.2]; exact hQ _ _ c a w) (Or.inl ⟨(by simp [Region.wanted, g0.1]), fun w9 hw9 => run_load29 p0 (by rw [v1]) hw9⟩) hS2 rfl ?_
  refine take_ (i := 1) (N := some 12) (v := (.agg (nc T (.slice A T.f3.length c)).toArray)) #[true, true, false, false, false, false, false, false, false, false, false, false] h1 g1.2 hc.f1 (fun c a w => by rw [g1.2]; exact hQ _ _ c a w) (Or.inl ⟨(by simp [Region.wanted, g1.1]), fun w9 hw9 => run_load29 p1 (by rw [act_ne _ _ (by decide), v1]) hw9⟩) hS2 rfl ?_
  refine pure_ (i := 3) (N := some 14) (v := (.agg (evc (tickM 100)).toArray)) #[true, true, false, true, false, false, false, false, false, false, false, false] h3 g3.2 hc.f2 (fun c a w => by rw [g3.2]; exact hQ _ _ c a w) (Or.inl ⟨(by simp [Region.wanted, g3.1]), run_build42 p3 100⟩) rfl ?_
  refine YtdiadmlgeojefaaW.PrintLast.one_ (i := 2) (N := some 13) #[true, true, true, true, false, false, false, false, false, false, false, false] h2 g2.2 hc.f3 (by decide) (fun K hK => goes_ (f := 26) (fn := Try.f26) Try.func26 (by kernel_rfl) rfl #[.agg (nc T (.slice A T.f3.length c)).toArray] (by simp [Region.wanted, g2.1]) g2.2 p2 ?_ ?_)
  · simp only [List.map_toArray, List.map_cons, List.map_nil]
    rw [act_ne _ _ (by decide), act_same _ _ _ (by (try simp only [act_size]); rw [hsz]; decide)]
    try rfl
  refine (eval_Init.calls 10 _ _ _ A c T.f3 _ xs W.drew (Kd.C_below (Kd.V_reads' hV).2.2 (below_drew (Below.refl W.heap.size W))) (Kd.V_reads' hV).2.1 hi).mono ?_
  rintro e W1 ⟨v0, rfl, hR0, hbel⟩
  have hV0 := Kd.R_V (base' := 0) hR0
  obtain ⟨A2, c2, e0⟩ := Kd.V_slice hV0
  subst e0
  have hC0 := Kd.V_reads' hV0
  refine ⟨_, rfl, ?_⟩
  have hB9 : Below W.heap.size W W1 := below_step (below_drew (Below.refl W.heap.size W)) hbel
  refine hK _ _ (below_blk hB9 hb1) (fun hS3 => ?_)
  clear hS2
  have hS2 := hS3
  refine YtdiadmlgeojefaaW.PrintLast.one_ (i := 4) (N := some 15) #[true, true, true, true, true, false, false, false, false, false, false, false] h4 g4.2 hc.f4 (by decide) (fun K hK => goes_ (f := 22) (fn := Try.f22) Try.func22 (by kernel_rfl) rfl #[.agg (nc T (.slice A T.f3.length c)).toArray, .slice A2 xs.length c2, .agg (evc (tickM 100)).toArray, .int .i64 1, .int .i64 100] (by simp [Region.wanted, g4.1]) g4.2 p4 ?_ ?_)
  · simp only [List.map_toArray, List.map_cons, List.map_nil]
    rw [act_ne _ _ (by decide), act_ne _ _ (by decide), act_ne _ _ (by decide), act_same _ _ _ (by (try simp only [act_size]); rw [hsz]; decide)]
    rw [act_same _ _ _ (by (try simp only [act_size]); rw [hsz]; decide)]
    rw [act_ne _ _ (by decide), act_same _ _ _ (by (try simp only [act_size]); rw [hsz]; decide)]
    try rfl
  refine (run_ok (m := tickM 100) (Kd.V_below hV hB9) hC0.2.2 hC0.2.1 hl rfl hr he hx hd hn hp).mono ?_
  rintro e W2 ⟨bv, cv, Ao, co, rfl, hbel2, hcells⟩
  refine ⟨_, rfl, ?_⟩
  have hB10 : Below W.heap.size W W2 := below_step hB9 hbel2
  refine hK _ _ (below_blk hB10 hb1) (fun hS4 => ?_)
  clear hS2
  have hS2 := hS4
  refine pure_ (i := 5) (N := some 10) (v := (.tuple #[.slice (some ⟨bv, 0, none⟩) nx cv, .slice Ao 0 co, .int .i64 0])) #[true, true, true, true, true, true, false, false, false, false, false, false] h5 g5.2 hc.f5 (fun c a w => by rw [g5.2]; exact hQ _ _ c a w) (Or.inl ⟨(by simp [Region.wanted, g5.1]), run_move9 p5 (by rw [act_same _ _ _ (by (try simp only [act_size]); rw [hsz]; decide)])⟩) rfl ?_
  refine pure_ (i := 6) (N := some 16) (v := (.slice (some ⟨bv, 0, none⟩) nx cv)) #[true, true, true, true, true, true, true, false, false, false, false, false] h6 g6.2 hc.f6 (fun c a w => by rw [g6.2]; exact hQ _ _ c a w) (Or.inl ⟨(by simp [Region.wanted, g6.1]), run_ext0 p6 (by rw [act_same _ _ _ (by (try simp only [act_size]); rw [hsz]; decide)])⟩) rfl ?_
  refine pure_ (i := 7) (N := some 17) (v := (.slice Ao 0 co)) #[true, true, true, true, true, true, true, true, false, false, false, false] h7 g7.2 hc.f7 (fun c a w => by rw [g7.2]; exact hQ _ _ c a w) (Or.inl ⟨(by simp [Region.wanted, g7.1]), run_ext1 p7 (by rw [act_ne _ _ (by decide), act_same _ _ _ (by (try simp only [act_size]); rw [hsz]; decide)])⟩) rfl ?_
  refine pure_ (i := 8) (N := some 18) (v := (.int .i64 0)) #[true, true, true, true, true, true, true, true, true, false, false, false] h8 g8.2 hc.f8 (fun c a w => by rw [g8.2]; exact hQ _ _ c a w) (Or.inl ⟨(by simp [Region.wanted, g8.1]), run_ext2 p8 (by rw [act_ne _ _ (by decide), act_ne _ _ (by decide), act_same _ _ _ (by (try simp only [act_size]); rw [hsz]; decide)])⟩) rfl ?_
  refine pure_ (i := 9) (N := some 3) (v := (.slice (some ⟨bv, 0, none⟩) nx cv)) #[true, true, true, true, true, true, true, true, true, true, false, false] h9 g9.2 hc.f9 (fun c a w => by rw [g9.2]; exact hQ _ _ c a w) (Or.inl ⟨(by simp [Region.wanted, g9.1]), run_assign p9 (by rw [act_ne _ _ (by decide), act_ne _ _ (by decide), act_same _ _ _ (by (try simp only [act_size]); rw [hsz]; decide)])⟩) rfl ?_
  refine pure_ (i := 10) (N := some 4) (v := (.slice Ao 0 co)) #[true, true, true, true, true, true, true, true, true, true, true, false] h10 g10.2 hc.f10 (fun c a w => by rw [g10.2]; exact hQ _ _ c a w) (Or.inl ⟨(by simp [Region.wanted, g10.1]), run_assign p10 (by rw [act_ne _ _ (by decide), act_ne _ _ (by decide), act_same _ _ _ (by (try simp only [act_size]); rw [hsz]; decide)])⟩) rfl ?_
  refine pure_ (i := 11) (N := some 5) (v := (.int .i64 0)) #[true, true, true, true, true, true, true, true, true, true, true, true] h11 g11.2 hc.f11 (fun c a w => by rw [g11.2]; exact hQ _ _ c a w) (Or.inl ⟨(by simp [Region.wanted, g11.1]), run_assign p11 (by rw [act_ne _ _ (by decide), act_ne _ _ (by decide), act_same _ _ _ (by (try simp only [act_size]); rw [hsz]; decide)])⟩) rfl ?_
  refine (done_ hc.f12 ?_)
  exact hpost A2 c2 bv cv Ao co W2 hB10 hcells
set_option maxHeartbeats 4000000 in
set_option maxRecDepth 100000 in
theorem answers18 (w : World) : Calls Try.prog 20 #[] w fun e w' => e = .returned (.bool true) ∧ Below w.heap.size w w' := by
  have HB := aK (Below.refl w.heap.size w)
  obtain ⟨T, eT⟩ : ∃ T_, T_ = trA := ⟨_, rfl⟩
  have H1 := aK (show parse_ 1000 100 txA = some (T, 0, 0) by rw [eT]; exact trA_ok)
  have H2 := aK (show eval_Init.f 10 T.f0 T.f1 T.f2 T.f3 T.f4 = some [⟨⟨#[120]⟩, 1⟩] by rw [eT]; exact iniA)
  have H3 := aK (show runP (stm0 20) [⟨⟨#[120]⟩, 1⟩] (tickM 100) T = some ⟨tickM 96, [⟨⟨#[120]⟩, 2⟩], []⟩ by rw [eT]; exact runA)
  clear eT
  go_enter Try.func20, Try.ntmps20
  go_wp2_with (first
    | ((with_reducible refine gD 7 rfl ?_); go_must ((refine goesL_ (some 7) rfl rfl Try.func17 (by kernel_rfl) rfl #[.string ⟨#[118, 97, 114, 32, 120, 32, 61, 32, 49, 59, 32, 111, 110, 32, 116, 105, 99, 107, 32, 123, 32, 120, 32, 61, 32, 120, 32, 43, 32, 49, 59, 32, 125]⟩] rfl (mpT rfl) ?_; refine (parse_calls (by decide) txA T 0 0 _ H1.out).mono ?_; rintro e w1 ⟨v, rfl, hv, hbel⟩; obtain ⟨A, c, e0⟩ := Kd.V_slice hv; subst e0; refine ⟨_, rfl, ?_⟩; obtain ⟨N, eN⟩ : ∃ n_, n_ = w1.heap.size := ⟨_, rfl⟩; have hv2 := Kd.V_mono (Kd.V_bound hv) (ok' := fun q => q < N) (fun q hq => by rw [eN]; exact hq.2); replace HB := aK (below_step HB.out hbel); have VT := aK hv2; have NN := aK (Nat.le_of_eq eN); clear hv hv2 hbel eN)))
    | ((with_reducible refine gD 1 rfl ?_); go_must ((refine ev_alloc29 rfl (N := 1) rfl rfl ?_; intro b1 hbn w1 hblk hbel; have GNb1 := aK (show N ≤ b1 by have := NN.out; omega); have GPb1 := aK (show w.heap.size ≤ b1 by have := HB.out.size; omega); replace HB := aK (below_step HB.out hbel); replace VT := aK (Kd.V_below VT.out hbel); replace NN := aK (Nat.le_trans NN.out hbel.size); have BXb1 := aK hblk; clear hblk hbel hbn)))
    | ((with_reducible refine gD 2 rfl ?_); go_must ((refine ev_alloc32 rfl (N := 2) rfl rfl ?_; intro b2 hbn w1 hblk hbel; have GNb2 := aK (show N ≤ b2 by have := NN.out; omega); have GPb2 := aK (show w.heap.size ≤ b2 by have := HB.out.size; omega); have LTb1b2 := aK (show b1 < b2 by have := blk_lt BXb1.out; omega); replace HB := aK (below_step HB.out hbel); replace BXb1 := Zc hbel BXb1; replace VT := aK (Kd.V_below VT.out hbel); replace NN := aK (Nat.le_trans NN.out hbel.size); have BXb2 := aK hblk; clear hblk hbel hbn)))
    | ((with_reducible refine gate_ (.store 29 (.tmp 1) (.tmp 8)) rfl ?_); go_must ((refine ev_store29 rfl rfl (.tmp 1) (.tmp 8) rfl (b := b1) (z := T) (v := .slice A T.f3.length c) rfl rfl BXb1.out (VK_one VT.out) ?_; intro w1 hblk hg hz; replace HB := aK (pw_below_grown HB.out _ HB.out.size hg (by intro k hk; injection hk with hk; have := GPb1.out; omega)); replace BXb1 := aK (hblk); replace BXb2 := Zh hg BXb2 LTb1b2; replace VT := aK (Kd.V_grown VT.out hg (fun q hq e => by injection e with e; have h9 : q < N := hq; have := GNb1.out; omega)); replace NN := aK (Nat.le_trans NN.out hg.size); clear hblk hg hz)))
    | ((with_reducible refine gate_ (.store 32 (.tmp 2) (.tmp 9)) rfl ?_); go_must ((refine ev_store32 rfl rfl (.tmp 2) (.tmp 9) rfl (b := b2) (e := 0) (f := 0) rfl rfl BXb2.out ?_; intro w1 hblk hg hz; replace HB := aK (pw_below_grown HB.out _ HB.out.size hg (by intro k hk; injection hk with hk; have := GPb2.out; omega)); replace BXb1 := Zg hg BXb1 LTb1b2; replace BXb2 := aK (hblk); replace VT := aK (Kd.V_grown VT.out hg (fun q hq e => by injection e with e; have h9 : q < N := hq; have := GNb2.out; omega)); replace NN := aK (Nat.le_trans NN.out hg.size); clear hblk hg hz))))
  refine ansR2 (b1 := b1) (c := c) (T := T) (A := A) BXb1.out VT.out H2.out H3.out rfl rfl rfl rfl (by decide) (by decide) rfl rfl rfl rfl rfl rfl rfl rfl rfl rfl rfl rfl rfl ⟨rfl, rfl⟩ ⟨rfl, rfl⟩ ⟨rfl, rfl⟩ ⟨rfl, rfl⟩ ⟨rfl, rfl⟩ ⟨rfl, rfl⟩ ⟨rfl, rfl⟩ ⟨rfl, rfl⟩ ⟨rfl, rfl⟩ ⟨rfl, rfl⟩ ⟨rfl, rfl⟩ ⟨rfl, rfl⟩ rfl rfl rfl rfl rfl rfl rfl rfl rfl rfl rfl rfl  rfl rfl (by constructor <;> kernel_rfl) (fun _ _ _ _ _ h => h) ?_
  intro A2 c2 bv cv Ao co W2 hb hcells
  have e1 : W2.cell? ⟨bv, 0, none⟩ = some (.string ⟨#[120]⟩) := (hcells 0 _ rfl).1
  have e2 : W2.cell? ⟨bv, 1, none⟩ = some (.int .i64 2) := (hcells 0 _ rfl).2
  have n0 := aK (below_blk hb BXb2.out)
  have e3 : W2.cell? ⟨b2, 0, none⟩ = some (.int .i64 0) := (Mine.blk_cells n0.out 0).trans rfl
  have n1 := aK (below_step HB.out hb)
  clear hb hcells BXb2 BXb1 HB VT
  have BXb2 := n0
  have HB := n1
  clear n0 n1
  simp only [Act.put, List.setIfInBounds_toArray, List.set_cons_zero, List.set_cons_succ]
  go_wp2
  go_ret
  exact ⟨rfl, HB.out⟩
end Go.Proofs.Ytdiadmlgeojefaa.A
namespace Go.Proofs.Ytdiadmlgeojefaa.A
open Go.RowKit Go.Proofs.YtdiadmlgeojefaaW.PrintWords Go.Proofs.YtdiadmlgeojefaaW.PrintLast Go.Proofs.YtdiadmlgeojefaaW.PrintMore
set_option linter.unusedVariables false
set_option linter.unusedSimpArgs false
def txL : ByteArray := ⟨#[118, 97, 114, 32, 120, 32, 61, 32, 48, 59, 32, 118, 97, 114, 32, 121, 32, 61, 32, 48, 59, 32, 111, 110, 32, 116, 105, 99, 107, 32, 123, 32, 119, 104, 105, 108, 101, 32, 120, 32, 60, 32, 121, 32, 123, 32, 120, 32, 61, 32, 120, 32, 43, 32, 49, 59, 32, 125, 32, 125]⟩
def cdL : S29 := ⟨20, ⟨#[60]⟩, 0, [⟨19, ⟨#[120]⟩, 0, [], 38⟩, ⟨19, ⟨#[121]⟩, 0, [], 42⟩], 38⟩
def stL : S29 := ⟨4, ⟨#[120]⟩, 0, [⟨20, ⟨#[43]⟩, 0, [⟨19, ⟨#[120]⟩, 0, [], 50⟩, ⟨18, ⟨#[]⟩, 1, [], 54⟩], 50⟩], 46⟩
def whL : S29 := ⟨6, ⟨#[]⟩, 0, [cdL, ⟨7, ⟨#[]⟩, 0, [stL], 44⟩], 32⟩
def trL : S29 := ⟨1, ⟨#[]⟩, 0, [⟨2, ⟨#[120]⟩, 0, [], 0⟩, ⟨2, ⟨#[121]⟩, 0, [], 11⟩, ⟨3, ⟨#[116, 105, 99, 107]⟩, 0, [whL], 22⟩], 0⟩
theorem trL_ok : parse_ 1000 100 txL = some (trL, 0, 0) := by kernel_rfl
def ML (f e : Int) : Mst := { tickM f with e := e }
def XL (i n : Int) : List S65 := [⟨⟨#[120]⟩, i⟩, ⟨⟨#[121]⟩, n⟩]
theorem bL_ok {f : Int} (h0 : 0 < f) (h1 : f ≤ 1000000) : burnF (ML f 0) = (true, ML (f - 1) 0) := by
  have h2 : ¬ f ≤ 0 := by omega
  have h3 : wrap64 (f - 1) = f - 1 := w64_in (by omega)
  simp [burnF, ML, tickM, h2, h3, Mst.fuel, Mst.err]
theorem bL_no {f : Int} (h0 : f ≤ 0) : burnF (ML f 0) = (false, ML (wrap64 (f - 1)) 11) := by
  simp [burnF, ML, tickM, h0, Mst.fuel, Mst.err]
theorem bL_bad (f : Int) : burnF (ML f 11) = (false, ML (wrap64 (f - 1)) 11) := by
  simp [burnF, ML, tickM, Mst.fuel, Mst.err]
theorem eL_no {k : Nat} {xs : List S65} {m m1 : Mst} {T : S29} (hb : burnF m = (false, m1)) : exprP xs (k + 1) m T = some (0, m1) := by
  show exprG xs (exprP xs k) m T = _
  unfold exprG
  rw [hb]
  rfl
theorem eL_x {k : Nat} {i n at_ : Int} {m m1 : Mst} (hb : burnF m = (true, m1)) : exprP (XL i n) (k + 1) m ⟨19, ⟨#[120]⟩, 0, [], at_⟩ = some (i, m1) := by
  show exprG _ (exprP _ k) m _ = _
  unfold exprG
  rw [hb]
  kernel_rfl
theorem eL_y {k : Nat} {i n at_ : Int} {m m1 : Mst} (hb : burnF m = (true, m1)) : exprP (XL i n) (k + 1) m ⟨19, ⟨#[121]⟩, 0, [], at_⟩ = some (n, m1) := by
  show exprG _ (exprP _ k) m _ = _
  unfold exprG
  rw [hb]
  kernel_rfl
theorem eL_one {k : Nat} {xs : List S65} {v at_ : Int} {m m1 : Mst} (hb : burnF m = (true, m1)) : exprP xs (k + 1) m ⟨18, ⟨#[]⟩, v, [], at_⟩ = some (v, m1) := by
  show exprG _ (exprP _ k) m _ = _
  unfold exprG
  rw [hb]
  rfl
theorem eL_two {k : Nat} {xs : List S65} {m m1 m2 m3 : Mst} {s : ByteArray} {n at_ a b : Int} {k0 k1 : S29} (hb : burnF m = (true, m1)) (h0 : exprP xs k m1 k0 = some (a, m2)) (h1 : exprP xs k m2 k1 = some (b, m3)) (hs : (s.toList == [38, 38]) = false ∧ (s.toList == [124, 124]) = false) :
    exprP xs (k + 1) m ⟨20, s, n, [k0, k1], at_⟩ = if (m3.e != 0) = true then some (0, m3) else sumF m3 s a b := by
  show exprG _ (exprP _ k) m _ = _
  unfold exprG
  rw [hb]
  show twoP (exprP xs k) m1 ⟨20, s, n, [k0, k1], at_⟩ = _
  unfold twoP
  simp only [List.getElem?_cons_zero, List.getElem?_cons_succ, Option.bind_some, h0, h1, hs.1, hs.2]
  simp
theorem sumL_lt (m : Mst) (a b : Int) : sumF m ⟨#[60]⟩ a b = some (truthF (decide (a < b)), m) := by
  have h0 : eval_asked.f ⟨#[60]⟩ a b = (eval_truth.f (decide (a < b))).bind fun t => some (t, true) := by kernel_rfl
  unfold sumF
  rw [h0, truthF_some]
  rfl
theorem sumL_add (m : Mst) (a b : Int) : sumF m ⟨#[43]⟩ a b = some (wrap64 (a + b), m) := by
  kernel_rfl
theorem cdL_ok {k : Nat} {i n f : Int} (h0 : 3 ≤ f) (h1 : f ≤ 1000000) : exprP (XL i n) (k + 2) (ML f 0) cdL = some (truthF (decide (i < n)), ML (f - 3) 0) := by
  unfold cdL
  rw [eL_two (k := k + 1) (bL_ok (by omega) h1) (eL_x (bL_ok (by omega) (by omega))) (eL_y (bL_ok (by omega) (by omega))) ⟨by kernel_rfl, by kernel_rfl⟩]
  rw [if_neg (by simp [ML])]
  rw [sumL_lt, show f - 1 - 1 - 1 = f - 3 by omega]
theorem cdL_bad {k : Nat} {i n : Int} (f : Int) : exprP (XL i n) (k + 2) (ML f 11) cdL = some (0, ML (wrap64 (f - 1)) 11) := eL_no (bL_bad f)
theorem cdL_no {k : Nat} {i n f : Int} (h0 : 0 ≤ f) (h1 : f < 3) : ∃ f', exprP (XL i n) (k + 2) (ML f 0) cdL = some (0, ML f' 11) := by
  unfold cdL
  by_cases c0 : f ≤ 0
  · exact ⟨_, eL_no (bL_no c0)⟩
  · by_cases c1 : f - 1 ≤ 0
    · exact ⟨_, (eL_two (k := k + 1) (bL_ok (by omega) (by omega)) (eL_no (bL_no c1)) (eL_no (bL_bad _)) ⟨by kernel_rfl, by kernel_rfl⟩).trans (if_pos (by simp [ML]))⟩
    · exact ⟨_, (eL_two (k := k + 1) (bL_ok (by omega) (by omega)) (eL_x (bL_ok (by omega) (by omega))) (eL_no (bL_no (by omega))) ⟨by kernel_rfl, by kernel_rfl⟩).trans (if_pos (by simp [ML]))⟩
theorem setL {k : Nat} {i n : Int} {m m1 : Mst} {a : Int} (h : exprP (XL i n) k m (stL.f3.getD 0 z29) = some (a, m1)) : setP k ⟨m, XL i n, []⟩ stL = some (if (m1.e == 0) = true then ⟨m1, XL a n, []⟩ else ⟨m1, XL i n, []⟩) := by
  have h : exprP (XL i n) k m ⟨20, ⟨#[43]⟩, 0, [⟨19, ⟨#[120]⟩, 0, [], 50⟩, ⟨18, ⟨#[]⟩, 1, [], 54⟩], 50⟩ = some (a, m1) := h
  have e0 : setP k ⟨m, XL i n, []⟩ stL = (exprP (XL i n) k m ⟨20, ⟨#[43]⟩, 0, [⟨19, ⟨#[120]⟩, 0, [], 50⟩, ⟨18, ⟨#[]⟩, 1, [], 54⟩], 50⟩).bind fun a => some (setV ⟨a.2, XL i n, []⟩ ⟨#[120]⟩ a.1) := by kernel_rfl
  have e1 : setV ⟨m1, XL i n, []⟩ ⟨#[120]⟩ a = (if (m1.e == 0) = true then ⟨m1, XL a n, []⟩ else ⟨m1, XL i n, []⟩) := by kernel_rfl
  rw [e0, h, ← e1]
  rfl
theorem adL_ok {k : Nat} {i n f : Int} (h0 : 3 ≤ f) (h1 : f ≤ 1000000) : exprP (XL i n) (k + 2) (ML f 0) (stL.f3.getD 0 z29) = some (wrap64 (i + 1), ML (f - 3) 0) := by
  show exprP (XL i n) (k + 2) (ML f 0) ⟨20, ⟨#[43]⟩, 0, [⟨19, ⟨#[120]⟩, 0, [], 50⟩, ⟨18, ⟨#[]⟩, 1, [], 54⟩], 50⟩ = _
  rw [eL_two (k := k + 1) (bL_ok (by omega) h1) (eL_x (bL_ok (by omega) (by omega))) (eL_one (bL_ok (by omega) (by omega))) ⟨by kernel_rfl, by kernel_rfl⟩]
  rw [if_neg (by simp [ML])]
  rw [sumL_add, show f - 1 - 1 - 1 = f - 3 by omega]
theorem adL_no {k : Nat} {i n f : Int} (h0 : 0 ≤ f) (h1 : f < 3) : ∃ f', exprP (XL i n) (k + 2) (ML f 0) (stL.f3.getD 0 z29) = some (0, ML f' 11) := by
  show ∃ f', exprP (XL i n) (k + 2) (ML f 0) ⟨20, ⟨#[43]⟩, 0, [⟨19, ⟨#[120]⟩, 0, [], 50⟩, ⟨18, ⟨#[]⟩, 1, [], 54⟩], 50⟩ = _
  by_cases c0 : f ≤ 0
  · exact ⟨_, eL_no (bL_no c0)⟩
  · by_cases c1 : f - 1 ≤ 0
    · exact ⟨_, (eL_two (k := k + 1) (bL_ok (by omega) (by omega)) (eL_no (bL_no c1)) (eL_no (bL_bad _)) ⟨by kernel_rfl, by kernel_rfl⟩).trans (if_pos (by simp [ML]))⟩
    · exact ⟨_, (eL_two (k := k + 1) (bL_ok (by omega) (by omega)) (eL_x (bL_ok (by omega) (by omega))) (eL_no (bL_no (by omega))) ⟨by kernel_rfl, by kernel_rfl⟩).trans (if_pos (by simp [ML]))⟩
theorem bdL_eq (k : Nat) (m : Mst) (xs : List S65) : stm0 (k + 1) ⟨m, xs, []⟩ [stL] = (if (burnF m).1 = true then setP k ⟨(burnF m).2, xs, []⟩ stL else some ⟨(burnF m).2, xs, []⟩) := by
  have e0 : stm0 (k + 1) ⟨m, xs, []⟩ [stL] = (if (burnF m).1 = true then setP k ⟨(burnF m).2, xs, []⟩ stL else some ⟨(burnF m).2, xs, []⟩).bind fun s2 => some s2 := by kernel_rfl
  rw [e0]
  generalize (if (burnF m).1 = true then setP k ⟨(burnF m).2, xs, []⟩ stL else some ⟨(burnF m).2, xs, []⟩) = y
  cases y <;> rfl
theorem bdL_ok {k : Nat} {i n f : Int} (h0 : 4 ≤ f) (h1 : f ≤ 1000000) (hi : 0 ≤ i ∧ i ≤ 1000) : stm0 (k + 3) ⟨ML f 0, XL i n, []⟩ [stL] = some ⟨ML (f - 4) 0, XL (i + 1) n, []⟩ := by
  rw [bdL_eq, bL_ok (by omega) h1]
  show setP (k + 2) ⟨ML (f - 1) 0, XL i n, []⟩ stL = _
  rw [setL (adL_ok (k := k) (by omega) (by omega)), w64_in (by omega), show f - 1 - 3 = f - 4 by omega]
  rfl
theorem bdL_no {k : Nat} {i n f : Int} (h0 : 0 ≤ f) (h1 : f < 4) : ∃ f', stm0 (k + 3) ⟨ML f 0, XL i n, []⟩ [stL] = some ⟨ML f' 11, XL i n, []⟩ := by
  rw [bdL_eq]
  by_cases c0 : f ≤ 0
  · rw [bL_no c0]
    exact ⟨_, rfl⟩
  · rw [bL_ok (by omega) (by omega)]
    obtain ⟨f', h⟩ := adL_no (k := k) (i := i) (n := n) (show 0 ≤ f - 1 by omega) (by omega)
    refine ⟨f', ?_⟩
    show setP (k + 2) ⟨ML (f - 1) 0, XL i n, []⟩ stL = _
    rw [setL h]
    rfl
def EndL (n f : Int) (i : Int) (s : Sg) : Prop := if f < 3 * (n - i + 1) + 4 * (n - i) then s.m.e = 11 else s.m.e = 0 ∧ s.xs = XL n n ∧ s.ds = []
theorem whL_eq (K : Nat) (stms : Sg → List S29 → Option Sg) (j : Nat) (m : Mst) (xs : List S65) {a : Int} {m1 : Mst} (h : exprP xs K m cdL = some (a, m1)) : whileP K stms whL cdL (j + 1) ⟨m, xs, []⟩ = if (a != 0) = true then (if (m1.e == 0) = true then (stms ⟨m1, xs, []⟩ [stL]).bind (whileP K stms whL cdL j) else some ⟨m1, xs, []⟩) else some ⟨m1, xs, []⟩ := by
  unfold whileP
  show (exprP xs K m cdL).bind _ = _
  rw [h]
  rfl
theorem whileL {K k : Nat} : ∀ (j : Nat) (i n f : Int), 0 ≤ i → i ≤ n → n ≤ 1000 → n - i + 2 ≤ j → 0 ≤ f → f ≤ 1000000 → ∃ s, whileP (K + 2) (stm0 (k + 3)) whL cdL j ⟨ML f 0, XL i n, []⟩ = some s ∧ EndL n f i s
  | 0, i, n, f, h0, h1, h2, h3, h4, h5 => by omega
  | j + 1, i, n, f, h0, h1, h2, h3, h4, h5 => by
    by_cases c0 : f < 3
    · obtain ⟨f', h⟩ := cdL_no (k := K) (i := i) (n := n) h4 c0
      rw [whL_eq _ _ _ _ _ h]
      refine ⟨_, rfl, ?_⟩
      unfold EndL
      rw [if_pos (by omega)]
      rfl
    · rw [whL_eq _ _ _ _ _ (cdL_ok (k := K) (by omega) h5)]
      by_cases c1 : i < n
      · rw [decide_eq_true c1]
        show ∃ s, (stm0 (k + 3) ⟨ML (f - 3) 0, XL i n, []⟩ [stL]).bind (whileP (K + 2) (stm0 (k + 3)) whL cdL j) = some s ∧ _
        by_cases c2 : f - 3 < 4
        · obtain ⟨f', h⟩ := bdL_no (k := k) (i := i) (n := n) (show 0 ≤ f - 3 by omega) c2
          rw [h]
          show ∃ s, whileP (K + 2) (stm0 (k + 3)) whL cdL j ⟨ML f' 11, XL i n, []⟩ = some s ∧ _
          obtain ⟨j, rfl⟩ : ∃ q, j = q + 1 := ⟨j - 1, by omega⟩
          rw [whL_eq _ _ _ _ _ (cdL_bad (k := K) f')]
          refine ⟨_, rfl, ?_⟩
          unfold EndL
          rw [if_pos (by omega)]
          rfl
        · rw [bdL_ok (by omega) (by omega) (by omega)]
          obtain ⟨s, h, he⟩ := whileL j (i + 1) n (f - 3 - 4) (by omega) (by omega) h2 (by omega) (by omega) (by omega)
          refine ⟨s, h, ?_⟩
          unfold EndL at he ⊢
          by_cases c3 : f < 3 * (n - i + 1) + 4 * (n - i)
          · rw [if_pos (by omega)] at he
            rw [if_pos c3]
            exact he
          · rw [if_neg (by omega)] at he
            rw [if_neg c3]
            exact he
      · rw [decide_eq_false c1]
        refine ⟨_, rfl, ?_⟩
        have : i = n := by omega
        subst this
        unfold EndL
        rw [if_neg (by omega)]
        exact ⟨rfl, rfl, rfl⟩
theorem runL_eq (k : Nat) (n f : Int) : runP (stm0 (k + 1)) (XL 0 n) (tickM f) trL = (if (burnF (ML (clampF f) 0)).1 = true then whileP k (stm0 k) whL cdL k ⟨(burnF (ML (clampF f) 0)).2, XL 0 n, []⟩ else some ⟨(burnF (ML (clampF f) 0)).2, XL 0 n, []⟩) := by
  have e0 : runP (stm0 (k + 1)) (XL 0 n) (tickM f) trL = ((if (burnF (ML (clampF f) 0)).1 = true then whileP k (stm0 k) whL cdL k ⟨(burnF (ML (clampF f) 0)).2, XL 0 n, []⟩ else some ⟨(burnF (ML (clampF f) 0)).2, XL 0 n, []⟩).bind fun s2 => some s2).bind fun s2 => some s2 := by kernel_rfl
  rw [e0]
  generalize (if (burnF (ML (clampF f) 0)).1 = true then whileP k (stm0 k) whL cdL k ⟨(burnF (ML (clampF f) 0)).2, XL 0 n, []⟩ else some ⟨(burnF (ML (clampF f) 0)).2, XL 0 n, []⟩) = y
  cases y <;> rfl
theorem loop_law (n f : Int) (h0 : 0 ≤ n) (h1 : n < 100) (h2 : 0 ≤ f) (h3 : f < 1200) : ∃ s, runP (stm0 201) (XL 0 n) (tickM f) trL = some s ∧ (if f < 1 + 3 * (n + 1) + 4 * n then s.m.e = 11 else s.m.e = 0 ∧ s.xs = XL n n ∧ s.ds = []) := by
  rw [runL_eq 200 n f]
  have hc : clampF f = f := by
    unfold clampF
    rw [if_neg (show ¬ f < 0 by omega), if_neg (by omega)]
  rw [hc]
  by_cases c0 : f ≤ 0
  · rw [bL_no c0]
    refine ⟨_, rfl, ?_⟩
    rw [if_pos (by omega)]
    rfl
  · rw [bL_ok (by omega) (by omega)]
    obtain ⟨s, h, he⟩ := whileL (K := 198) (k := 197) 200 0 n (f - 1) (by omega) h0 (by omega) (by omega) (by omega) (by omega)
    refine ⟨s, h, ?_⟩
    unfold EndL at he
    by_cases c1 : f < 1 + 3 * (n + 1) + 4 * n
    · rw [if_pos (by omega)] at he
      rw [if_pos c1]
      exact he
    · rw [if_neg (by omega)] at he
      rw [if_neg c1]
      exact he
end Go.Proofs.Ytdiadmlgeojefaa.A
namespace Go.Proofs.Ytdiadmlgeojefaa.A
open Go.RowKit Go.Proofs.YtdiadmlgeojefaaW.PrintWords Go.Proofs.YtdiadmlgeojefaaW.PrintLast Go.Proofs.YtdiadmlgeojefaaW.PrintMore
set_option linter.unusedVariables false
set_option linter.unusedSimpArgs false
section
variable {o : Oper} {a : Act} {x y : Operand}
theorem pw_below_of_none {w w1 : World} (h : w.grownBy w1 none) : Below w.heap.size w w1 := ⟨h.os, h.tape, h.output, h.size, fun k hk => h.block k hk (by simp)⟩
theorem run_rem100 (ho : o.op = .binOp .rem 5 x (.const (.int .u8 100)) 5) (ht : o.type = 5) {n q : Int} (hx : a.eval x = .int .u8 n) (h0 : 0 ≤ n) (h1 : n < 256) (hq : n % 100 = q) : ∀ w, (execOp a.eval o).run Try.prog w = .ok (.value (.int .u8 q)) w := by
  intro w
  have hc : a.eval (.const (.int .u8 100)) = .int .u8 100 := rfl
  generalize a.eval = ev at hx hc
  unfold execOp
  simp only [ho, ht, hx, hc]
  go_simp
  rw [Int.tmod_eq_emod_of_nonneg h0]
  exact hq
theorem run_rem1200 (ho : o.op = .binOp .rem 68 x (.const (.int .u16 1200)) 68) (ht : o.type = 68) {n q : Int} (hx : a.eval x = .int .u16 n) (h0 : 0 ≤ n) (h1 : n < 65536) (hq : n % 1200 = q) : ∀ w, (execOp a.eval o).run Try.prog w = .ok (.value (.int .u16 q)) w := by
  intro w
  have hc : a.eval (.const (.int .u16 1200)) = .int .u16 1200 := rfl
  generalize a.eval = ev at hx hc
  unfold execOp
  simp only [ho, ht, hx, hc]
  go_simp
  rw [Int.tmod_eq_emod_of_nonneg h0]
  exact hq
theorem run_conv5 (ho : o.op = .convert 5 3 x) {q : Int} (hx : a.eval x = .int .u8 q) (h0 : 0 ≤ q) (h1 : q < 256) : ∀ w, (execOp a.eval o).run Try.prog w = .ok (.value (.int .i64 q)) w := by
  intro w
  have h2 : wrap64 q = q := w64_in (by omega)
  generalize a.eval = ev at hx
  unfold execOp
  simp only [ho, hx]
  go_simp
  rw [IntKind.wrap_i64]
  first | exact h2 | omega
theorem run_conv68 (ho : o.op = .convert 68 3 x) {q : Int} (hx : a.eval x = .int .u16 q) (h0 : 0 ≤ q) (h1 : q < 65536) : ∀ w, (execOp a.eval o).run Try.prog w = .ok (.value (.int .i64 q)) w := by
  intro w
  have h2 : wrap64 q = q := w64_in (by omega)
  generalize a.eval = ev at hx
  unfold execOp
  simp only [ho, hx]
  go_simp
  rw [IntKind.wrap_i64]
  first | exact h2 | omega
theorem run_add9 (ho : o.op = .binOp .add 3 x y 3) (ht : o.type = 3) {n m q : Int} (hx : a.eval x = .int .i64 n) (hy : a.eval y = .int .i64 m) (hq : q = n + m) (hb : -9223372036854775808 ≤ q ∧ q ≤ 9223372036854775807) : ∀ w, (execOp a.eval o).run Try.prog w = .ok (.value (.int .i64 q)) w := by
  intro w
  subst hq
  have h2 : wrap64 (n + m) = n + m := w64_in hb
  generalize a.eval = ev at hx hy
  unfold execOp
  simp only [ho, ht, hx, hy]
  go_simp
  rw [IntKind.wrap_i64]
  first | exact h2 | omega
theorem run_mul9 (ho : o.op = .binOp .mul 3 x y 3) (ht : o.type = 3) {n m q : Int} (hx : a.eval x = .int .i64 n) (hy : a.eval y = .int .i64 m) (hq : q = n * m) (hb : -9223372036854775808 ≤ q ∧ q ≤ 9223372036854775807) : ∀ w, (execOp a.eval o).run Try.prog w = .ok (.value (.int .i64 q)) w := by
  intro w
  subst hq
  have h2 : wrap64 (n * m) = n * m := w64_in hb
  generalize a.eval = ev at hx hy
  unfold execOp
  simp only [ho, ht, hx, hy]
  go_simp
  rw [IntKind.wrap_i64]
  first | exact h2 | omega
end
set_option maxHeartbeats 4000000 in
set_option maxRecDepth 100000 in
theorem loops_walk (n f : Int) (hn : 0 ≤ n ∧ n < 256) (hf : 0 ≤ f ∧ f < 65536) (w : World) : Calls Try.prog 10 #[.int .u8 n, .int .u16 f] w fun e w' => e = .returned (.bool true) ∧ Below w.heap.size w w' := by
  have HB := aK (Below.refl w.heap.size w)
  obtain ⟨T, eT⟩ : ∃ T_, T_ = trL := ⟨_, rfl⟩
  have H1 := aK (show parse_ 1000 100 txL = some (T, 0, 0) by rw [eT]; exact trL_ok)
  obtain ⟨q, eq⟩ : ∃ q_, n % 100 = q_ := ⟨_, rfl⟩
  obtain ⟨p, ep⟩ : ∃ p_, f % 1200 = p_ := ⟨_, rfl⟩
  have hq : 0 ≤ q ∧ q < 100 := by omega
  have hp : 0 ≤ p ∧ p < 1200 := by omega
  obtain ⟨a1, h1⟩ : ∃ a_, a_ = q + 1 := ⟨_, rfl⟩
  obtain ⟨a2, h2⟩ : ∃ a_, a_ = 3 * a1 := ⟨_, rfl⟩
  obtain ⟨a3, h3⟩ : ∃ a_, a_ = 1 + a2 := ⟨_, rfl⟩
  obtain ⟨a4, h4⟩ : ∃ a_, a_ = 4 * q := ⟨_, rfl⟩
  obtain ⟨a5, h5⟩ : ∃ a_, a_ = a3 + a4 := ⟨_, rfl⟩
  obtain ⟨s, hs, he⟩ := loop_law q p hq.1 hq.2 hp.1 hp.2
  have h6 : 1 + 3 * (q + 1) + 4 * q = a5 := by omega
  rw [← eT] at hs
  rw [h6] at he
  have HNN := aK hn
  have HFF := aK hf
  have HQ := aK eq
  have HP := aK ep
  have HQB := aK hq
  have HPB := aK hp
  have K1 := aK h1
  have K2 := aK h2
  have K3 := aK h3
  have K4 := aK h4
  have K5 := aK h5
  have KB := aK (show a1 ≤ 1000 ∧ a2 ≤ 1000 ∧ a3 ≤ 1000 ∧ a4 ≤ 1000 ∧ a5 ≤ 1000 ∧ 0 ≤ a1 ∧ 0 ≤ a2 ∧ 0 ≤ a3 ∧ 0 ≤ a4 ∧ 0 ≤ a5 by omega)
  have HS := aK hs
  clear eT hn hf eq ep hq hp h1 h2 h3 h4 h5 h6 hs
  by_cases hlt : p < a5
  · rw [if_pos hlt] at he
    have HE := aK he
    have hdl : decide (p < a5) = true := decide_eq_true hlt
    clear hlt he
    go_enter Try.func10, Try.ntmps10
    go_wp2_with (first
      | ((with_reducible refine gD 13 rfl ?_); go_must ((refine ev_yield rfl (N := 13) rfl (run_rem100 rfl rfl (n := n) (q := q) rfl HNN.out.1 HNN.out.2 HQ.out _) ?_)))
      | ((with_reducible refine gD 14 rfl ?_); go_must ((refine ev_yield rfl (N := 14) rfl (run_conv5 rfl (q := q) rfl HQB.out.1 (by have := HQB.out.2; omega) _) ?_)))
      | ((with_reducible refine gD 16 rfl ?_); go_must ((refine goesL_ (some 16) rfl rfl Try.func17 (by kernel_rfl) rfl #[.string ⟨#[118, 97, 114, 32, 120, 32, 61, 32, 48, 59, 32, 118, 97, 114, 32, 121, 32, 61, 32, 48, 59, 32, 111, 110, 32, 116, 105, 99, 107, 32, 123, 32, 119, 104, 105, 108, 101, 32, 120, 32, 60, 32, 121, 32, 123, 32, 120, 32, 61, 32, 120, 32, 43, 32, 49, 59, 32, 125, 32, 125]⟩] rfl (mpT rfl) ?_; refine (parse_calls (by decide) txL T 0 0 _ H1.out).mono ?_; rintro e w1 ⟨v, rfl, hv, hbel⟩; obtain ⟨A, c, e0⟩ := Kd.V_slice hv; subst e0; refine ⟨_, rfl, ?_⟩; obtain ⟨N, eN⟩ : ∃ n_, n_ = w1.heap.size := ⟨_, rfl⟩; have hv2 := Kd.V_mono (Kd.V_bound hv) (ok' := fun q => q < N) (fun q hq => by rw [eN]; exact hq.2); replace HB := aK (below_step HB.out hbel); have VT := aK hv2; have NN := aK (Nat.le_of_eq eN); clear hv hv2 hbel eN)))
      | ((with_reducible refine gD 6 rfl ?_); go_must ((refine ev_alloc29 rfl (N := 6) rfl rfl ?_; intro b1 hbn w1 hblk hbel; have GNb1 := aK (show N ≤ b1 by have := NN.out; omega); have GPb1 := aK (show w.heap.size ≤ b1 by have := HB.out.size; omega); replace HB := aK (below_step HB.out hbel); replace VT := aK (Kd.V_below VT.out hbel); replace NN := aK (Nat.le_trans NN.out hbel.size); have BXb1 := aK hblk; clear hblk hbel hbn)))
      | ((with_reducible refine gD 7 rfl ?_); go_must ((refine ev_alloc32 rfl (N := 7) rfl rfl ?_; intro b2 hbn w1 hblk hbel; have GNb2 := aK (show N ≤ b2 by have := NN.out; omega); have GPb2 := aK (show w.heap.size ≤ b2 by have := HB.out.size; omega); have LTb1b2 := aK (show b1 < b2 by have := blk_lt BXb1.out; omega); replace HB := aK (below_step HB.out hbel); replace BXb1 := Zc hbel BXb1; replace VT := aK (Kd.V_below VT.out hbel); replace NN := aK (Nat.le_trans NN.out hbel.size); have BXb2 := aK hblk; clear hblk hbel hbn)))
      | ((with_reducible refine gate_ (.store 29 (.tmp 6) (.tmp 17)) rfl ?_); go_must ((refine ev_store29 rfl rfl (.tmp 6) (.tmp 17) rfl (b := b1) (z := T) (v := .slice A T.f3.length c) rfl rfl BXb1.out (VK_one VT.out) ?_; intro w1 hblk hg hz; replace HB := aK (pw_below_grown HB.out _ HB.out.size hg (by intro k hk; injection hk with hk; have := GPb1.out; omega)); replace BXb1 := aK (hblk); replace BXb2 := Zh hg BXb2 LTb1b2; replace VT := aK (Kd.V_grown VT.out hg (fun q hq e => by injection e with e; have h9 : q < N := hq; have := GNb1.out; omega)); replace NN := aK (Nat.le_trans NN.out hg.size); clear hblk hg hz)))
      | ((with_reducible refine gate_ (.store 32 (.tmp 7) (.tmp 18)) rfl ?_); go_must ((refine ev_store32 rfl rfl (.tmp 7) (.tmp 18) rfl (b := b2) (e := 0) (f := 0) rfl rfl BXb2.out ?_; intro w1 hblk hg hz; replace HB := aK (pw_below_grown HB.out _ HB.out.size hg (by intro k hk; injection hk with hk; have := GPb2.out; omega)); replace BXb1 := Zg hg BXb1 LTb1b2; replace BXb2 := aK (hblk); replace VT := aK (Kd.V_grown VT.out hg (fun q hq e => by injection e with e; have h9 : q < N := hq; have := GNb2.out; omega)); replace NN := aK (Nat.le_trans NN.out hg.size); clear hblk hg hz)))
      | ((with_reducible refine gD 20 rfl ?_); go_must ((refine Mine.ev_load rfl (N := 20) rfl 29 (.tmp 6) rfl ⟨b1, 0, none⟩ rfl (nc T (.slice A T.f3.length c)) _ (Mine.blk_all BXb1.out) Try.underlying29 rfl info29s ?_)))
      | ((with_reducible refine gD 24 rfl ?_); go_must ((refine Kd.R_lit k65 w.heap.size 65 ?hg (N := 24) ?hd (xs := XL 0 q) (inner := [.string ⟨#[120]⟩, .int .i64 0, .string ⟨#[121]⟩, .int .i64 q]) (ok := fun _ => True) (okp := fun _ => True) ?hr ?hp (fun _ hk => hk) trivial HB.out HB.out.size (by show 2 ≤ 9223372036854775807; decide) ?_; (case hd => rfl); (case hg => rfl); (case hr => first | (go_simp; done) | (go_simp; rfl)); (case hp => exact Reps.c2 (k65_mkM _ _ _ ⟨⟨#[120]⟩, 0⟩) (Reps.c2 (k65_mkM _ _ _ ⟨⟨#[121]⟩, q⟩) (Reps.none _ _))); intro v1 w1 hr hbw hg1 hat; obtain ⟨A2, c2, e0⟩ : ∃ A c, v1 = Value.slice A 2 c := Kd.V_slice (Kd.R_V (base' := 0) hr); have hc2 : Kd.C k65 w1 A2 (XL 0 q).length (XL 0 q) ∧ (XL 0 q).length ≤ c2 := (by rw [e0] at hr; exact ⟨(Kd.R_reads' hr).2.2, (Kd.R_reads' hr).2.1⟩); subst e0; have hbel := pw_below_of_none hg1; replace HB := aK (below_step HB.out hbel); replace BXb1 := Zc hbel BXb1; replace BXb2 := Zc hbel BXb2; replace VT := aK (Kd.V_below VT.out hbel); replace NN := aK (Nat.le_trans NN.out hbel.size); have HCX := aK hc2; clear hr hbw hg1 hat hc2 hbel)))
      | ((with_reducible refine gD 25 rfl ?_); go_must ((refine ev_yield rfl (N := 25) rfl (run_build42 rfl p _) ?_)))
      | ((with_reducible refine gD 27 rfl ?_); go_must ((refine ev_yield rfl (N := 27) rfl (run_rem1200 rfl rfl (n := f) (q := p) rfl HFF.out.1 HFF.out.2 HP.out _) ?_)))
      | ((with_reducible refine gD 28 rfl ?_); go_must ((refine ev_yield rfl (N := 28) rfl (run_conv68 rfl (q := p) rfl HPB.out.1 (by have := HPB.out.2; omega) _) ?_)))
      | ((with_reducible refine gD 29 rfl ?_); go_must ((refine goesL_ (some 29) rfl rfl Try.func22 (by kernel_rfl) rfl #[.agg (nc T (.slice A T.f3.length c)).toArray, .slice A2 2 c2, .agg (evc (tickM p)).toArray, .int .i64 1, .int .i64 p] rfl (mpT rfl) ?_; refine (run_no (m := tickM p) (xs := XL 0 q) VT.out HCX.out.1 HCX.out.2 (by show 2 < 5864062014805; decide) rfl HS.out HE.out (by decide)).mono ?_; rintro e w1 ⟨rfl, hbel⟩; refine ⟨_, rfl, ?_⟩; replace HB := aK (below_step HB.out hbel); replace BXb1 := Zc hbel BXb1; replace BXb2 := Zc hbel BXb2; replace VT := aK (Kd.V_below VT.out hbel); replace NN := aK (Nat.le_trans NN.out hbel.size); clear hbel HCX)))
      | ((with_reducible refine gD 34 rfl ?_); go_must ((refine ev_yield rfl (N := 34) rfl (run_add9 rfl rfl (n := q) (m := 1) (q := a1) rfl rfl K1.out (by have := KB.out; omega) _) ?_)))
      | ((with_reducible refine gD 35 rfl ?_); go_must ((refine ev_yield rfl (N := 35) rfl (run_mul9 rfl rfl (n := 3) (m := a1) (q := a2) rfl rfl K2.out (by have := KB.out; omega) _) ?_)))
      | ((with_reducible refine gD 36 rfl ?_); go_must ((refine ev_yield rfl (N := 36) rfl (run_add9 rfl rfl (n := 1) (m := a2) (q := a3) rfl rfl K3.out (by have := KB.out; omega) _) ?_)))
      | ((with_reducible refine gD 38 rfl ?_); go_must ((refine ev_yield rfl (N := 38) rfl (run_mul9 rfl rfl (n := 4) (m := q) (q := a4) rfl rfl K4.out (by have := KB.out; omega) _) ?_)))
      | ((with_reducible refine gD 39 rfl ?_); go_must ((refine ev_yield rfl (N := 39) rfl (run_add9 rfl rfl (n := a3) (m := a4) (q := a5) rfl rfl K5.out (by have := KB.out; omega) _) ?_)))
      | ((with_reducible refine gD 41 rfl ?_); go_must ((refine ev_yield rfl (N := 41) rfl (run_rem1200 rfl rfl (n := f) (q := p) rfl HFF.out.1 HFF.out.2 HP.out _) ?_)))
      | ((with_reducible refine gD 42 rfl ?_); go_must ((refine ev_yield rfl (N := 42) rfl (run_conv68 rfl (q := p) rfl HPB.out.1 (by have := HPB.out.2; omega) _) ?_)))
      | ((with_reducible refine gD 45 rfl ?_); go_must ((refine goesL_ (some 45) rfl rfl Try.func20 (by kernel_rfl) rfl #[] rfl (mpT rfl) ?_; refine (answers18 _).mono ?_; rintro e w1 ⟨rfl, hbel⟩; refine ⟨_, rfl, ?_⟩; replace HB := aK (below_step HB.out hbel); replace BXb1 := Zc hbel BXb1; replace BXb2 := Zc hbel BXb2; replace VT := aK (Kd.V_below VT.out hbel); replace NN := aK (Nat.le_trans NN.out hbel.size); clear hbel))); have e3 := (Mine.blk_cells BXb2.out 0).trans (show (fc 0 0)[0]? = some (Value.int .i64 0) from rfl))
    go_ret
    exact ⟨rfl, HB.out⟩
  · rw [if_neg hlt] at he
    have HE := aK he.1
    have HX := aK he.2.1
    have HD := aK he.2.2
    have hdl : decide (p < a5) = false := decide_eq_false hlt
    clear hlt he
    go_enter Try.func10, Try.ntmps10
    go_wp2_with (first
      | ((with_reducible refine gD 13 rfl ?_); go_must ((refine ev_yield rfl (N := 13) rfl (run_rem100 rfl rfl (n := n) (q := q) rfl HNN.out.1 HNN.out.2 HQ.out _) ?_)))
      | ((with_reducible refine gD 14 rfl ?_); go_must ((refine ev_yield rfl (N := 14) rfl (run_conv5 rfl (q := q) rfl HQB.out.1 (by have := HQB.out.2; omega) _) ?_)))
      | ((with_reducible refine gD 16 rfl ?_); go_must ((refine goesL_ (some 16) rfl rfl Try.func17 (by kernel_rfl) rfl #[.string ⟨#[118, 97, 114, 32, 120, 32, 61, 32, 48, 59, 32, 118, 97, 114, 32, 121, 32, 61, 32, 48, 59, 32, 111, 110, 32, 116, 105, 99, 107, 32, 123, 32, 119, 104, 105, 108, 101, 32, 120, 32, 60, 32, 121, 32, 123, 32, 120, 32, 61, 32, 120, 32, 43, 32, 49, 59, 32, 125, 32, 125]⟩] rfl (mpT rfl) ?_; refine (parse_calls (by decide) txL T 0 0 _ H1.out).mono ?_; rintro e w1 ⟨v, rfl, hv, hbel⟩; obtain ⟨A, c, e0⟩ := Kd.V_slice hv; subst e0; refine ⟨_, rfl, ?_⟩; obtain ⟨N, eN⟩ : ∃ n_, n_ = w1.heap.size := ⟨_, rfl⟩; have hv2 := Kd.V_mono (Kd.V_bound hv) (ok' := fun q => q < N) (fun q hq => by rw [eN]; exact hq.2); replace HB := aK (below_step HB.out hbel); have VT := aK hv2; have NN := aK (Nat.le_of_eq eN); clear hv hv2 hbel eN)))
      | ((with_reducible refine gD 6 rfl ?_); go_must ((refine ev_alloc29 rfl (N := 6) rfl rfl ?_; intro b1 hbn w1 hblk hbel; have GNb1 := aK (show N ≤ b1 by have := NN.out; omega); have GPb1 := aK (show w.heap.size ≤ b1 by have := HB.out.size; omega); replace HB := aK (below_step HB.out hbel); replace VT := aK (Kd.V_below VT.out hbel); replace NN := aK (Nat.le_trans NN.out hbel.size); have BXb1 := aK hblk; clear hblk hbel hbn)))
      | ((with_reducible refine gD 7 rfl ?_); go_must ((refine ev_alloc32 rfl (N := 7) rfl rfl ?_; intro b2 hbn w1 hblk hbel; have GNb2 := aK (show N ≤ b2 by have := NN.out; omega); have GPb2 := aK (show w.heap.size ≤ b2 by have := HB.out.size; omega); have LTb1b2 := aK (show b1 < b2 by have := blk_lt BXb1.out; omega); replace HB := aK (below_step HB.out hbel); replace BXb1 := Zc hbel BXb1; replace VT := aK (Kd.V_below VT.out hbel); replace NN := aK (Nat.le_trans NN.out hbel.size); have BXb2 := aK hblk; clear hblk hbel hbn)))
      | ((with_reducible refine gate_ (.store 29 (.tmp 6) (.tmp 17)) rfl ?_); go_must ((refine ev_store29 rfl rfl (.tmp 6) (.tmp 17) rfl (b := b1) (z := T) (v := .slice A T.f3.length c) rfl rfl BXb1.out (VK_one VT.out) ?_; intro w1 hblk hg hz; replace HB := aK (pw_below_grown HB.out _ HB.out.size hg (by intro k hk; injection hk with hk; have := GPb1.out; omega)); replace BXb1 := aK (hblk); replace BXb2 := Zh hg BXb2 LTb1b2; replace VT := aK (Kd.V_grown VT.out hg (fun q hq e => by injection e with e; have h9 : q < N := hq; have := GNb1.out; omega)); replace NN := aK (Nat.le_trans NN.out hg.size); clear hblk hg hz)))
      | ((with_reducible refine gate_ (.store 32 (.tmp 7) (.tmp 18)) rfl ?_); go_must ((refine ev_store32 rfl rfl (.tmp 7) (.tmp 18) rfl (b := b2) (e := 0) (f := 0) rfl rfl BXb2.out ?_; intro w1 hblk hg hz; replace HB := aK (pw_below_grown HB.out _ HB.out.size hg (by intro k hk; injection hk with hk; have := GPb2.out; omega)); replace BXb1 := Zg hg BXb1 LTb1b2; replace BXb2 := aK (hblk); replace VT := aK (Kd.V_grown VT.out hg (fun q hq e => by injection e with e; have h9 : q < N := hq; have := GNb2.out; omega)); replace NN := aK (Nat.le_trans NN.out hg.size); clear hblk hg hz)))
      | ((with_reducible refine gD 20 rfl ?_); go_must ((refine Mine.ev_load rfl (N := 20) rfl 29 (.tmp 6) rfl ⟨b1, 0, none⟩ rfl (nc T (.slice A T.f3.length c)) _ (Mine.blk_all BXb1.out) Try.underlying29 rfl info29s ?_)))
      | ((with_reducible refine gD 24 rfl ?_); go_must ((refine Kd.R_lit k65 w.heap.size 65 ?hg (N := 24) ?hd (xs := XL 0 q) (inner := [.string ⟨#[120]⟩, .int .i64 0, .string ⟨#[121]⟩, .int .i64 q]) (ok := fun _ => True) (okp := fun _ => True) ?hr ?hp (fun _ hk => hk) trivial HB.out HB.out.size (by show 2 ≤ 9223372036854775807; decide) ?_; (case hd => rfl); (case hg => rfl); (case hr => first | (go_simp; done) | (go_simp; rfl)); (case hp => exact Reps.c2 (k65_mkM _ _ _ ⟨⟨#[120]⟩, 0⟩) (Reps.c2 (k65_mkM _ _ _ ⟨⟨#[121]⟩, q⟩) (Reps.none _ _))); intro v1 w1 hr hbw hg1 hat; obtain ⟨A2, c2, e0⟩ : ∃ A c, v1 = Value.slice A 2 c := Kd.V_slice (Kd.R_V (base' := 0) hr); have hc2 : Kd.C k65 w1 A2 (XL 0 q).length (XL 0 q) ∧ (XL 0 q).length ≤ c2 := (by rw [e0] at hr; exact ⟨(Kd.R_reads' hr).2.2, (Kd.R_reads' hr).2.1⟩); subst e0; have hbel := pw_below_of_none hg1; replace HB := aK (below_step HB.out hbel); replace BXb1 := Zc hbel BXb1; replace BXb2 := Zc hbel BXb2; replace VT := aK (Kd.V_below VT.out hbel); replace NN := aK (Nat.le_trans NN.out hbel.size); have HCX := aK hc2; clear hr hbw hg1 hat hc2 hbel)))
      | ((with_reducible refine gD 25 rfl ?_); go_must ((refine ev_yield rfl (N := 25) rfl (run_build42 rfl p _) ?_)))
      | ((with_reducible refine gD 27 rfl ?_); go_must ((refine ev_yield rfl (N := 27) rfl (run_rem1200 rfl rfl (n := f) (q := p) rfl HFF.out.1 HFF.out.2 HP.out _) ?_)))
      | ((with_reducible refine gD 28 rfl ?_); go_must ((refine ev_yield rfl (N := 28) rfl (run_conv68 rfl (q := p) rfl HPB.out.1 (by have := HPB.out.2; omega) _) ?_)))
      | ((with_reducible refine gD 29 rfl ?_); go_must ((refine goesL_ (some 29) rfl rfl Try.func22 (by kernel_rfl) rfl #[.agg (nc T (.slice A T.f3.length c)).toArray, .slice A2 2 c2, .agg (evc (tickM p)).toArray, .int .i64 1, .int .i64 p] rfl (mpT rfl) ?_; refine (run_ok (m := tickM p) (xs := XL 0 q) (xs1 := XL q q) (nx := 2) VT.out HCX.out.1 HCX.out.2 (by show 2 < 5864062014805; decide) rfl HS.out HE.out HX.out HD.out rfl (by decide)).mono ?_; rintro e w1 ⟨bv, cv, Ao, co, rfl, hbel, hcells⟩; refine ⟨_, rfl, ?_⟩; have E1 := aK (show w1.cell? ⟨bv, 1, none⟩ = some (.int .i64 q) from (hcells 0 _ rfl).2); replace HB := aK (below_step HB.out hbel); replace BXb1 := Zc hbel BXb1; replace BXb2 := Zc hbel BXb2; replace VT := aK (Kd.V_below VT.out hbel); replace NN := aK (Nat.le_trans NN.out hbel.size); clear hbel hcells HCX)))
      | ((with_reducible refine gD 34 rfl ?_); go_must ((refine ev_yield rfl (N := 34) rfl (run_add9 rfl rfl (n := q) (m := 1) (q := a1) rfl rfl K1.out (by have := KB.out; omega) _) ?_)))
      | ((with_reducible refine gD 35 rfl ?_); go_must ((refine ev_yield rfl (N := 35) rfl (run_mul9 rfl rfl (n := 3) (m := a1) (q := a2) rfl rfl K2.out (by have := KB.out; omega) _) ?_)))
      | ((with_reducible refine gD 36 rfl ?_); go_must ((refine ev_yield rfl (N := 36) rfl (run_add9 rfl rfl (n := 1) (m := a2) (q := a3) rfl rfl K3.out (by have := KB.out; omega) _) ?_)))
      | ((with_reducible refine gD 38 rfl ?_); go_must ((refine ev_yield rfl (N := 38) rfl (run_mul9 rfl rfl (n := 4) (m := q) (q := a4) rfl rfl K4.out (by have := KB.out; omega) _) ?_)))
      | ((with_reducible refine gD 39 rfl ?_); go_must ((refine ev_yield rfl (N := 39) rfl (run_add9 rfl rfl (n := a3) (m := a4) (q := a5) rfl rfl K5.out (by have := KB.out; omega) _) ?_)))
      | ((with_reducible refine gD 41 rfl ?_); go_must ((refine ev_yield rfl (N := 41) rfl (run_rem1200 rfl rfl (n := f) (q := p) rfl HFF.out.1 HFF.out.2 HP.out _) ?_)))
      | ((with_reducible refine gD 42 rfl ?_); go_must ((refine ev_yield rfl (N := 42) rfl (run_conv68 rfl (q := p) rfl HPB.out.1 (by have := HPB.out.2; omega) _) ?_)))
      | ((with_reducible refine gD 60 rfl ?_); go_must ((refine goesL_ (some 60) rfl rfl Try.func20 (by kernel_rfl) rfl #[] rfl (mpT rfl) ?_; refine (answers18 _).mono ?_; rintro e w1 ⟨rfl, hbel⟩; refine ⟨_, rfl, ?_⟩; replace HB := aK (below_step HB.out hbel); replace BXb1 := Zc hbel BXb1; replace BXb2 := Zc hbel BXb2; replace VT := aK (Kd.V_below VT.out hbel); replace NN := aK (Nat.le_trans NN.out hbel.size); replace E1 := aK (pw_cell_below hbel E1.out); clear hbel))); have e3 := (Mine.blk_cells BXb2.out 0).trans (show (fc 0 0)[0]? = some (Value.int .i64 0) from rfl); have e4 := E1.out)
    go_ret
    exact ⟨rfl, HB.out⟩
end Go.Proofs.Ytdiadmlgeojefaa.A
