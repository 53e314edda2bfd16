/- ref04.Same at lists that read alike: true. -/
import Derived.Test.YtkmodkjjboeoeaaCopy
import Derived.Test.YtkmodkjjboeoeaaAx1
import Derived.Test.YtkmodkjjboeoeaaAx14
namespace Go.Proofs.Ytkmodkjjboeoeaa.A
open Go.RowKit Go.Proofs.YtkmodkjjboeoeaaW.PrintWords Go.Proofs.YtkmodkjjboeoeaaW.PrintLast Go.Proofs.YtkmodkjjboeoeaaW.PrintMore
set_option linter.unusedVariables false
set_option linter.unusedSimpArgs false
/-- The cells of a rule's cube, and its plain fields. -/
theorem rule_cube {W W' : World} {x : S31} {cs cs' : List Value} (h : k31.K W x cs) (h' : k31.K W' x cs') :
    (cs.drop 0).take 24 = (cs'.drop 0).take 24 ∧ (∀ w : World, (binOp .eql 28 (.agg ((cs.drop 0).take 24).toArray) (.agg ((cs.drop 0).take 24).toArray)).run Try.prog w = .ok (.bool true) w) ∧
      cs[24]? = some (.int .i64 x.f1) ∧ cs[26]? = some (.int .i64 x.f3) ∧ cs[27]? = some (.int .i64 x.f4) ∧ cs[28]? = some (.int .i64 x.f5) ∧ cs[29]? = some (.int .i64 x.f6) ∧ cs[30]? = some (.int .i64 x.f7) ∧ cs[31]? = some (.int .i64 x.f8) := by
  obtain ⟨A, c, rfl, hl, hC⟩ := k31_open h
  obtain ⟨A', c', rfl, hl', hC'⟩ := k31_open h'
  refine ⟨rfl, fun w => ?_, rfl, rfl, rfl, rfl, rfl, rfl, rfl⟩
  have := eqA28 9997 w x.f0.f0.f0 x.f0.f0.f0 x.f0.f0.f1 x.f0.f0.f1 x.f0.f0.f2 x.f0.f0.f2 x.f0.f0.f3 x.f0.f0.f3 x.f0.f0.f4 x.f0.f0.f4 x.f0.f0.f5 x.f0.f0.f5 x.f0.f0.f6 x.f0.f0.f6 x.f0.f0.f7 x.f0.f0.f7 x.f0.f0.f8 x.f0.f0.f8 x.f0.f0.f9 x.f0.f0.f9 x.f0.f0.f10 x.f0.f0.f10 x.f0.f0.f11 x.f0.f0.f11 x.f0.f1.f0 x.f0.f1.f0 x.f0.f1.f1 x.f0.f1.f1 x.f0.f1.f2 x.f0.f1.f2 x.f0.f1.f3 x.f0.f1.f3 x.f0.f1.f4 x.f0.f1.f4 x.f0.f1.f5 x.f0.f1.f5 x.f0.f1.f6 x.f0.f1.f6 x.f0.f1.f7 x.f0.f1.f7 x.f0.f1.f8 x.f0.f1.f8 x.f0.f1.f9 x.f0.f1.f9 x.f0.f1.f10 x.f0.f1.f10 x.f0.f1.f11 x.f0.f1.f11
  rw [run_eql_struct]
  simp only [beq_self_eq_true, Bool.and_true] at this
  simp only [List.drop_zero, List.take_succ_cons, List.take_zero]
  rw [this]
  rfl
set_option maxHeartbeats 4000000 in
set_option maxRecDepth 100000 in
theorem key_same (x : S31) (cs cs' : List Value) (w : World) (h : k31.K w x cs) (h' : k31.K w x cs') : Calls Try.prog 14 #[.agg cs.toArray, .agg cs'.toArray] w fun e w' => e = .returned (.bool true) ∧ Below w.heap.size w w' := by
  have hu28 := Try.underlying28
  have hi28 : (Try.prog.info? 28).map (·.size) = some 24 := by kernel_rfl
  have HI := Aside0.mk hi28
  obtain ⟨e1, heq, h24, _⟩ := rule_cube h h'
  obtain ⟨_, _, h24', _⟩ := rule_cube h' h
  obtain ⟨hl, _⟩ := rule_shape h
  have L1 := Aside0.mk (show ((cs.drop 0).take 24).length = 24 by simp; omega)
  have E1 := Aside0.mk e1.symm
  obtain ⟨cu, hcu⟩ : ∃ c_ : List Value, c_ = (cs.drop 0).take 24 := ⟨_, rfl⟩
  rw [← hcu] at heq L1 E1
  have HCU := Aside0.mk hcu
  have H24 := Aside0.mk h24
  have H24' := Aside0.mk h24'
  have HB := Aside0.mk (Below.refl w.heap.size w)
  clear h h' e1 hcu h24 h24' hl hi28
  go_enter Try.func14, Try.ntmps14
  go_wp2_with (first
    | ((with_reducible refine gate_dst (N := 2) rfl ?_); refine Mine.ev_box rfl (N := 2) rfl (.tmp 0) rfl cs rfl ?_; intro g1 hg1 w1 hb1 hbel; have B1 := Aside0.mk hb1; have n0 := Aside0.mk (below_step HB.out hbel); clear HB; have HB := n0; clear n0 hb1 hbel hg1)
    | ((with_reducible refine gate_dst (N := 3) rfl ?_); refine Mine.ev_box rfl (N := 3) rfl (.tmp 1) rfl cs' rfl ?_; intro g2 hg2 w2 hb2 hbel; have B2 := Aside0.mk hb2; have n1 := Aside0.mk (below_blk hbel B1.out); have n0 := Aside0.mk (below_step HB.out hbel); clear HB B1; have HB := n0; have B1 := n1; clear n0 n1 hb2 hbel hg2; have hc1 := (Mine.blk_cells B1.out 24).trans H24.out; have hc2 := (Mine.blk_cells B2.out 24).trans H24'.out)
    | ((with_reducible refine gate_dst (N := 6) rfl ?_); refine Mine.ev_load rfl (N := 6) rfl 28 (.tmp 5) rfl ⟨g1, 0, none⟩ rfl cu _ (by rw [HCU.out]; exact Mine.blk_seg B1.out 0 24) hu28 rfl (by rw [HI.out, L1.out]) ?_)
    | ((with_reducible refine gate_dst (N := 8) rfl ?_); refine Mine.ev_load rfl (N := 8) rfl 28 (.tmp 7) rfl ⟨g2, 0, none⟩ rfl cu _ (by rw [← E1.out]; exact Mine.blk_seg B2.out 0 24) hu28 rfl (by rw [HI.out, L1.out]) ?_))
  go_ret
  exact ⟨rfl, HB.out⟩
theorem acts_some (l : List S36) (hl : l.length < 4398046511104) : ∀ (d k : Nat) (i : Int), 0 ≤ i → (l.length : Int) - i ≤ d → d < k → podestaref04_SameActs.l0 k l l i = some true := by
  intro d
  induction d with
  | zero =>
    intro k i h0 h1 h2
    obtain ⟨k, rfl⟩ : ∃ m, k = m + 1 := ⟨k - 1, by omega⟩
    simp only [podestaref04_SameActs.l0]
    rw [if_neg (by omega)]
  | succ d ih =>
    intro k i h0 h1 h2
    obtain ⟨k, rfl⟩ : ∃ m, k = m + 1 := ⟨k - 1, by omega⟩
    simp only [podestaref04_SameActs.l0]
    by_cases h : i < (l.length : Int)
    · rw [if_pos h, if_pos h0, if_pos h]
      simp only [beq_self_eq_true, Bool.not_true, Bool.or_false, Bool.false_eq_true, if_false]
      have hw : wrap64 (i + 1) = i + 1 := by unfold wrap64; omega
      rw [hw]
      exact ih k (i + 1) (by omega) (by omega) (by omega)
    · rw [if_neg h]
theorem acts_same (l : List S36) (hl : l.length < 4398046511104) : podestaref04_SameActs.f (l.length + 1) l l = some true := by
  unfold podestaref04_SameActs.f
  rw [if_pos rfl]
  exact acts_some l hl l.length _ 0 (by omega) (by omega) (by omega)
set_option maxHeartbeats 4000000 in
set_option maxRecDepth 100000 in
theorem equal_same (x : S31) (cs cs' : List Value) (w : World) (h : k31.K w x cs) (h' : k31.K w x cs') (hlim : x.f2.length < 4398046511104) : Calls Try.prog 11 #[.agg cs.toArray, .agg cs'.toArray] w fun e w' => e = .returned (.bool true) ∧ Below w.heap.size w w' := by
  have hu31 := Try.underlying31
  have hi31 : (Try.prog.info? 31).map (·.size) = some 32 := by kernel_rfl
  have HI := Aside0.mk hi31
  have HLIM := Aside0.mk hlim
  have HK1 := Aside0.mk h
  have HK2 := Aside0.mk h'
  have HB := Aside0.mk (Below.refl w.heap.size w)
  clear h h' hlim hi31
  go_enter Try.func11, Try.ntmps11
  go_wp2_with (first
    | ((with_reducible refine gate_dst (N := 2) rfl ?_); refine Mine.ev_box rfl (N := 2) rfl (.tmp 0) rfl cs rfl ?_; intro g1 hg1 w1 hb1 hbel; have B1 := Aside0.mk hb1; have n0 := Aside0.mk (below_step HB.out hbel); clear HB; have HB := n0; clear n0 hb1 hbel hg1)
    | ((with_reducible refine gate_dst (N := 3) rfl ?_); refine Mine.ev_box rfl (N := 3) rfl (.tmp 1) rfl cs' rfl ?_; intro g2 hg2 w2 hb2 hbel; have B2 := Aside0.mk hb2; have n1 := Aside0.mk (below_blk hbel B1.out); have n0 := Aside0.mk (below_step HB.out hbel); clear HB B1; have HB := n0; have B1 := n1; clear n0 n1 hb2 hbel hg2)
    | ((with_reducible refine gate_dst (N := 5) rfl ?_); refine Mine.ev_load rfl (N := 5) rfl 31 (.tmp 2) rfl ⟨g1, 0, none⟩ rfl cs _ (Mine.blk_all B1.out) hu31 rfl (by rw [HI.out, (rule_shape HK1.out).1]) ?_)
    | ((with_reducible refine gate_dst (N := 6) rfl ?_); refine Mine.ev_load rfl (N := 6) rfl 31 (.tmp 3) rfl ⟨g2, 0, none⟩ rfl cs' _ (Mine.blk_all B2.out) hu31 rfl (by rw [HI.out, (rule_shape HK2.out).1]) ?_)
    | (go_at_call 14; refine (key_same x cs cs' _ (k31.K_below HB.out HK1.out) (k31.K_below HB.out HK2.out)).mono ?_; rintro e w3 ⟨rfl, hbel⟩; have n2 := Aside0.mk (below_blk hbel B2.out); have n1 := Aside0.mk (below_blk hbel B1.out); have n0 := Aside0.mk (below_step HB.out hbel); clear HB B1 B2 hbel; have HB := n0; have B1 := n1; have B2 := n2; clear n0 n1 n2; obtain ⟨_, _, A1, c1, hs1, hle1, hC1⟩ := rule_shape (k31.K_below HB.out HK1.out); obtain ⟨_, _, A2, c2, hs2, hle2, hC2⟩ := rule_shape (k31.K_below HB.out HK2.out); have hc1 := (Mine.blk_cells B1.out 25).trans hs1; have hc2 := (Mine.blk_cells B2.out 25).trans hs2; have HC1 := Aside0.mk hC1; have HC2 := Aside0.mk hC2; have HL1 := Aside0.mk hle1; have HL2 := Aside0.mk hle2; clear hs1 hs2 hC1 hC2 hle1 hle2)
    | (go_at_call 15; refine (podestaref04_SameActs.calls _ A1 c1 x.f2 A2 c2 x.f2 true _ HC1.out HL1.out HC2.out HL2.out (acts_same _ HLIM.out)).mono ?_; rintro e w4 ⟨rfl, hd⟩; have n2 := Aside0.mk (below_blk hd.below B2.out); have n1 := Aside0.mk (below_blk hd.below B1.out); have n0 := Aside0.mk (below_step HB.out hd.below); clear HB B1 B2 hd hc1 hc2; have HB := n0; have B1 := n1; have B2 := n2; clear n0 n1 n2; obtain ⟨_, _, _, p26, p27, p28, p29, p30, p31⟩ := rule_cube HK1.out HK2.out; obtain ⟨_, _, _, q26, q27, q28, q29, q30, q31⟩ := rule_cube HK2.out HK1.out; have d26 := (Mine.blk_cells B1.out 26).trans p26; have d27 := (Mine.blk_cells B1.out 27).trans p27; have d28 := (Mine.blk_cells B1.out 28).trans p28; have d29 := (Mine.blk_cells B1.out 29).trans p29; have d30 := (Mine.blk_cells B1.out 30).trans p30; have d31 := (Mine.blk_cells B1.out 31).trans p31; have f26 := (Mine.blk_cells B2.out 26).trans q26; have f27 := (Mine.blk_cells B2.out 27).trans q27; have f28 := (Mine.blk_cells B2.out 28).trans q28; have f29 := (Mine.blk_cells B2.out 29).trans q29; have f30 := (Mine.blk_cells B2.out 30).trans q30; have f31 := (Mine.blk_cells B2.out 31).trans q31; clear p26 p27 p28 p29 p30 p31 q26 q27 q28 q29 q30 q31))
  go_ret
  exact ⟨rfl, HB.out⟩
set_option maxHeartbeats 4000000 in
set_option maxRecDepth 100000 in
theorem same_same (xs : List S31) (A A' : Option Addr) (c c' : Nat) (w : World) (hC : Kd.C k31 w A xs.length xs) (hc : xs.length ≤ c) (hC' : Kd.C k31 w A' xs.length xs) (hc' : xs.length ≤ c') (hlen : xs.length < 100000) (hlim : ∀ x ∈ xs, x.f2.length < 4398046511104) :
    Calls Try.prog 7 #[.slice A xs.length c, .slice A' xs.length c'] w fun e w' => e = .returned (.bool true) ∧ Below w.heap.size w w' := by
  have hu31 := Try.underlying31
  have hi31 : (Try.prog.info? 31).map (·.size) = some 32 := by kernel_rfl
  have HI := Aside0.mk hi31
  have HC1 := Aside0.mk hC
  have HC2 := Aside0.mk hC'
  have HL1 := Aside0.mk hc
  have HL2 := Aside0.mk hc'
  have HLEN := Aside0.mk hlen
  have HLIM := Aside0.mk hlim
  have HB := Aside0.mk (Below.refl w.heap.size w)
  clear hC hC' hc hc' hlen hlim hi31
  go_enter Try.func7, Try.ntmps7
  go_wp2
  go_loopg [5] (xs.length + 1) (fun kq v5 w' => ∃ k : Nat, v5 = .int .i64 k ∧ k ≤ xs.length ∧ Aside0 (kq + k = xs.length + 1) ∧ Aside0 (Below w.heap.size w w'))
  case atStart => exact ⟨0, rfl, Nat.zero_le _, ⟨rfl⟩, HB⟩
  case round =>
    clear HB
    obtain ⟨k, rfl, hk, HQ, HB⟩ := hrel
    by_cases hlt : k < xs.length
    · obtain ⟨a1, cs1, e1, hcl1, hK1, hcc1⟩ := Kd.C_get (Kd.C_below HC1.out HB.out) z31 (k : Int) (by omega) (by omega)
      obtain ⟨a2, cs2, e2, hcl2, hK2, hcc2⟩ := Kd.C_get (Kd.C_below HC2.out HB.out) z31 (k : Int) (by omega) (by omega)
      subst e1; subst e2
      have hx : xs.getD ((k : Int)).toNat z31 = xs[k] := by simp [List.getD, hlt]
      have HX := Aside0.mk (show (xs.getD ((k : Int)).toNat z31).f2.length < 4398046511104 by rw [hx]; exact HLIM.out _ (List.getElem_mem hlt))
      clear hx
      obtain ⟨x, ex⟩ : ∃ x_ : S31, x_ = xs.getD ((k : Int)).toNat z31 := ⟨_, rfl⟩
      rw [← ex] at hK1 hK2 HX
      clear ex
      have K1 := Aside0.mk hK1
      have K2 := Aside0.mk hK2
      have CC1 := Aside0.mk hcc1
      have CC2 := Aside0.mk hcc2
      have CL1 := Aside0.mk (show cs1.length = 32 from hcl1)
      have CL2 := Aside0.mk (show cs2.length = 32 from hcl2)
      clear hK1 hK2 hcc1 hcc2 hcl1 hcl2
      have p1 : (0 : Int) ≤ k := by omega
      have p2 : (k : Int) < xs.length := by omega
      go_wp2_with (first
        | (refine wp_region_still_tail 8 (by kernel_rfl) (by kernel_rfl) ?_; simp only [List.take_succ_cons, List.take_zero, List.drop_succ_cons, List.drop_zero]; still_step; still_step; still_step; refine Mine.still_load rfl (N := 20) rfl 31 (.tmp 19) rfl (a1.add (k * 32)) rfl cs1 _ (fun j v hv => by rw [add_add]; exact CC1.out j v hv) hu31 rfl (by rw [HI.out, CL1.out]) ?_; still_step; still_step; still_step; refine Mine.still_load rfl (N := 24) rfl 31 (.tmp 23) rfl (a2.add (k * 32)) rfl cs2 _ (fun j v hv => by rw [add_add]; exact CC2.out j v hv) hu31 rfl (by rw [HI.out, CL2.out]) ?_; refine wpStill_nil ?_)
        | (go_at_call 11; refine (equal_same x cs1 cs2 _ (k31.K_below (below_drew (Below.refl _ _)) K1.out) (k31.K_below (below_drew (Below.refl _ _)) K2.out) HX.out).mono ?_; rintro e w4 ⟨rfl, hbel⟩; have n0 := Aside0.mk (below_step (below_drew HB.out) hbel); clear HB hbel; have HB := n0; clear n0))
      have hw1 : wrap64 ((k : Int) + 1) = ((k + 1 : Nat) : Int) := by have := HLEN.out; unfold wrap64; omega
      rw [hw1]
      clear hw1
      obtain ⟨k1, rfl⟩ : ∃ m, gk = m + 1 := ⟨gk - 1, by have := HQ.out; omega⟩
      go_roundg k1
      case rel => exact ⟨k + 1, rfl, hlt, ⟨by have := HQ.out; omega⟩, HB⟩
      case measure => omega
    · obtain rfl : k = xs.length := by omega
      go_wp2
      go_ret
      exact ⟨rfl, HB.out⟩
end Go.Proofs.Ytkmodkjjboeoeaa.A
