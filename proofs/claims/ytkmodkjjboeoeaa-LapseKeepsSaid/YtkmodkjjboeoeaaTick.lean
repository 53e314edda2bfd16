/- lapse.Tick: what is left of a list of rules, and what is gone, all of it in new memory. -/
import Derived.Test.YtkmodkjjboeoeaaCopy
import Derived.Test.YtkmodkjjboeoeaaAx8
import Derived.Test.YtkmodkjjboeoeaaAx9
import Derived.StillTailTactics
namespace Go.Proofs.Ytkmodkjjboeoeaa.A
open Go.RowKit Go.Proofs.YtkmodkjjboeoeaaW.PrintWords Go.Proofs.YtkmodkjjboeoeaaW.PrintLast Go.Proofs.YtkmodkjjboeoeaaW.PrintMore
attribute [local go_sem] max2_int min2_int max_two min_two max_three min_three max_four min_four
set_option linter.unusedVariables false
set_option linter.unusedSimpArgs false
def moreF (a n : Int) : Int := if a ≥ (wrap64 (4611686018427387904 - n)) then mx a 4611686018427387904 else wrap64 (a + n)
theorem more_calls (a0 a1 : Int) (w : World) : Calls Try.prog 9 #[.int .i64 a0, .int .i64 a1] w fun e w' => e = .returned (.int .i64 (moreF a0 a1)) ∧ w' = w := by
  by_cases c3 : a0 ≥ (wrap64 (4611686018427387904 - a1))
  · have c3b0 : decide ((wrap64 (4611686018427387904 - a1)) ≤ a0) = true := decide_eq_true c3
    have hm : moreF a0 a1 = mx a0 4611686018427387904 := if_pos c3
    clear c3
    by_cases d : a0 < 4611686018427387904
    · have hf := Aside0.mk (show moreF a0 a1 = 4611686018427387904 by rw [hm]; exact if_pos d)
      clear hm
      go_enter Try.func9, Try.ntmps9
      go_wp2
      go_ret
      exact ⟨by rw [hf.out]; rfl, rfl⟩
    · have hf := Aside0.mk (show moreF a0 a1 = a0 by rw [hm]; exact if_neg d)
      clear hm
      go_enter Try.func9, Try.ntmps9
      go_wp2
      go_ret
      exact ⟨by rw [hf.out]; rfl, rfl⟩
  · have c3b0 : decide ((wrap64 (4611686018427387904 - a1)) ≤ a0) = false := decide_eq_false c3
    have hf := Aside0.mk (show moreF a0 a1 = wrap64 (a0 + a1) from if_neg c3)
    clear c3
    go_enter Try.func9, Try.ntmps9
    go_wp2
    go_ret
    exact ⟨by rw [hf.out]; rfl, rfl⟩
/-- A rule, some moments older. -/
def aged (n : Int) (x : S31) : S31 := { x with f7 := moreF x.f7 n, f8 := moreF x.f8 n }
def overB (x : S31) : Bool := if x.f4 > 0 then (if x.f8 ≥ x.f4 then true else if x.f3 > 0 then decide (x.f7 ≥ x.f3) else false) else if x.f3 > 0 then decide (x.f7 ≥ x.f3) else false
theorem rule_aged {W : World} {ok : Nat → Prop} {x : S31} {cs : List Value} (n : Int) (h : Kd.FK k31u W ok x cs) : Kd.FK k31u W ok (aged n x) ((cs.set 31 (.int .i64 (moreF x.f8 n))).set 30 (.int .i64 (moreF x.f7 n))) := by
  refine FK_typ h ?_ (by rw [List.getElem?_set_ne (by decide), List.getElem?_set_ne (by decide)])
  obtain ⟨A, c, rfl, hl, hF⟩ := k31_openF (FK_plain h)
  exact k31_mkF W ok (aged n x) hl hF
theorem rule_times {W : World} {x : S31} {cs : List Value} (h : k31u.K W x cs) : cs[31]? = some (.int .i64 x.f8) ∧ cs[30]? = some (.int .i64 x.f7) := by
  obtain ⟨A, c, rfl, hl, hC⟩ := k31_open h.1
  exact ⟨rfl, rfl⟩
theorem over_calls (x : S31) (cs : List Value) (w : World) (h : k31u.K w x cs) : Calls Try.prog 10 #[.agg cs.toArray] w fun e w' => e = .returned (.bool (overB x)) ∧ Below w.heap.size w w' := by
  obtain ⟨A, c, rfl, hl, hC⟩ := k31_open h.1
  refine lapse_over.calls _ _ _ _ _ _ _ _ _ _ _ _ _ _ _ _ _ _ _ _ _ _ _ _ _ A c x.f2 _ _ _ _ _ _ (overB x) w hC hl ?_
  unfold lapse_over.f overB
  repeat' split
  all_goals rfl
set_option maxHeartbeats 4000000 in
set_option maxRecDepth 100000 in
theorem tick_calls (l : List S31) (A : Option Addr) (c : Nat) (n : Int) (w : World) (hC : Kd.C k31u w A l.length l) (hc : l.length ≤ c) (hsm : Small l) (hn0 : 0 ≤ n) (hn1 : n ≤ 1048576) :
    Calls Try.prog 5 #[.slice A l.length c, .int .i64 n] w fun e w' => ∃ v0 v1, e = .returned (.tuple #[v0, v1]) ∧
      Kd.N k31u 31 w' w.heap.size (fun k => w.heap.size ≤ k ∧ some k ≠ v1.ownBlock) v0 ((l.map (aged n)).filter fun x => !overB x) ∧
      Kd.N k31u 31 w' w.heap.size (fun k => w.heap.size ≤ k ∧ some k ≠ v0.ownBlock) v1 ((l.map (aged n)).filter overB) ∧ Below w.heap.size w w' := by
  have hu31 := Try.underlying31
  have hi31 : (Try.prog.info? 31).map (·.size) = some 32 := by kernel_rfl
  have HI := Aside0.mk hi31
  have HC := Aside0.mk hC
  have HLE := Aside0.mk hc
  have HSM := Aside0.mk hsm
  clear hi31 hC hc hsm
  go_enter Try.func5, Try.ntmps5
  go_wp2_with (go_at_call 8; refine (copy_calls l A c _ HC.out HLE.out HSM.out).mono ?_; rintro e w1 ⟨v, rfl, hV, hbel⟩; obtain ⟨A2, c2, rfl⟩ := Kd.V_slice hV; have HB0 := Aside0.mk hbel; have HV := Aside0.mk (Kd.V_bound hV); have HC2 := Aside0.mk (Kd.V_reads' hV).2.1; clear hV hbel HC HLE)
  go_loopg [4, 5, 14] (l.length + 1) (fun kq v4 v5 v14 w' => ∃ k : Nat, v14 = .int .i64 k ∧ k ≤ l.length ∧ Aside0 (kq + k = l.length + 1) ∧
      Aside0 (Kd.N k31u 31 w' w1.heap.size (fun q => w.heap.size ≤ q ∧ some q ≠ v5.ownBlock) v4 (((l.take k).map (aged n)).filter fun x => !overB x)) ∧
      Aside0 (Kd.N k31u 31 w' w1.heap.size (fun q => w.heap.size ≤ q ∧ some q ≠ v4.ownBlock) v5 (((l.take k).map (aged n)).filter overB)) ∧ Aside0 (Below w1.heap.size w1 w'))
  case atStart => exact ⟨0, rfl, Nat.zero_le _, ⟨rfl⟩, ⟨Kd.N_nil _ _ _ _ _⟩, ⟨Kd.N_nil _ _ _ _ _⟩, ⟨Below.refl _ _⟩⟩
  case round =>
    obtain ⟨k, rfl, hk, HQ, HL, HG, HB⟩ := hrel
    by_cases hlt : k < l.length
    · obtain ⟨ad, cs, e2, hcl, hK, hcc, hok⟩ := Kd.F_get (Kd.F_below (Kd.V_F HV.out) HB.out) z31 (k : Int) (by omega) (by omega)
      subst e2
      have HK := Aside0.mk hK
      have HCC := Aside0.mk hcc
      have HCL := Aside0.mk (show cs.length = 32 from hcl)
      clear hK hcc hcl hok
      have p1 : (0 : Int) ≤ k := by omega
      have p2 : (k : Int) < l.length := by omega
      have hx : l.getD ((k : Int)).toNat z31 = l[k] := by simp [List.getD, hlt]
      have HT := Aside0.mk (show l.take (k + 1) = l.take k ++ [l.getD ((k : Int)).toNat z31] by rw [hx, List.take_succ_eq_append_getElem hlt])
      clear hx
      obtain ⟨x, ex⟩ : ∃ x_ : S31, x_ = l.getD ((k : Int)).toNat z31 := ⟨_, rfl⟩
      rw [← ex] at HK HT
      clear ex
      obtain ⟨xa, exa⟩ : ∃ x_ : S31, x_ = aged n x := ⟨_, rfl⟩
      have HXA := Aside0.mk exa
      clear exa
      have hbase : w.heap.size ≤ w1.heap.size := HB0.out.size
      have hbase2 : w1.heap.size ≤ wr.heap.size := HB.out.size
      have HZ := Aside0.mk hbase
      have HZ2 := Aside0.mk hbase2
      clear hbase hbase2
      have HL1 := Aside0.mk (Kd.N_bound HL.out)
      have HG1 := Aside0.mk (Kd.N_bound HG.out)
      clear HL HG
      have HR := Aside0.mk (Below.refl wr.heap.size wr)
      obtain ⟨AL, cL, eL⟩ := Kd.N_slice HL1.out
      obtain ⟨AG, cG, eG⟩ := Kd.N_slice HG1.out
      obtain ⟨nL, enL⟩ : ∃ q : Nat, q = (((l.take k).map (aged n)).filter fun x => !overB x).length := ⟨_, rfl⟩
      obtain ⟨nG, enG⟩ : ∃ q : Nat, q = (((l.take k).map (aged n)).filter overB).length := ⟨_, rfl⟩
      have HnL := Aside0.mk (show nL < 100000 by rw [enL]; have h1 := List.length_filter_le (fun x => !overB x) ((l.take k).map (aged n)); have h2 := HSM.out.1; simp only [List.length_map, List.length_take] at h1; omega)
      have HnG := Aside0.mk (show nG < 100000 by rw [enG]; have h1 := List.length_filter_le overB ((l.take k).map (aged n)); have h2 := HSM.out.1; simp only [List.length_map, List.length_take] at h1; omega)
      rw [← enL] at eL
      rw [← enG] at eG
      have HEL := Aside0.mk enL
      have HEG := Aside0.mk enG
      clear enL enG
      subst eL; subst eG
      go_wp2_with (first
        | ((with_reducible refine gate_dst (N := 17) rfl ?_); refine Mine.ev_load rfl (N := 17) rfl 31 (.tmp 16) rfl (ad.add (k * 32)) rfl cs _ (fun j v hv => by rw [add_add]; exact HCC.out j v hv) hu31 rfl (by rw [HI.out, HCL.out]) ?_; clear HCC)
        | ((with_reducible refine gate_dst (N := 7) rfl ?_); refine ev_alloc31 rfl (N := 7) rfl rfl ?_; intro g5 zs hg5 hzl w3 hb5 hbel; have G5 := Aside0.mk hg5; have ZL := Aside0.mk hzl; have B5 := Aside0.mk hb5; have n0 := Aside0.mk (below_step HR.out hbel); have n1 := Aside0.mk (Kd.N_below HL1.out hbel); have n2 := Aside0.mk (Kd.N_below HG1.out hbel); clear HR HL1 HG1 hg5 hzl hb5 hbel; have HR := n0; have HL1 := n1; have HG1 := n2; clear n0 n1 n2)
        | ((with_reducible refine gate_ (.store 31 (.tmp 7) (.tmp 17)) rfl ?_); refine Mine.ev_store (g := g5) (j := 0) rfl rfl 31 (.tmp 7) (.tmp 17) rfl (.agg cs.toArray) cs rfl rfl rfl B5.out (by have := ZL.out; have := HCL.out; omega) (by rw [HI.out, HCL.out]) (k31u.K_one (Kd.FK_now HK.out)) ?_; intro w4 hb2 hg2 hz2; rw [Mine.splice_all _ _ (HCL.out.trans ZL.out.symm)] at hb2; have n0 := Aside0.mk (pw_below_grown HR.out _ HR.out.size hg2 (by rintro q h; injection h with h; have := G5.out; omega)); have n1 := Aside0.mk (Kd.N_grown HL1.out hg2 (fun q hq e => by injection e with e; have := hq.2; have := G5.out; omega)); have n3 := Aside0.mk (Kd.N_grown HG1.out hg2 (fun q hq e => by injection e with e; have := hq.2; have := G5.out; omega)); have n2 := Aside0.mk hb2; clear HR HL1 HG1 B5 hb2 hg2 hz2; have HR := n0; have HL1 := n1; have HG1 := n3; have B5 := n2; clear n0 n1 n2 n3; have hc31 := (Mine.blk_cells B5.out 31).trans (rule_times (Kd.FK_now HK.out)).1; have hc30 := (Mine.blk_cells B5.out 30).trans (rule_times (Kd.FK_now HK.out)).2; have hf31 := blk_frozen B5.out 31; have hf30 := blk_frozen B5.out 30)
        | (refine wp_region_still_tail 9 (by kernel_rfl) (by kernel_rfl) ?_; simp only [List.take_succ_cons, List.take_zero, List.drop_succ_cons, List.drop_zero]; still_step; still_step; still_step; still_call (more_calls _ _ _); still_step; still_step; still_step; still_call (more_calls _ _ _); still_step; refine wpStill_nil ?_; have n0 := Aside0.mk (below_drew HR.out); have n1 := Aside0.mk (Kd.N_drew HL1.out); have n3 := Aside0.mk (Kd.N_drew HG1.out); have n2 := Aside0.mk (blk_drew B5.out); clear HR HL1 HG1 B5 hc31 hc30 hf31 hf30; have HR := n0; have HL1 := n1; have HG1 := n3; have B5 := n2; clear n0 n1 n2 n3)
        | ((with_reducible refine gate_ (.store 3 (.tmp 26) (.tmp 21)) rfl ?_); refine Mine.ev_store (g := g5) (j := 31) rfl rfl 3 (.tmp 26) (.tmp 21) rfl (.int .i64 (moreF x.f8 n)) [.int .i64 (moreF x.f8 n)] rfl rfl rfl B5.out (by have := HCL.out; simp only [List.length_cons, List.length_nil]; omega) (by kernel_rfl) (by simp [Value.oneCell']) ?_; intro w5 hb2 hg2 hz2; rw [Mine.splice_one _ _ _ (by have := HCL.out; omega)] at hb2; obtain ⟨cs1, e2⟩ : ∃ c_ : List Value, c_ = cs.set 31 (.int .i64 (moreF x.f8 n)) := ⟨_, rfl⟩; rw [← e2] at hb2; have HC1 := Aside0.mk (show cs1.length = 32 by rw [e2, List.length_set]; exact HCL.out); have HE1 := Aside0.mk e2; clear e2; have n0 := Aside0.mk (pw_below_grown HR.out _ HR.out.size hg2 (by rintro q h; injection h with h; have := G5.out; omega)); have n1 := Aside0.mk (Kd.N_grown HL1.out hg2 (fun q hq e => by injection e with e; have := hq.2; have := G5.out; omega)); have n3 := Aside0.mk (Kd.N_grown HG1.out hg2 (fun q hq e => by injection e with e; have := hq.2; have := G5.out; omega)); have n2 := Aside0.mk hb2; clear HR HL1 HG1 B5 hb2 hg2 hz2; have HR := n0; have HL1 := n1; have HG1 := n3; have B5 := n2; clear n0 n1 n2 n3)
        | ((with_reducible refine gate_ (.store 3 (.tmp 27) (.tmp 25)) rfl ?_); refine Mine.ev_store (g := g5) (j := 30) rfl rfl 3 (.tmp 27) (.tmp 25) rfl (.int .i64 (moreF x.f7 n)) [.int .i64 (moreF x.f7 n)] rfl rfl rfl B5.out (by have := HC1.out; simp only [List.length_cons, List.length_nil]; omega) (by kernel_rfl) (by simp [Value.oneCell']) ?_; intro w6 hb2 hg2 hz2; rw [Mine.splice_one _ _ _ (by have := HC1.out; omega)] at hb2; obtain ⟨cs2, e2⟩ : ∃ c_ : List Value, c_ = cs1.set 30 (.int .i64 (moreF x.f7 n)) := ⟨_, rfl⟩; rw [← e2] at hb2; have HC2_ := Aside0.mk (show cs2.length = 32 by rw [e2, List.length_set]; exact HC1.out); have HE2 := Aside0.mk e2; clear e2; have n0 := Aside0.mk (pw_below_grown HR.out _ HR.out.size hg2 (by rintro q h; injection h with h; have := G5.out; omega)); have n1 := Aside0.mk (Kd.N_grown HL1.out hg2 (fun q hq e => by injection e with e; have := hq.2; have := G5.out; omega)); have n3 := Aside0.mk (Kd.N_grown HG1.out hg2 (fun q hq e => by injection e with e; have := hq.2; have := G5.out; omega)); have n2 := Aside0.mk hb2; clear HR HL1 HG1 B5 hb2 hg2 hz2; have HR := n0; have HL1 := n1; have HG1 := n3; have B5 := n2; clear n0 n1 n2 n3)
        | ((with_reducible refine gate_dst (N := 28) rfl ?_); refine Mine.ev_load rfl (N := 28) rfl 31 (.tmp 7) rfl ⟨g5, 0, none⟩ rfl cs2 _ (Mine.blk_all B5.out) hu31 rfl (by rw [HI.out, HC2_.out]) ?_)
        | (go_at_call 10; refine (over_calls xa cs2 _ (Kd.FK_now (Kd.FK_below (by rw [HXA.out, HE2.out, HE1.out]; exact rule_aged n HK.out) HR.out))).mono ?_; rintro e w7 ⟨rfl, hbel⟩; have n1 := Aside0.mk (Kd.N_below HL1.out hbel); have n3 := Aside0.mk (Kd.N_below HG1.out hbel); have n2 := Aside0.mk (below_blk hbel B5.out); have n0 := Aside0.mk (below_step HR.out hbel); clear HR HL1 HG1 B5 hbel; have HR := n0; have HL1 := n1; have HG1 := n3; have B5 := n2; clear n0 n1 n2 n3)
        | ((with_reducible refine gate_dst (N := 31) rfl ?_); refine Mine.ev_load rfl (N := 31) rfl 31 (.tmp 7) rfl ⟨g5, 0, none⟩ rfl cs2 _ (Mine.blk_all B5.out) hu31 rfl (by rw [HI.out, HC2_.out]) ?_)
        | ((with_reducible refine gate_dst (N := 32) rfl ?_); refine Mine.ev_lit1 rfl (N := 32) rfl 22 31 (.tmp 31) rfl cs2 rfl Try.underlying22 info31 HC2_.out (by omega) (by omega) ?_)
        | ((with_reducible refine gate_builtin (b := .append) (xs := #[.tmp 30, .tmp 32]) rfl ?_); at_builtin; go_must ((refine Kd.N_append k31u (w0 := w1) w1.heap.size rfl (.tmp 30) (.tmp 32) 22 31 _ 272 rfl Try.underlying22 info31 rfl (by decide) (by omega) (.slice AG nG cG) (((l.take k).map (aged n)).filter overB) xa cs2 (fun q => w.heap.size ≤ q ∧ some q ≠ (Value.slice AL nL cL).ownBlock) (fun q => w.heap.size ≤ q ∧ q < w1.heap.size) rfl rfl ?aP ?aK ?aF ?aO ?aB ?aS ?aL ?_); (case aP => exact (Kd.FK_below (by rw [HXA.out, HE2.out, HE1.out]; exact rule_aged n HK.out) HR.out)); (case aK => exact fun q hq => ⟨⟨hq.1, fun e => by have := Kd.N_base HL1.out q e.symm; have := hq.2; omega⟩, fun e => by have := Kd.N_base HG1.out q e.symm; have := hq.2; omega⟩); (case aF => exact fun q hq => ⟨by have := HZ.out; have := HZ2.out; have := HR.out.size; omega, fun e => by have := Kd.N_lt HL1.out q e.symm; omega⟩); (case aO => exact Kd.N_mono HG1.out (fun q hq => hq.1)); (case aB => exact below_step HB.out HR.out); (case aS => have := HZ2.out; have := HR.out.size; omega); (case aL => have := HnG.out; rw [← HEG.out]; omega); intro v1 w9 hN hb hg hat; have HN2 := Aside0.mk hN; have HB2 := Aside0.mk hb; have HO2 := Aside0.mk (Kd.N_grown (Kd.N_bound HL1.out) hg (fun q hq => hq.1.1.2)); have HAT := Aside0.mk hat; have HSZ := Aside0.mk hg.size; clear hN hb hg hat HL1 HG1 HR B5))
        | ((with_reducible refine gate_dst (N := 35) rfl ?_); refine Mine.ev_load rfl (N := 35) rfl 31 (.tmp 7) rfl ⟨g5, 0, none⟩ rfl cs2 _ (Mine.blk_all B5.out) hu31 rfl (by rw [HI.out, HC2_.out]) ?_)
        | ((with_reducible refine gate_dst (N := 36) rfl ?_); refine Mine.ev_lit1 rfl (N := 36) rfl 22 31 (.tmp 35) rfl cs2 rfl Try.underlying22 info31 HC2_.out (by omega) (by omega) ?_)
        | ((with_reducible refine gate_builtin (b := .append) (xs := #[.tmp 34, .tmp 36]) rfl ?_); at_builtin; go_must ((refine Kd.N_append k31u (w0 := w1) w1.heap.size rfl (.tmp 34) (.tmp 36) 22 31 _ 272 rfl Try.underlying22 info31 rfl (by decide) (by omega) (.slice AL nL cL) (((l.take k).map (aged n)).filter fun x => !overB x) xa cs2 (fun q => w.heap.size ≤ q ∧ some q ≠ (Value.slice AG nG cG).ownBlock) (fun q => w.heap.size ≤ q ∧ q < w1.heap.size) rfl rfl ?aP ?aK ?aF ?aO ?aB ?aS ?aL ?_); (case aP => exact (Kd.FK_below (by rw [HXA.out, HE2.out, HE1.out]; exact rule_aged n HK.out) HR.out)); (case aK => exact fun q hq => ⟨⟨hq.1, fun e => by have := Kd.N_base HG1.out q e.symm; have := hq.2; omega⟩, fun e => by have := Kd.N_base HL1.out q e.symm; have := hq.2; omega⟩); (case aF => exact fun q hq => ⟨by have := HZ.out; have := HZ2.out; have := HR.out.size; omega, fun e => by have := Kd.N_lt HG1.out q e.symm; omega⟩); (case aO => exact Kd.N_mono HL1.out (fun q hq => hq.1)); (case aB => exact below_step HB.out HR.out); (case aS => have := HZ2.out; have := HR.out.size; omega); (case aL => have := HnL.out; rw [← HEL.out]; omega); intro v1 w9 hN hb hg hat; have HN2 := Aside0.mk hN; have HB2 := Aside0.mk hb; have HO2 := Aside0.mk (Kd.N_grown (Kd.N_bound HG1.out) hg (fun q hq => hq.1.1.2)); have HAT := Aside0.mk hat; have HSZ := Aside0.mk hg.size; clear hN hb hg hat HL1 HG1 HR B5)))
      all_goals
        have hw1 : wrap64 ((k : Int) + 1) = ((k + 1 : Nat) : Int) := by have := HSM.out.1; unfold wrap64; omega
        rw [hw1]
        clear hw1
        obtain ⟨k1, rfl⟩ : ∃ m, gk = m + 1 := ⟨gk - 1, by have := HQ.out; omega⟩
      · have hb : overB xa = true := by assumption
        have e1 := Aside0.mk (show ((l.take (k + 1)).map (aged n)).filter overB = ((l.take k).map (aged n)).filter overB ++ [xa] by rw [HT.out, List.map_append, List.filter_append, HXA.out]; simp [← HXA.out, hb])
        have e2 := Aside0.mk (show ((l.take (k + 1)).map (aged n)).filter (fun x => !overB x) = ((l.take k).map (aged n)).filter (fun x => !overB x) by rw [HT.out, List.map_append, List.filter_append]; simp [← HXA.out, hb])
        clear hb
        go_roundg k1
        case rel => exact ⟨k + 1, rfl, hlt, ⟨by have := HQ.out; omega⟩, ⟨by rw [e2.out]; exact Kd.N_mono HO2.out (fun q hq => ⟨hq.1.1.1, fun e => by
            rcases HAT.out with h | ⟨b, h, hbb⟩
            · exact hq.1.1.2 (e.trans h)
            · have := e.trans h; injection this with this; have := hq.2; omega⟩)⟩, ⟨by rw [e1.out]; exact HN2.out⟩, HB2⟩
        case measure => omega
      · have hb : overB xa = false := by assumption
        have e1 := Aside0.mk (show ((l.take (k + 1)).map (aged n)).filter overB = ((l.take k).map (aged n)).filter overB by rw [HT.out, List.map_append, List.filter_append]; simp [← HXA.out, hb])
        have e2 := Aside0.mk (show ((l.take (k + 1)).map (aged n)).filter (fun x => !overB x) = ((l.take k).map (aged n)).filter (fun x => !overB x) ++ [xa] by rw [HT.out, List.map_append, List.filter_append]; simp [← HXA.out, hb])
        clear hb
        go_roundg k1
        case rel => exact ⟨k + 1, rfl, hlt, ⟨by have := HQ.out; omega⟩, ⟨by rw [e2.out]; exact HN2.out⟩, ⟨by rw [e1.out]; exact Kd.N_mono HO2.out (fun q hq => ⟨hq.1.1.1, fun e => by
            rcases HAT.out with h | ⟨b, h, hbb⟩
            · exact hq.1.1.2 (e.trans h)
            · have := e.trans h; injection this with this; have := hq.2; omega⟩)⟩, HB2⟩
        case measure => omega
    · obtain rfl : k = l.length := by omega
      rw [List.take_length] at HL HG
      go_wp2
      go_ret2
      exact ⟨_, _, rfl, Kd.N_lower HL.out HB0.out.size, Kd.N_lower HG.out HB0.out.size, below_step HB0.out HB.out⟩
end Go.Proofs.Ytkmodkjjboeoeaa.A
