/- rule.copied, over a rule whose cells are one list. -/
import Derived.Test.YtkmodkjjboeoeaaAx3
import Derived.Test.YtkmodkjjboeoeaaAx4
import Derived.Test.YtkmodkjjboeoeaaMine
import Derived.WalkSpells
namespace Go.Proofs.Ytkmodkjjboeoeaa.A
open Go.RowKit Go.Proofs.YtkmodkjjboeoeaaW.PrintWords Go.Proofs.YtkmodkjjboeoeaaW.PrintLast Go.Proofs.YtkmodkjjboeoeaaW.PrintMore
set_option linter.unusedVariables false
set_option linter.unusedSimpArgs false

/-- What a rule's cells are. -/
theorem rule_shape {W : World} {x : S31} {cs : List Value} (h : k31.K W x cs) : cs.length = 32 ∧ (∀ u ∈ cs, u.oneCell' = true) ∧ ∃ A c, cs[25]? = some (.slice A x.f2.length c) ∧ x.f2.length ≤ c ∧ Kd.C k36 W A x.f2.length x.f2 := by
  have h1 := k31.K_len h
  have h2 := k31.K_one h
  obtain ⟨A, c, rfl, hl, hC⟩ := k31_open h
  exact ⟨rfl, h2, A, c, rfl, hl, hC⟩
/-- .. with other memory for its actions. -/
theorem rule_with {W W' : World} {ok : Nat → Prop} {x : S31} {cs : List Value} {v : Value} (h : k31.K W x cs) (hv : Kd.V k36 36 W' 0 ok v x.f2) : Kd.FK k31 W' ok x (cs.set 25 v) := by
  obtain ⟨A, c, rfl, hl, hC⟩ := k31_open h
  obtain ⟨A', c', rfl, hl', hF⟩ := hv
  exact k31_mkF W' ok x hl' hF
/-- The memory of a rule's actions is a block of actions that may be written. -/
def Typ (w : World) (cs : List Value) : Prop := ∀ ad n c, cs[25]? = some (.slice (some ad) n c) → 0 < n → ∃ cur, w.heap[ad.block]? = some (.cells cur 36 (0, 0))
/-- A rule whose actions may be written. -/
def k31u : Kd S31 where
  sz := 32
  E := []
  K := fun w x cs => k31.K w x cs ∧ Typ w cs
  M := fun _ _ _ _ _ => False
  K_len := fun h => k31.K_len h.1
  K_one := fun h => k31.K_one h.1
  K_below := fun hb h => ⟨k31.K_below hb h.1, fun ad n c h1 h2 => by obtain ⟨cur, hc⟩ := h.2 ad n c h1 h2; exact ⟨cur, (hb.block _ (blk_lt hc)).trans hc⟩⟩
  K_of_M := fun h => h.elim
  M_mono := fun _ h => h
  M_bound := fun h => h.elim
  M_move := fun _ h => h
  M_lower := fun _ h => h
theorem FK_plain {W : World} {ok : Nat → Prop} {x : S31} {cs : List Value} (h : Kd.FK k31u W ok x cs) : Kd.FK k31 W ok x cs := fun W' hW => (h W' hW).1
theorem FK_typ {W : World} {ok : Nat → Prop} {x y : S31} {cs cs' : List Value} (h : Kd.FK k31u W ok x cs) (h' : Kd.FK k31 W ok y cs') (h25 : cs'[25]? = cs[25]?) : Kd.FK k31u W ok y cs' := fun W' hW => ⟨h' W' hW, fun ad n c h1 h2 => (h W' hW).2 ad n c (h25 ▸ h1) h2⟩
theorem C_plain {W : World} {A : Option Addr} {n : Nat} {xs : List S31} (h : Kd.C k31u W A n xs) : Kd.C k31 W A n xs := ⟨h.1, h.2.1, fun hp => by
  obtain ⟨ad, e, h3⟩ := h.2.2 hp
  exact ⟨ad, e, fun j p hj => by obtain ⟨c, h4, h5, h6⟩ := h3 j p hj; exact ⟨c, h4, h5.1, h6⟩⟩⟩
theorem clip16_calls (A : Option Addr) (n c : Nat) (w : World) (hl : n ≤ c) : Calls Try.prog 16 #[.slice A n c] w fun e w' => e = .returned (.slice A n n) ∧ w' = w := by
  obtain ⟨i0, hi, _, _, _⟩ := info_parts info36
  have hcut := Mine.cut_full (P := Try.prog) 29 36 Try.underlying29 hi A n c n n (Nat.le_refl _) hl
  clear hl hi
  go_enter Try.func16, Try.ntmps16
  go_wp2
  go_ret
  exact ⟨rfl, rfl⟩
theorem clip_some (l : List S36) : api_Act_16.f l = some l := by
  unfold api_Act_16.f
  rw [if_pos (by omega), if_pos (Int.le_refl _)]
  simp
theorem clone_some (l : List S36) (h : l.length < 4398046511104) : api_Act_17.f l = some l := by
  unfold api_Act_17.f
  split
  · have : l = [] := List.length_eq_zero_iff.1 (by omega)
    rw [this]
  · simp [h]
def zs31 : List Value := [.int .u64 0, .int .u64 0, .int .u64 0, .int .u64 0, .int .u64 0, .int .u64 0, .int .u64 0, .int .u64 0, .int .u64 0, .int .u64 0, .int .u64 0, .int .u64 0, .int .u64 0, .int .u64 0, .int .u64 0, .int .u64 0, .int .u64 0, .int .u64 0, .int .u64 0, .int .u64 0, .int .u64 0, .int .u64 0, .int .u64 0, .int .u64 0, .int .i64 0, .slice none 0 0, .int .i64 0, .int .i64 0, .int .i64 0, .int .i64 0, .int .i64 0, .int .i64 0]
section
variable {ops : Array Oper} {rest : List Oper} {o : Oper} {a : Act} {Q : Exit → Act → World → Prop} {W : World}
/-- A new variable for a rule. -/
theorem ev_alloc31 (hgd : o.guard = none) {N : Tmp} (hd : o.dst = some N) (ho : o.op = .alloc 31)
    (h : ∀ g zs, g = W.heap.size → zs.length = 32 → ∀ w1, w1.heap[g]? = some (.cells (zs : List Value).toArray 31 (0, 0)) → Below W.heap.size W w1 → wpList Try.prog ops Q rest (a.put o.dst (.pointer (some ⟨g, 0, none⟩))) w1) : wpList Try.prog ops Q (o :: rest) a W := by
  refine Mine.ev_alloc hgd hd ho zs31 ?_ (fun g hg w1 h1 h2 => h g zs31 hg rfl w1 h1 h2)
  unfold execOp
  simp only [ho]
  go_simp
  rfl
end
theorem grown_blk {w w' : World} {g g' : Nat} {o : Obj} (hg : w.grownBy w' (some g)) (hb : w.heap[g']? = some o) (hne : g' ≠ g) : w'.heap[g']? = some o := (hg.block g' (blk_lt hb) (by simpa using hne)).trans hb
theorem below_blk {w w' : World} {g' : Nat} {o : Obj} (hg : Below w.heap.size w w') (hb : w.heap[g']? = some o) : w'.heap[g']? = some o := (hg.block g' (blk_lt hb)).trans hb
set_option maxHeartbeats 4000000 in
set_option maxRecDepth 100000 in
theorem copied_calls (x : S31) (cs : List Value) (w : World) (hK : k31.K w x cs) (hlim : x.f2.length < 4398046511104) :
    Calls Try.prog 12 #[.agg cs.toArray] w fun e w' => ∃ cs2, e = .returned (.agg cs2.toArray) ∧ Kd.FK k31u w' (fun k => w.heap.size ≤ k) x cs2 ∧ Below w.heap.size w w' := by
  have hu31 := Try.underlying31
  obtain ⟨hl, h1, A, c, h25, hle, hC⟩ := rule_shape hK
  have HKK := Aside0.mk hK
  have H1 := Aside0.mk h1
  have HL := Aside0.mk hl
  have H25 := Aside0.mk h25
  have HC := Aside0.mk hC
  have HLE := Aside0.mk hle
  have HLIM := Aside0.mk hlim
  have HB := Aside0.mk (Below.refl w.heap.size w)
  have hi31 : (Try.prog.info? 31).map (·.size) = some 32 := by kernel_rfl
  have HI := Aside0.mk hi31
  clear hK hl h1 h25 hC hle hlim hi31
  go_enter Try.func12, Try.ntmps12
  go_wp2_with (first
    | ((with_reducible refine gate_dst (N := 1) rfl ?_); refine Mine.ev_box rfl (N := 1) rfl (.tmp 0) rfl cs rfl ?_; intro g1 hg1 w1 hb1 hbel; have B1 := Aside0.mk hb1; have G1 := Aside0.mk hg1; have n0 := Aside0.mk (below_step HB.out hbel); clear HB; have HB := n0; clear n0 hb1 hbel hg1)
    | ((with_reducible refine gate_dst (N := 2) rfl ?_); refine ev_alloc31 rfl (N := 2) rfl rfl ?_; intro g2 zs hg2 hzl w2 hb2 hbel; have NE := Aside0.mk (show g1 < g2 from by have := blk_lt B1.out; omega); have B2 := Aside0.mk hb2; have n1 := Aside0.mk (below_blk hbel B1.out); have G2 := Aside0.mk hg2; have ZL := Aside0.mk hzl; have n0 := Aside0.mk (below_step HB.out hbel); clear HB B1; have HB := n0; have B1 := n1; clear n0 n1 hb2 hbel hg2 hzl; have hcell := (Mine.blk_cells B1.out 25).trans H25.out)
    | (go_at_call 17; refine (api_Act_17.calls A c x.f2 x.f2 _ (Kd.C_below HC.out HB.out) HLE.out (clone_some _ HLIM.out)).mono ?_; rintro e w3 ⟨v, rfl, hR, hbel⟩; have hV := Kd.R_V (base' := 0) (Kd.R_mono (Kd.R_bound hR) (fun k hk => hk.2.1)); obtain ⟨A3, c3, rfl⟩ := Kd.V_slice hV; have hty : ∀ ad, A3 = some ad → ∃ cur, w3.heap[ad.block]? = some (.cells cur 36 (0, 0)) := (fun ad ea => Kd.R_typed hR ad.block (by rw [ea]; rfl)); have hge : ∀ ad, A3 = some ad → w2.heap.size ≤ ad.block := (fun ad ea => Kd.R_base hR ad.block (by rw [ea]; rfl)); have HTY := Aside0.mk hty; have HGE := Aside0.mk hge; have HLC := Aside0.mk (Kd.V_reads' hV).2.1; clear hty hge; have n3 := Aside0.mk hbel.size; have n2 := Aside0.mk (below_blk hbel B2.out); have n1 := Aside0.mk (below_blk hbel B1.out); have n0 := Aside0.mk (below_step HB.out hbel); have n4 := Aside0.mk (Nat.lt_of_lt_of_le (blk_lt B2.out) (Nat.le_refl _)); have n5 := Aside0.mk (blk_lt B1.out); have NV := Aside0.mk hV; clear HB B1 B2 hR hbel hcell hV; have HB := n0; have B1 := n1; have B2 := n2; clear n0 n1 n2)
    | (go_at_call 16; refine (clip16_calls A3 x.f2.length c3 _ HLC.out).mono ?_; rintro e w4 ⟨rfl, rfl⟩; go_must (have n6 := Aside0.mk (show Kd.V k36 36 _ 0 (fun k => w2.heap.size ≤ k) (.slice A3 x.f2.length x.f2.length) x.f2 from Kd.V_mk (Nat.le_refl _) (Kd.V_F NV.out)); clear NV; have NV := n6; clear n6))
    | ((with_reducible refine gate_ (.store 29 (.tmp 7) (.tmp 6)) rfl ?_); go_must (refine Mine.ev_store (g := g1) (j := 25) rfl rfl 29 (.tmp 7) (.tmp 6) rfl (.slice A3 x.f2.length x.f2.length) [.slice A3 x.f2.length x.f2.length] rfl rfl rfl B1.out (by have := HL.out; simp; omega) (by kernel_rfl) (by simp [Value.oneCell']) ?_); intro w5 hb5 hg5 hz5; rw [Mine.splice_one _ _ _ (by have := HL.out; omega)] at hb5; obtain ⟨cs2, e2⟩ : ∃ c_ : List Value, c_ = cs.set 25 (.slice A3 x.f2.length x.f2.length) := ⟨_, rfl⟩; rw [← e2] at hb5; have L2 := Aside0.mk (show cs2.length = 32 by rw [e2, List.length_set]; exact HL.out); have O2 := Aside0.mk (show ∀ u ∈ cs2, u.oneCell' = true by rw [e2]; intro u hu; rcases List.mem_or_eq_of_mem_set hu with h | h; exact H1.out u h; rw [h]; rfl); have E2 := Aside0.mk e2; clear e2; have n2 := Aside0.mk (grown_blk hg5 B2.out (Nat.ne_of_gt NE.out)); have n0 := Aside0.mk (pw_below_grown HB.out _ HB.out.size hg5 (by rintro k h; injection h with h; have := G1.out; omega)); have n6 := Aside0.mk (Kd.V_grown NV.out hg5 (fun k hk e => by injection e with e; have := n5.out; omega)); have n1 := Aside0.mk hb5; have hg5' := hg5; clear HB B1 B2 NV hb5 hg5 hz5; have HB := n0; have B1 := n1; have B2 := n2; have NV := n6; have n7 := Aside0.mk (show ∀ ad, A3 = some ad → ∃ cur, w5.heap[ad.block]? = some (.cells cur 36 (0, 0)) from fun ad ea => by obtain ⟨cur, hc⟩ := HTY.out ad ea; exact ⟨cur, grown_blk hg5' hc (by have := HGE.out ad ea; have := n5.out; omega)⟩); clear HTY; have HTY := n7; clear n0 n1 n2 n6 n7 hg5')
    | ((with_reducible refine gate_dst (N := 8) rfl ?_); refine Mine.ev_load rfl (N := 8) rfl 31 (.tmp 1) rfl ⟨g1, 0, none⟩ rfl _ _ (Mine.blk_all B1.out) hu31 rfl (by rw [HI.out, L2.out]) ?_)
    | ((with_reducible refine gate_ (.store 31 (.tmp 2) (.tmp 8)) rfl ?_); refine Mine.ev_store (g := g2) (j := 0) rfl rfl 31 (.tmp 2) (.tmp 8) rfl (.agg cs2.toArray) cs2 rfl rfl rfl B2.out (by have := L2.out; have := ZL.out; omega) (by rw [HI.out, L2.out]) O2.out ?_; intro w6 hb6 hg6 hz6; rw [Mine.splice_all _ _ (L2.out.trans ZL.out.symm)] at hb6; have n0 := Aside0.mk (pw_below_grown HB.out _ HB.out.size hg6 (by rintro k h; injection h with h; have := G1.out; have := NE.out; omega)); have n6 := Aside0.mk (Kd.V_grown NV.out hg6 (fun k hk e => by injection e with e; have := n4.out; omega)); have n2 := Aside0.mk hb6; have hg6' := hg6; clear HB B1 B2 NV hb6 hg6 hz6; have HB := n0; have B2 := n2; have NV := n6; have n7 := Aside0.mk (show ∀ ad, A3 = some ad → ∃ cur, w6.heap[ad.block]? = some (.cells cur 36 (0, 0)) from fun ad ea => by obtain ⟨cur, hc⟩ := HTY.out ad ea; exact ⟨cur, grown_blk hg6' hc (by have := HGE.out ad ea; have := n4.out; omega)⟩); clear HTY; have HTY := n7; clear n0 n2 n6 n7 hg6'))
  refine bodyPost_ret (results_cell_row rfl _ _ g2 31 cs2.toArray _ _ rfl B2.out hu31 rfl (by rw [HI.out, List.size_toArray, L2.out])) rfl ?_
  refine ⟨cs2, rfl, fun W' hW => ⟨?_, fun ad n c' h1 h2 => ?_⟩, HB.out⟩
  · have hv := Kd.V_mono NV.out (ok' := fun k => w.heap.size ≤ k) (fun k hk => Nat.le_trans (by have := G1.out; have := n5.out; omega) hk)
    have := rule_with (W' := _) HKK.out (show Kd.V k36 36 _ 0 _ _ _ from hv)
    rw [← E2.out] at this
    exact this W' hW
  · rw [E2.out, List.getElem?_set_self (by have := HL.out; omega)] at h1
    injection h1 with h1
    injection h1 with e1 e2 e3
    obtain ⟨cur, hc⟩ := HTY.out ad e1
    exact ⟨cur, (hW ad.block (by have := HGE.out ad e1; have := G1.out; have := n5.out; show w.heap.size ≤ ad.block; omega) (blk_lt hc)).trans hc⟩
end Go.Proofs.Ytkmodkjjboeoeaa.A
