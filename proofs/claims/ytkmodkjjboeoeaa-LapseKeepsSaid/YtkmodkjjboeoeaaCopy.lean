/- rule.Copy: a copy of a list of rules, all of it in new memory. -/
import Derived.Test.YtkmodkjjboeoeaaRule
namespace Go.Proofs.Ytkmodkjjboeoeaa.A
open Go.RowKit Go.Proofs.YtkmodkjjboeoeaaW.PrintWords Go.Proofs.YtkmodkjjboeoeaaW.PrintLast Go.Proofs.YtkmodkjjboeoeaaW.PrintMore
set_option linter.unusedVariables false
set_option linter.unusedSimpArgs false
theorem add_add (ad : Addr) (m j : Nat) : (ad.add m).add j = ad.add (m + j) := by
  unfold Addr.add
  by_cases h1 : m = 0 <;> by_cases h2 : j = 0 <;> simp [h1, h2, Nat.add_assoc]
theorem clipR_calls (A : Option Addr) (n c : Nat) (w : World) (hl : n ≤ c) : Calls Try.prog 13 #[.slice A n c] w fun e w' => e = .returned (.slice A n n) ∧ w' = w := by
  obtain ⟨i0, hi, _, _, _⟩ := info_parts info31
  have hcut := Mine.cut_full (P := Try.prog) 22 31 Try.underlying22 hi A n c n n (Nat.le_refl _) hl
  clear hl hi
  go_enter Try.func13, Try.ntmps13
  go_wp2
  go_ret
  exact ⟨rfl, rfl⟩
/-- No rule has more actions than fit. -/
def Small (l : List S31) : Prop := l.length < 100000 ∧ ∀ x ∈ l, x.f2.length < 4398046511104
set_option maxHeartbeats 4000000 in
set_option maxRecDepth 100000 in
theorem copyN_calls (l : List S31) (A : Option Addr) (c : Nat) (w : World) (hC : Kd.C k31u w A l.length l) (hc : l.length ≤ c) (hsm : Small l) :
    Calls Try.prog 8 #[.slice A l.length c] w fun e w' => ∃ A' c', e = .returned (.slice A' l.length l.length) ∧ Kd.N k31u 31 w' w.heap.size (fun k => w.heap.size ≤ k) (.slice A' l.length c') l ∧ Below w.heap.size w w' := by
  have hu31 := Try.underlying31
  have hi31 : (Try.prog.info? 31).map (·.size) = some 32 := by kernel_rfl
  have HI := Aside0.mk hi31
  have HC := Aside0.mk hC
  have HLE := Aside0.mk hc
  have HSM := Aside0.mk hsm
  have HB := Aside0.mk (Below.refl w.heap.size w)
  clear hi31 hC hc hsm
  go_enter Try.func8, Try.ntmps8
  go_wp2
  go_loopg [3, 8] (l.length + 1) (fun kq v3 v8 w' => ∃ k : Nat, v8 = .int .i64 k ∧ k ≤ l.length ∧ Aside0 (kq + k = l.length + 1) ∧ Aside0 (Kd.N k31u 31 w' w.heap.size (fun k_ => w.heap.size ≤ k_) v3 (l.take k)) ∧ Aside0 (Below w.heap.size w w'))
  case atStart => exact ⟨0, rfl, Nat.zero_le _, ⟨rfl⟩, ⟨Kd.N_nil _ _ _ _ _⟩, HB⟩
  case round =>
    clear HB
    obtain ⟨k, rfl, hk, HQ, HN, HB⟩ := hrel
    by_cases hlt : k < l.length
    · obtain ⟨ad, cs, rfl, hcl, hK, hcc⟩ := Kd.C_get (Kd.C_below HC.out HB.out) z31 (k : Int) (by omega) (by omega)
      have HK := Aside0.mk hK
      have HCC := Aside0.mk hcc
      have HCL := Aside0.mk hcl
      clear hK hcc hcl
      have p1 : (0 : Int) ≤ k := by omega
      have p2 : (k : Int) < l.length := by omega
      have hx : l.getD ((k : Int)).toNat z31 = l[k] := by simp [List.getD, hlt]
      have HX := Aside0.mk (show (l.getD ((k : Int)).toNat z31).f2.length < 4398046511104 by rw [hx]; exact HSM.out.2 _ (List.getElem_mem hlt))
      have HT := Aside0.mk (show l.take (k + 1) = l.take k ++ [l.getD ((k : Int)).toNat z31] by rw [hx, List.take_succ_eq_append_getElem hlt])
      clear hx
      obtain ⟨x, ex⟩ : ∃ x_ : S31, x_ = l.getD ((k : Int)).toNat z31 := ⟨_, rfl⟩
      rw [← ex] at HK HX HT
      clear ex
      have HN1 := Aside0.mk (Kd.N_bound HN.out)
      clear HN
      obtain ⟨A3, c3, e3⟩ := Kd.N_slice HN1.out
      rw [List.length_take_of_le hk] at e3
      subst e3
      have HR := Aside0.mk (Below.refl wr.heap.size wr)
      have HZ := Aside0.mk HB.out.size
      go_wp2_with (first
        | ((with_reducible refine gate_dst (N := 11) rfl ?_); refine Mine.ev_load rfl (N := 11) rfl 31 (.tmp 10) rfl (ad.add (k * 32)) rfl cs _ (fun j v hv => by rw [add_add]; exact HCC.out j v hv) hu31 rfl (by rw [HI.out]; exact congrArg some HCL.out.symm) ?_; clear HCC)
        | ((with_reducible refine gate_dst (N := 5) rfl ?_); refine ev_alloc31 rfl (N := 5) rfl rfl ?_; intro g5 zs hg5 hzl w1 hb5 hbel; have G5 := Aside0.mk hg5; have ZL := Aside0.mk hzl; have B5 := Aside0.mk hb5; have n0 := Aside0.mk (below_step HR.out hbel); have n1 := Aside0.mk (Kd.N_below HN1.out hbel); clear HR HN1 hg5 hzl hb5 hbel; have HR := n0; have HN1 := n1; clear n0 n1)
        | ((with_reducible refine gate_ (.store 31 (.tmp 5) (.tmp 11)) rfl ?_); refine Mine.ev_store (g := g5) (j := 0) rfl rfl 31 (.tmp 5) (.tmp 11) rfl (.agg cs.toArray) cs rfl rfl rfl B5.out (by have := ZL.out; have : cs.length = 32 := HCL.out; omega) (by rw [HI.out]; exact congrArg some HCL.out.symm) (k31u.K_one HK.out) ?_; intro w2 hb2 hg2 hz2; rw [Mine.splice_all _ _ ((show cs.length = 32 from HCL.out).trans ZL.out.symm)] at hb2; have n0 := Aside0.mk (pw_below_grown HR.out _ HR.out.size hg2 (by rintro q h; injection h with h; have := G5.out; omega)); have n1 := Aside0.mk (Kd.N_grown HN1.out hg2 (fun q hq e => by injection e with e; have := G5.out; omega)); have n2 := Aside0.mk hb2; clear HR HN1 B5 hb2 hg2 hz2; have HR := n0; have HN1 := n1; have B5 := n2; clear n0 n1 n2)
        | ((with_reducible refine gate_dst (N := 13) rfl ?_); refine Mine.ev_load rfl (N := 13) rfl 31 (.tmp 5) rfl ⟨g5, 0, none⟩ rfl cs _ (Mine.blk_all B5.out) hu31 rfl (by rw [HI.out]; exact congrArg some HCL.out.symm) ?_)
        | (go_at_call 12; refine (copied_calls x cs _ (k31u.K_below HR.out HK.out).1 HX.out).mono ?_; rintro e w4 ⟨cs2, rfl, hF, hbel⟩; have NF := Aside0.mk hF; have L2 := Aside0.mk (show cs2.length = 32 from k31u.K_len (Kd.FK_now hF)); have n1 := Aside0.mk (Kd.N_below HN1.out hbel); have n2 := Aside0.mk HR.out.size; have n0 := Aside0.mk (below_step HR.out hbel); clear HR HN1 hF hbel; have HR := n0; have HN1 := n1; clear n0 n1)
        | ((with_reducible refine gate_dst (N := 15) rfl ?_); refine Mine.ev_lit1 rfl (N := 15) rfl 22 31 (.tmp 14) rfl cs2 rfl Try.underlying22 info31 L2.out (by omega) (by omega) ?_)
        | ((with_reducible refine gate_builtin (b := .append) (xs := #[.tmp 12, .tmp 15]) rfl ?_); at_builtin; go_must (refine Kd.N_append k31u (w0 := w) w.heap.size rfl (.tmp 12) (.tmp 15) 22 31 _ 272 rfl Try.underlying22 info31 rfl (by decide) (by omega) (.slice A3 k c3) (l.take k) x cs2 (fun q => w.heap.size ≤ q) (fun q => wr.heap.size ≤ q) rfl rfl ?aP ?aK ?aF ?aO ?aB ?aS ?aL ?_); (case aP => exact Kd.FK_mono NF.out (fun q hq => Nat.le_trans n2.out hq)); (case aK => exact fun q hq => ⟨Nat.le_trans HZ.out hq, fun e => by have := (HN1.out.1 q e.symm).2; omega⟩); (case aF => exact fun q hq => Nat.le_trans HZ.out (Nat.le_trans HR.out.size hq)); (case aO => exact Kd.N_mono HN1.out (fun q hq => hq.1)); (case aB => exact below_step HB.out HR.out); (case aS => exact Nat.le_trans HZ.out HR.out.size); (case aL => have := HSM.out.1; have := List.length_take_of_le hk; omega); intro v1 w6 hN hb hg hat; rw [← HT.out] at hN; have HN2 := Aside0.mk hN; have HB2 := Aside0.mk hb; clear hN hb hg hat HN1 HR NF))
      have hw1 : wrap64 ((k : Int) + 1) = ((k + 1 : Nat) : Int) := by have := HSM.out.1; unfold wrap64; omega
      rw [hw1]
      clear hw1
      obtain ⟨k1, rfl⟩ : ∃ m, gk = m + 1 := ⟨gk - 1, by have := HQ.out; omega⟩
      go_roundg k1
      case rel => exact ⟨k + 1, rfl, hlt, ⟨by have := HQ.out; omega⟩, HN2, HB2⟩
      case measure => omega
    · obtain rfl : k = l.length := by omega
      rw [List.take_length] at HN
      obtain ⟨A3, c3, e3⟩ := Kd.N_slice HN.out
      subst e3
      have hle := (Kd.N_reads' HN.out).2.1
      go_wp2_with (go_at_call 13; refine (clipR_calls A3 l.length c3 _ hle).mono ?_; rintro e w4 ⟨rfl, rfl⟩)
      go_ret
      exact ⟨A3, c3, rfl, HN.out, HB.out⟩
theorem copy_calls (l : List S31) (A : Option Addr) (c : Nat) (w : World) (hC : Kd.C k31u w A l.length l) (hc : l.length ≤ c) (hsm : Small l) :
    Calls Try.prog 8 #[.slice A l.length c] w fun e w' => ∃ v, e = .returned v ∧ Kd.V k31u 31 w' w.heap.size (fun k => w.heap.size ≤ k) v l ∧ Below w.heap.size w w' :=
  (copyN_calls l A c w hC hc hsm).mono fun e w' ⟨A', c', he, hN, hB⟩ => ⟨_, he, Kd.V_mk (Nat.le_refl _) (Kd.N_F hN), hB⟩
end Go.Proofs.Ytkmodkjjboeoeaa.A
