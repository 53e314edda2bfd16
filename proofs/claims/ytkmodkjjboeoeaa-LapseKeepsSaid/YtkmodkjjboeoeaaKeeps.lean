/- The law's walk: what is handed to Tick and Hit is not changed, and not shared. -/
import Derived.Test.YtkmodkjjboeoeaaAnswers
import Derived.Test.YtkmodkjjboeoeaaSame
namespace Go.Proofs.Ytkmodkjjboeoeaa.A
open Go.RowKit Go.Proofs.YtkmodkjjboeoeaaW.PrintWords Go.Proofs.YtkmodkjjboeoeaaW.PrintLast Go.Proofs.YtkmodkjjboeoeaaW.PrintMore
set_option linter.unusedVariables false
set_option linter.unusedSimpArgs false
theorem len_parts (l : List S31) (p : S31 → Bool) : (l.filter fun x => !p x).length + (l.filter p).length = l.length := by
  induction l with
  | nil => rfl
  | cons a l ih => by_cases h : p a <;> simp [h] <;> omega
theorem rule_u {W W' : World} {ok : Nat → Prop} {x : S31} {cs : List Value} {A : Option Addr} {n c : Nat} (h : k31.K W x cs) (hv : Kd.V k36 36 W' 0 ok (.slice A n c) x.f2) (hty : ∀ ad, A = some ad → ok ad.block ∧ ∃ cur, W'.heap[ad.block]? = some (.cells cur 36 (0, 0))) : Kd.FK k31u W' ok x (cs.set 25 (.slice A n c)) := fun W2 hW => ⟨rule_with h hv W2 hW, fun ad m c' h1 h2 => by
  rw [List.getElem?_set_self (by rw [(rule_shape h).1]; decide)] at h1
  injection h1 with h1
  injection h1 with e1 e2 e3
  obtain ⟨ho, cur, hc⟩ := hty ad e1
  exact ⟨cur, (hW ad.block ho (blk_lt hc)).trans hc⟩⟩
/-- Every action that the rules of a list lead to: its port may be read and written, and lies in new memory. -/
def ActsOK (W5 : World) (g m base : Nat) (W : World) : Prop :=
  ∀ i, i < m → ∀ (ad : Addr) (q c : Nat), W5.cell? ⟨g, i * 32 + 25, none⟩ = some (.slice (some ad) q c) → ∀ k, k < q → (∃ p, W.cell? ⟨(ad.add (k * 4)).block, (ad.add (k * 4)).off + 1, none⟩ = some (.int .i64 p)) ∧ W.frozen? ⟨(ad.add (k * 4)).block, (ad.add (k * 4)).off + 1, none⟩ = false ∧ base ≤ (ad.add (k * 4)).block ∧ (ad.add (k * 4)).block ≠ g
def RowOK (W5 : World) (g m : Nat) : Prop := ∀ i, i < m → ∃ A q c, W5.cell? ⟨g, i * 32 + 25, none⟩ = some (.slice A q c) ∧ q ≤ 9223372036854775807 ∧ q ≤ c ∧ (0 < q → ∃ ad, A = some ad)
theorem acts_init {W5 : World} {b g m cc base : Nat} {ok : Nat → Prop} {ys : List S31} (hN : Kd.N k31u 31 W5 b ok (.slice (some ⟨g, 0, none⟩) m cc) ys) (hok : ∀ k, ok k → base ≤ k) : RowOK W5 g m ∧ ActsOK W5 g m base W5 := by
  have key : ∀ i, i < m → ∃ A q c, W5.cell? ⟨g, i * 32 + 25, none⟩ = some (.slice A q c) ∧ q ≤ 9223372036854775807 ∧ q ≤ c ∧ (0 < q → ∃ ad, A = some ad) ∧ ∀ ad, A = some ad → ∀ k, k < q → (∃ p, W5.cell? ⟨(ad.add (k * 4)).block, (ad.add (k * 4)).off + 1, none⟩ = some (.int .i64 p)) ∧ W5.frozen? ⟨(ad.add (k * 4)).block, (ad.add (k * 4)).off + 1, none⟩ = false ∧ base ≤ (ad.add (k * 4)).block ∧ (ad.add (k * 4)).block ≠ g := by
    intro i hi
    obtain ⟨cs, hcl, hF, hcc⟩ := Kd.N_get hN z31 (i : Int) (by omega) (by omega)
    obtain ⟨A, c, hcs, hlc, hFa⟩ := k31_openF (FK_plain hF)
    have hC := Kd.F_now hFa
    have h25 : cs[25]? = some (.slice A ((ys.getD (i : Int).toNat z31).f2).length c) := by rw [hcs]; rfl
    have hcell := hcc 25 _ h25
    rw [Mine.at_add] at hcell
    refine ⟨A, _, c, hcell, hC.2.1, hlc, fun hp => ?_, ?_⟩
    · obtain ⟨ad, e, _⟩ := hC.2.2 hp
      exact ⟨ad, e⟩
    · rintro ad rfl k hk
      obtain ⟨ad', c4, e4, hcl4, hK4, hcc4, hok4⟩ := Kd.F_get hFa z36 (k : Int) (by omega) (by omega)
      injection e4 with e4
      subst e4
      obtain ⟨cur, hcur⟩ := (Kd.FK_now hF).2 ad _ c h25 (by omega)
      have hok5 := hok4 (by decide)
      have hc4 := k36_open (Kd.FK_now hK4)
      have h1 := hcc4 1 _ (by rw [hc4]; rfl)
      rw [show ((k : Int)).toNat * k36.sz + 1 = k * 4 + 1 from rfl, add_field _ _ 1 (by omega)] at h1
      refine ⟨⟨_, h1⟩, ?_, ?_, ?_⟩
      · rw [add_block]; exact blk_frozen hcur _
      · rw [add_block]; exact hok _ hok5.1
      · rw [add_block]; exact fun e => hok5.2 (by rw [e]; rfl)
  refine ⟨fun i hi => ?_, fun i hi ad q c h => ?_⟩
  · obtain ⟨A, q, c, h1, h2, h3, h4, _⟩ := key i hi
    exact ⟨A, q, c, h1, h2, h3, h4⟩
  · obtain ⟨A, q', c', h1, h2, h3, h4, h5⟩ := key i hi
    rw [h1] at h
    injection h with h
    injection h with e1 e2 e3
    subst e2
    exact h5 ad e1
theorem acts_step {W5 W : World} {g m base : Nat} (h : ActsOK W5 g m base W) {a : Addr} {u : Value} (ha : W.cell? a = some u) (v : Int) : ActsOK W5 g m base (W.setCell a (.int .i64 v)) := by
  intro i hi ad q c hc k hk
  obtain ⟨⟨p, h1⟩, h2, h3, h4⟩ := h i hi ad q c hc k hk
  refine ⟨?_, by rw [World.frozen?_setCell]; exact h2, h3, h4⟩
  by_cases e : a = ⟨(ad.add (k * 4)).block, (ad.add (k * 4)).off + 1, none⟩
  · subst e
    exact ⟨v, World.cell?_setCell_same _ _ _ ha⟩
  · exact ⟨p, (World.cell?_setCell_other _ _ _ _ e).trans h1⟩
set_option maxHeartbeats 8000000 in
set_option maxRecDepth 100000 in
theorem keeps_walk (xs : List S31) (A : Option Addr) (c : Nat) (n : Int) (w : World) (hC : Kd.C k31 w A xs.length xs) (hc : xs.length ≤ c) (hlim : ∀ x ∈ xs, x.f2.length < 4398046511104) :
    Calls Try.prog 3 #[.slice A xs.length c, .int .i64 n] w fun e w' => e = .returned (.bool true) ∧ Below w.heap.size w w' := by
  have hu31 := Try.underlying31
  have hi31 : (Try.prog.info? 31).map (·.size) = some 32 := by kernel_rfl
  have HI := Aside0.mk hi31
  have HC := Aside0.mk hC
  have HLE := Aside0.mk hc
  have HLIM := Aside0.mk hlim
  have HB := Aside0.mk (Below.refl w.heap.size w)
  clear hi31 hC hc hlim
  by_cases h40 : (40 : Int) < xs.length
  · go_enter Try.func3, Try.ntmps3
    go_wp2_with (go_at_call 4; refine (answers_calls _).mono ?_; rintro e w1 ⟨rfl, hb⟩; have HB2 := Aside0.mk hb; clear hb HB)
    go_ret
    exact ⟨rfl, HB2.out⟩
  · have HSM := Aside0.mk (show Small xs from ⟨by omega, HLIM.out⟩)
    go_enter Try.func3, Try.ntmps3
    go_wp2
    go_loopg [5, 6] (xs.length + 1) (fun kq v5 v6 w' => ∃ k : Nat, v6 = .int .i64 k ∧ k ≤ xs.length ∧ Aside0 (kq + k = xs.length + 1) ∧ Aside0 (Kd.N k31u 31 w' w.heap.size (fun k_ => w.heap.size ≤ k_) v5 (xs.take k)) ∧ Aside0 (Below w.heap.size w w'))
    case atStart => exact ⟨0, rfl, Nat.zero_le _, ⟨rfl⟩, ⟨Kd.N_nil _ _ _ _ _⟩, HB⟩
    case round =>
      clear HB
      obtain ⟨k, rfl, hk, HQ, HN, HB⟩ := hrel
      by_cases hlt : k < xs.length
      · obtain ⟨ad, cs, rfl, hcl, hK, hcc⟩ := Kd.C_get (Kd.C_below HC.out HB.out) z31 (k : Int) (by omega) (by omega)
        have HK := Aside0.mk hK
        have HCC := Aside0.mk hcc
        have HCL := Aside0.mk (show cs.length = 32 from hcl)
        clear hK hcc hcl
        have p1 : (0 : Int) ≤ k := by omega
        have p2 : (k : Int) < xs.length := by omega
        have hx : xs.getD ((k : Int)).toNat z31 = xs[k] := by simp [List.getD, hlt]
        have HX := Aside0.mk (show (xs.getD ((k : Int)).toNat z31).f2.length < 4398046511104 by rw [hx]; exact HLIM.out _ (List.getElem_mem hlt))
        have HT := Aside0.mk (show xs.take (k + 1) = xs.take k ++ [xs.getD ((k : Int)).toNat z31] by rw [hx, List.take_succ_eq_append_getElem hlt])
        clear hx
        obtain ⟨x, ex⟩ : ∃ x_ : S31, x_ = xs.getD ((k : Int)).toNat z31 := ⟨_, rfl⟩
        rw [← ex] at HK HX HT
        clear ex
        have HN1 := Aside0.mk (Kd.N_bound HN.out)
        clear HN
        obtain ⟨A3, c3, e3⟩ := Kd.N_slice HN1.out
        rw [List.length_take_of_le hk] at e3
        subst e3
        have HR := Aside0.mk (Below.refl wr.heap.size wr)
        have HZ := Aside0.mk HB.out.size
        obtain ⟨_, _, Aa, ca, hs25, hlea, hCa⟩ := rule_shape HK.out
        have H25 := Aside0.mk hs25
        have HCa := Aside0.mk hCa
        have HLa := Aside0.mk hlea
        clear hs25 hCa hlea
        obtain ⟨y0, hy0⟩ : ∃ y_ : List S36, y_ = ([] : List S36) := ⟨_, rfl⟩
        have hy9 : y0 ++ x.f2 = x.f2 := by rw [hy0]; rfl
        have hyl : y0.length + x.f2.length < 4398046511104 := by rw [hy0]; simpa using HX.out
        have Y0 := Aside0.mk hy0
        have Y9 := Aside0.mk hy9
        have YL := Aside0.mk hyl
        clear hy0 hy9 hyl
        go_wp2_with (first
          | ((with_reducible refine gate_dst (N := 27) rfl ?_); refine Mine.ev_load rfl (N := 27) rfl 31 (.tmp 26) rfl (ad.add (k * 32)) rfl cs _ (fun j v hv => by rw [add_add]; exact HCC.out j v hv) hu31 rfl (by rw [HI.out, HCL.out]) ?_; clear HCC)
          | ((with_reducible refine gate_dst (N := 7) rfl ?_); refine ev_alloc31 rfl (N := 7) rfl rfl ?_; intro g5 zs hg5 hzl w1 hb5 hbel; have G5 := Aside0.mk hg5; have ZL := Aside0.mk hzl; have B5 := Aside0.mk hb5; have n0 := Aside0.mk (below_step HR.out hbel); have n1 := Aside0.mk (Kd.N_below HN1.out hbel); clear HR HN1 hg5 hzl hb5 hbel; have HR := n0; have HN1 := n1; clear n0 n1)
          | ((with_reducible refine gate_ (.store 31 (.tmp 7) (.tmp 27)) rfl ?_); refine Mine.ev_store (g := g5) (j := 0) rfl rfl 31 (.tmp 7) (.tmp 27) rfl (.agg cs.toArray) cs rfl rfl rfl B5.out (by have := ZL.out; have := HCL.out; omega) (by rw [HI.out, HCL.out]) (k31.K_one HK.out) ?_; intro w2 hb2 hg2 hz2; rw [Mine.splice_all _ _ (HCL.out.trans ZL.out.symm)] at hb2; have n0 := Aside0.mk (pw_below_grown HR.out _ HR.out.size hg2 (by rintro q h; injection h with h; have := G5.out; omega)); have n1 := Aside0.mk (Kd.N_grown HN1.out hg2 (fun q hq e => by injection e with e; have := G5.out; omega)); have n2 := Aside0.mk hb2; clear HR HN1 B5 hb2 hg2 hz2; have HR := n0; have HN1 := n1; have B5 := n2; clear n0 n1 n2)
          | ((with_reducible refine gate_dst (N := 28) rfl ?_); refine Kd.R_lit k36 _ 36 ?hg (N := 28) ?hd (xs := ([] : List S36)) (inner := []) (ok := fun _ => True) (okp := fun _ => True) ?hr ?hp (fun _ hk => hk) trivial (Below.refl _ _) (Nat.le_refl _) (by simp) ?_; (case hd => rfl); (case hg => rfl); (case hr => first | (go_simp; done) | (go_simp; rfl)); (case hp => exact (Reps.none _ _)); intro v107 w4 ho5 hb hg_ hnew_; clear hg_ hnew_; rw [← Y0.out] at ho5; have HO := Aside0.mk ho5; have n0 := Aside0.mk (below_step HR.out hb); have n1 := Aside0.mk (Kd.N_below HN1.out hb); have n2 := Aside0.mk (below_blk hb B5.out); have HW2 := Aside0.mk hb; have HG5 := Aside0.mk (blk_lt B5.out); have HRX := Aside0.mk HR.out; clear HR HN1 B5 ho5 hb; have HR := n0; have HN1 := n1; have B5 := n2; clear n0 n1 n2; have hcell := (Mine.blk_cells B5.out 25).trans H25.out)
          | ((with_reducible refine gate_builtin (b := .append) (xs := #[.tmp 28, .tmp 30]) rfl ?_); at_builtin; go_must ((refine Kd.R_append_rows k36 (w0 := w2) w2.heap.size rfl (.tmp 28) (.tmp 30) 29 36 (.agg #[(.int .i64 0), (.int .i64 0), (.int .i64 0), (.int .u64 0)]) 32 rfl Try.underlying29 info36 rfl (by decide) (by omega) v107 y0 x.f2 _ _ _ (fun _ => True) (fun _ => False) rfl rfl ?aO ?aR (fun _ _ h => h) (fun _ h => h.elim) ?aF ?aB ?aS ?aL ?_); (case aR => exact Kd.C_below HCa.out HR.out); (case aB => exact HW2.out); (case aF => exact (fun _ _ => trivial)); (case aO => exact HO.out); (case aS => exact HW2.out.size); (case aL => have := YL.out; omega); intro v110 w6 ho hb hg hat; rw [Y9.out] at ho; obtain ⟨A9, c9, e9⟩ := Kd.V_slice (Kd.R_V (base' := 0) ho); subst e9; have HO9 := Aside0.mk ho; have HW9 := Aside0.mk hb; have n1 := Aside0.mk (Kd.N_grown HN1.out hg (fun q hq e => by have := Kd.R_base HO.out q e.symm; have := hq.2; have := G5.out; have := HG5.out; omega)); have n2 := Aside0.mk ((hg.block g5 (blk_lt B5.out) (fun e => by have := Kd.R_base HO.out g5 e.symm; have := HG5.out; omega)).trans B5.out); have n0 := Aside0.mk (show Below wr.heap.size wr w6 from below_then HRX.out HRX.out.size hb); clear HR HN1 B5 HO hcell hat hg hb ho; have HR := n0; have HN1 := n1; have B5 := n2; clear n0 n1 n2))
          | ((with_reducible refine gate_ (.store 29 (.tmp 32) (.tmp 31)) rfl ?_); go_must ((refine Mine.ev_store (g := g5) (j := 25) rfl rfl 29 (.tmp 32) (.tmp 31) rfl (.slice A9 x.f2.length c9) [.slice A9 x.f2.length c9] rfl rfl rfl B5.out (by have := HCL.out; simp only [List.length_cons, List.length_nil]; omega) (by kernel_rfl) (by simp [Value.oneCell']) ?_); intro w7 hb2 hg2 hz2; rw [Mine.splice_one _ _ _ (by have := HCL.out; omega)] at hb2; obtain ⟨cs2, e2⟩ : ∃ c_ : List Value, c_ = cs.set 25 (.slice A9 x.f2.length c9) := ⟨_, rfl⟩; rw [← e2] at hb2; have L2 := Aside0.mk (show cs2.length = 32 by rw [e2, List.length_set]; exact HCL.out); have hV9 := Kd.V_grown (Kd.R_V (base' := 0) (Kd.R_mono (Kd.R_bound HO9.out) (fun k hk => hk.2.1))) hg2 (fun q hq e => by injection e with e; have := HG5.out; omega); have hF := rule_u (A := A9) (n := x.f2.length) (c := c9) HK.out hV9 (fun ad ea => by have h1 := Kd.R_base HO9.out ad.block (by rw [ea]; rfl); obtain ⟨cur, hc⟩ := Kd.R_typed HO9.out ad.block (by rw [ea]; rfl); exact ⟨h1, cur, grown_blk hg2 hc (by have := HG5.out; omega)⟩); rw [← e2] at hF; have NF := Aside0.mk hF; have n0 := Aside0.mk (pw_below_grown HR.out _ HR.out.size hg2 (by rintro q h; injection h with h; have := G5.out; omega)); have n1 := Aside0.mk (Kd.N_grown HN1.out hg2 (fun q hq e => by injection e with e; have := hq.2; have := G5.out; omega)); have n2 := Aside0.mk hb2; clear HR HN1 B5 hb2 hg2 hz2 hV9 hF e2 HO9 HW9; have HR := n0; have HN1 := n1; have B5 := n2; clear n0 n1 n2))
          | ((with_reducible refine gate_dst (N := 34) rfl ?_); refine Mine.ev_load rfl (N := 34) rfl 31 (.tmp 7) rfl ⟨g5, 0, none⟩ rfl cs2 _ (Mine.blk_all B5.out) hu31 rfl (by rw [HI.out, L2.out]) ?_)
          | ((with_reducible refine gate_dst (N := 35) rfl ?_); refine Mine.ev_lit1 rfl (N := 35) rfl 22 31 (.tmp 34) rfl cs2 rfl Try.underlying22 info31 L2.out (by omega) (by omega) ?_)
          | ((with_reducible refine gate_builtin (b := .append) (xs := #[.tmp 33, .tmp 35]) rfl ?_); at_builtin; go_must ((refine Kd.N_append k31u (w0 := w) w.heap.size rfl (.tmp 33) (.tmp 35) 22 31 _ 272 rfl Try.underlying22 info31 rfl (by decide) (by omega) (.slice A3 k c3) (xs.take k) x cs2 (fun q => w.heap.size ≤ q) (fun q => w2.heap.size ≤ q) rfl rfl ?aP ?aK ?aF ?aO ?aB ?aS ?aL ?_); (case aP => exact NF.out); (case aK => exact fun q hq => ⟨by have := HZ.out; have := G5.out; have := HG5.out; omega, fun e => by have := (HN1.out.1 q e.symm).2; have := G5.out; have := HG5.out; omega⟩); (case aF => exact fun q hq => Nat.le_trans HZ.out (Nat.le_trans HR.out.size hq)); (case aO => exact Kd.N_mono HN1.out (fun q hq => hq.1)); (case aB => exact below_step HB.out HR.out); (case aS => exact Nat.le_trans HZ.out HR.out.size); (case aL => have := HSM.out.1; have := List.length_take_of_le hk; omega); intro v1 w9 hN hb hg hat; rw [← HT.out] at hN; have HN2 := Aside0.mk hN; have HB2 := Aside0.mk hb; clear hN hb hg hat HN1 HR NF)))
        obtain ⟨k1, rfl⟩ : ∃ m, gk = m + 1 := ⟨gk - 1, by have := HQ.out; omega⟩
        go_roundg k1
        case rel => exact ⟨k + 1, by go_num, hlt, ⟨by have := HQ.out; omega⟩, HN2, HB2⟩
        case measure => omega
      · obtain rfl : k = xs.length := by omega
        rw [List.take_length] at HN
        obtain ⟨wa, rfl⟩ : ∃ wa : World, wa = wr := ⟨_, rfl⟩
        obtain ⟨A5, c5, e5⟩ := Kd.N_slice HN.out
        subst e5
        have HIN := Aside0.mk (Kd.N_reads' HN.out)
        go_wp2_with (first
          | (go_at_call 5; go_must (refine (tick_calls xs A5 c5 3 _ HIN.out.2.2 HIN.out.2.1 HSM.out (by decide) (by decide)).mono ?_); rintro e w2 ⟨v0, v1, rfl, hL, hG, hbel⟩; obtain ⟨AL, cL, eL⟩ := Kd.N_slice hL; obtain ⟨AG, cG, eG⟩ := Kd.N_slice hG; have hlen : ((xs.map (aged 3)).filter fun x => !overB x).length + ((xs.map (aged 3)).filter overB).length = xs.length := (len_parts _ _).trans (List.length_map _); obtain ⟨ya, eya⟩ : ∃ y_ : List S31, y_ = (xs.map (aged 3)).filter fun x => !overB x := ⟨_, rfl⟩; obtain ⟨yb, eyb⟩ : ∃ y_ : List S31, y_ = (xs.map (aged 3)).filter overB := ⟨_, rfl⟩; rw [← eya] at hL eL hlen; rw [← eyb] at hG eG hlen; clear eya eyb; subst eL; subst eG; have HL := Aside0.mk hL; have HG := Aside0.mk hG; have HLN := Aside0.mk hlen; have HR := Aside0.mk hbel; clear hL hG hlen hbel)
          | (go_at_call 6; go_must (refine (hit_calls xs A5 c5 n _ (Kd.C_below HIN.out.2.2 HR.out) HIN.out.2.1 HSM.out).mono ?_); rintro e w3 ⟨AC, cC, yc, rfl, hcl, hN, hbel⟩; have HCN := Aside0.mk hN; have HCL := Aside0.mk hcl; have n1 := Aside0.mk (Kd.N_below HL.out hbel); have n2 := Aside0.mk (Kd.N_below HG.out hbel); have n3 := Aside0.mk (show ∀ q, (Value.slice AL ya.length cL).ownBlock = some q → q < w2.heap.size from Kd.N_lt HL.out); have HZ2 := Aside0.mk HR.out.size; have n0 := Aside0.mk (below_step HR.out hbel); have HZ3 := Aside0.mk hbel.size; clear HR HL HG hN hcl hbel; have HR := n0; have HL := n1; have HG := n2; clear n0 n1 n2)
          | ((with_reducible refine gate_builtin (b := .append) (xs := #[.tmp 45, .tmp 46]) rfl ?_); at_builtin; go_must ((refine Kd.N_append_rows k31u (w0 := wa) wa.heap.size rfl (.tmp 45) (.tmp 46) 22 31 _ 272 rfl Try.underlying22 info31 rfl (by decide) (by omega) (.slice AL ya.length cL) ya yb AG yb.length cG (fun q => wa.heap.size ≤ q) (fun q => wa.heap.size ≤ q ∧ some q ≠ (Value.slice AL ya.length cL).ownBlock) rfl rfl ?aO ?aF (fun q hq => hq) ?aW ?aB ?aS ?aL ?_); (case aO => exact Kd.N_mono HL.out (fun q hq => hq.1)); (case aF => exact Kd.N_F HG.out); (case aW => exact fun q hq => Nat.le_trans HR.out.size hq); (case aB => exact HR.out); (case aS => exact HR.out.size); (case aL => have := HLN.out; have := HSM.out.1; omega); intro v4 w4 hN hb hg hat; obtain ⟨yab, eyab⟩ : ∃ y_ : List S31, y_ = ya ++ yb := ⟨_, rfl⟩; rw [← eyab] at hN; have HAB := Aside0.mk (show yab.length = xs.length by rw [eyab, List.length_append]; exact HLN.out); obtain ⟨A4, c4, e4⟩ := Kd.N_slice hN; subst e4; have n0 := Aside0.mk (Kd.F_grown (Kd.F_bound (Kd.N_F HCN.out)) hg (fun q hq e => by have := n3.out q e.symm; have := hq.1; omega)); have n1 := Aside0.mk hN; have n2 := Aside0.mk hb; have HAT := Aside0.mk hat; clear hN hb hg hat HL HG HCN HR; have HCF := n0; have HA4 := n1; have HR := n2; clear n0 n1 n2 eyab))
          | ((with_reducible refine gate_builtin (b := .append) (xs := #[.tmp 47, .tmp 48]) rfl ?_); at_builtin; go_must ((refine Kd.N_append_rows k31u (w0 := wa) wa.heap.size rfl (.tmp 47) (.tmp 48) 22 31 _ 272 rfl Try.underlying22 info31 rfl (by decide) (by omega) (.slice A4 yab.length c4) yab yc AC xs.length xs.length (fun q => wa.heap.size ≤ q) (fun q => w2.heap.size ≤ q ∧ q < w3.heap.size) rfl rfl ?aO ?aF ?aK ?aW ?aB ?aS ?aL ?_); (case aO => exact HA4.out); (case aF => exact HCF.out); (case aK => exact fun q hq => ⟨Nat.le_trans HZ2.out hq.1, fun e => by (rcases HAT.out with h | ⟨b, h, hbb⟩); (· have := n3.out q (h.symm.trans e.symm); have := hq.1; omega); (· have h2 := h.symm.trans e.symm; injection h2 with h2; have := hq.2; omega)⟩); (case aW => exact fun q hq => Nat.le_trans HR.out.size hq); (case aB => exact HR.out); (case aS => exact HR.out.size); (case aL => have := HAB.out; have := HSM.out.1; omega); intro v5 w5 hN hb hg hat; obtain ⟨ys, eys⟩ : ∃ y_ : List S31, y_ = yab ++ yc := ⟨_, rfl⟩; rw [← eys] at hN; have HYL := Aside0.mk (show ys.length = 2 * xs.length by rw [eys, List.length_append]; have := HAB.out; have := HCL.out; omega); obtain ⟨A6, c6, e6⟩ := Kd.N_slice hN; subst e6; have HALL := Aside0.mk hN; have n2 := Aside0.mk hb; clear hN hb hg hat HR HA4 HCF eys; have HR := n2; clear n2)))
        obtain ⟨g, hg⟩ : ∃ g : Nat, ∀ a, A6 = some a → a = ⟨g, 0, none⟩ := by
          cases A6 with
          | none => exact ⟨0, fun a h => by cases h⟩
          | some a =>
            refine ⟨a.block, fun a' h => ?_⟩
            injection h with h
            subst h
            rcases Nat.eq_zero_or_pos ys.length with z | z
            · obtain ⟨_, rows, _, hR, _⟩ := HALL.out
              have := Kd.R_head hR
              obtain ⟨g, e⟩ := this
              rw [e]
            · obtain ⟨g, e, _⟩ := N_row HALL.out z
              injection e with e
              rw [e]
        have hinit : RowOK w5 g ys.length ∧ ActsOK w5 g ys.length wa.heap.size w5 := by
          rcases Nat.eq_zero_or_pos ys.length with z | z
          · exact ⟨fun i hi => by omega, fun i hi => by omega⟩
          · obtain ⟨g', e, _⟩ := N_row HALL.out z
            have := hg _ e
            injection this with e1
            subst e1
            have hN := HALL.out
            rw [e] at hN
            exact acts_init hN (fun q hq => hq)
        have HROW := Aside0.mk hinit.1
        have HACT := Aside0.mk hinit.2
        have HG6 := Aside0.mk hg
        have HNZ := Aside0.mk (fun hz : 0 < ys.length => N_row HALL.out hz)
        clear hinit hg
        go_loopg [12] (ys.length + 1) (fun kq v12 w' => ∃ i : Nat, v12 = .int .i64 i ∧ i ≤ ys.length ∧ Aside0 (kq + i = ys.length + 1) ∧ Aside0 (ActsOK w5 g ys.length wa.heap.size w') ∧ Aside0 (w'.heap[g]? = w5.heap[g]?) ∧ Aside0 (Below wa.heap.size wa w'))
        case atStart => exact ⟨0, rfl, Nat.zero_le _, ⟨rfl⟩, HACT, ⟨rfl⟩, HR⟩
        case round =>
          clear HACT HR
          obtain ⟨i, rfl, hi, HQ2, HACT, HGE, HR⟩ := hrel
          by_cases hlt2 : i < ys.length
          · obtain ⟨g', e6, _⟩ := HNZ.out (by omega)
            have eg := HG6.out _ e6
            injection eg with eg
            subst eg
            subst e6
            obtain ⟨Ai, q, ci, hrow5, hqm, hqc, hqa⟩ := HROW.out i hlt2
            have HR5 := Aside0.mk hrow5
            have HQM := Aside0.mk hqm
            have HQC := Aside0.mk hqc
            have HQA := Aside0.mk hqa
            have p3 : (0 : Int) ≤ i := by omega
            have p4 : (i : Int) < ys.length := by omega
            obtain ⟨wb, rfl⟩ : ∃ wb : World, wb = wr := ⟨_, rfl⟩
            obtain ⟨ko, rfl⟩ : ∃ m, gk = m + 1 := ⟨gk - 1, by have := HQ2.out; omega⟩
            clear hrow5 hqm hqc hqa
            go_wp2
            go_loopg [13] (q + 1) (fun kq v13 w' => ∃ k : Nat, v13 = .int .i64 k ∧ k ≤ q ∧ Aside0 (kq + k = q + 1) ∧ Aside0 (ActsOK w5 g' ys.length wa.heap.size w') ∧ Aside0 (w'.heap[g']? = w5.heap[g']?) ∧ Aside0 (Below wa.heap.size wa w'))
            case atStart => exact ⟨0, rfl, Nat.zero_le _, ⟨rfl⟩, HACT, HGE, HR⟩
            case round =>
              clear HACT HGE HR
              obtain ⟨k, rfl, hk2, HQ3, HACT, HGE, HR⟩ := hrel
              have hrow : wr.cell? ⟨g', i * 32 + 25, none⟩ = some (.slice Ai q ci) := by
                rw [← HR5.out]; unfold World.cell?; simp only [HGE.out]
              by_cases hlt3 : k < q
              · obtain ⟨ad, ea⟩ := HQA.out (by omega)
                subst ea
                obtain ⟨⟨pp, hport⟩, hfz, hbs, hne⟩ := HACT.out i hlt2 ad q ci HR5.out k hlt3
                have HBS := Aside0.mk hbs
                have HNE := Aside0.mk hne
                have HPO := Aside0.mk hport
                have p5 : (0 : Int) ≤ k := by omega
                have p6 : (k : Int) < q := by omega
                clear hbs hne
                go_wp2
                have hw1 : wrap64 ((k : Int) + 1) = ((k + 1 : Nat) : Int) := by have := HQM.out; unfold wrap64; omega
                rw [hw1]
                clear hw1
                obtain ⟨ki, rfl⟩ : ∃ m, gk = m + 1 := ⟨gk - 1, by have := HQ3.out; omega⟩
                have m1 := Aside0.mk (acts_step HACT.out HPO.out (wrap64 (pp + 1)))
                have m2 := Aside0.mk ((Below.heap_setCell wr ⟨(ad.add (k * 4)).block, (ad.add (k * 4)).off + 1, none⟩ (.int .i64 (wrap64 (pp + 1))) g' (Ne.symm HNE.out)).trans HGE.out)
                have m3 := Aside0.mk (below_set (j := (ad.add (k * 4)).off + 1) (v := .int .i64 (wrap64 (pp + 1))) HR.out HBS.out)
                clear hrow hport hfz HACT HGE HR
                go_roundg ki
                case rel => exact ⟨k + 1, rfl, hlt3, ⟨by have := HQ3.out; omega⟩, m1, m2, m3⟩
                case measure => omega
              · obtain rfl : k = q := by omega
                go_wp2
                have hw1 : wrap64 ((i : Int) + 1) = ((i + 1 : Nat) : Int) := by have := HYL.out; unfold wrap64; omega
                try rw [hw1]
                clear hw1 hrow
                go_roundg ko
                case rel => exact ⟨i + 1, by go_num, hlt2, ⟨by have := HQ2.out; omega⟩, HACT, HGE, HR⟩
                case measure => omega
          · obtain rfl : i = ys.length := by omega
            have hfin : ((ys.length : Int) == 2 * (xs.length : Int)) = true := by have := HYL.out; simp; omega
            go_wp2_with (first
              | (go_at_call 4; refine (answers_calls _).mono ?_; rintro e w8 ⟨rfl, hb⟩; have n0 := Aside0.mk (below_step HR.out hb); clear HR hb HACT HGE; have HR := n0; clear n0)
              | (go_at_call 7; go_must (refine (same_same xs A5 A c5 c _ (Kd.C_below (C_plain HIN.out.2.2) HR.out) HIN.out.2.1 (Kd.C_below HC.out (below_step HB.out HR.out)) HLE.out HSM.out.1 HLIM.out).mono ?_); rintro e w9 ⟨rfl, hb⟩; have n0 := Aside0.mk (below_step HR.out hb); clear HR hb; have HR := n0; clear n0))
            go_ret
            exact ⟨rfl, below_step HB.out HR.out⟩
end Go.Proofs.Ytkmodkjjboeoeaa.A
