/- Laws and walks for CheckScopes: texts laid together by my own small program. -/
import Derived.Test.YtdiadmlgeojefaaP4
namespace Go.Proofs.Ytdiadmlgeojefaa.A
open Go.RowKit Go.Proofs.YtdiadmlgeojefaaW.PrintWords Go.Proofs.YtdiadmlgeojefaaW.PrintLast Go.Proofs.YtdiadmlgeojefaaW.PrintMore
set_option linter.unusedVariables false
set_option linter.unusedSimpArgs false
def inE (name : ByteArray) : Bool := (slices_Contains_string_string.f 10 evL name).getD false
theorem idx_step (k : Nat) (xs : List ByteArray) (x : ByteArray) (n i : Int) (h1 : i < n) (h0 : 0 ≤ i) (h2 : i < (xs.length : Int)) : slices_Index_string_string.l0 (k + 1) xs x n i = if x.toList = (rdOf ByteArray.empty xs i).toList then some i else slices_Index_string_string.l0 k xs x n (wrap64 (i + 1)) := by
  simp only [slices_Index_string_string.l0, if_pos h1, if_pos h0, if_pos h2]
theorem inE_some (name : ByteArray) : slices_Contains_string_string.f 10 evL name = some (inE name) := by
  have h : ∃ b, slices_Index_string_string.l0 10 evL name 3 0 = some b := by
    rw [idx_step 9 evL name 3 0 (by decide) (by decide) (by decide)]
    split
    · exact ⟨_, rfl⟩
    · rw [show wrap64 (0 + 1) = 1 by kernel_rfl, idx_step 8 evL name 3 1 (by decide) (by decide) (by decide)]
      split
      · exact ⟨_, rfl⟩
      · rw [show wrap64 (1 + 1) = 2 by kernel_rfl, idx_step 7 evL name 3 2 (by decide) (by decide) (by decide)]
        split
        · exact ⟨_, rfl⟩
        · exact ⟨-1, by kernel_rfl⟩
  obtain ⟨b, hb⟩ := h
  have h2 : slices_Contains_string_string.f 10 evL name = some (decide (b ≥ 0)) := by
    unfold slices_Contains_string_string.f slices_Index_string_string.f
    rw [show ((evL.length : Nat) : Int) = 3 from rfl, hb]
    rfl
  unfold inE
  rw [h2]
  rfl
theorem wanted_none {ops : Array Oper} {a : Act} {o oj : Oper} {j N : Nat} {want : Bool} (hg : o.guard = some (j, want)) (hj : ops[j]? = some oj) (hd : oj.dst = some N) (hv : a.eval (.tmp N) = undef) : Region.wanted o (yielded ops a.tmps) = false := by
  have h1 : a.tmps[N]?.getD undef = undef := by
    simpa [Act.eval, Array.getD_eq_getD_getElem?] using hv
  have h2 : yielded ops a.tmps j = none := by
    simp only [yielded, hj, hd, Option.bind_some]
    cases hq : a.tmps[N]? with
    | none => rfl
    | some u =>
      rw [hq] at h1
      have h3 : u = undef := h1
      subst h3
      rfl
  simp [Region.wanted, hg, h2]
theorem run_add3 {o : Oper} {a : Act} {x y : Operand} (ho : o.op = .binOp .add 3 x y 3) (ht : o.type = 3) {n m : Int} (hx : a.eval x = .int .i64 n) (hy : a.eval y = .int .i64 m) (h0 : -9223372036854775808 ≤ n + m) (h1 : n + m ≤ 9223372036854775807) : ∀ w, (execOp a.eval o).run Try.prog w = .ok (.value (.int .i64 (n + m))) w := by
  intro w
  generalize a.eval = ev at hx hy
  unfold execOp
  simp only [ho, ht, hx, hy]
  go_simp
  exact IntWalk.i64_in (n + m) ⟨h0, h1⟩
theorem CkAt.put {w0 W W1 : World} {g bm : Nat} {ks ks' : List ByteArray} {on : ByteArray} {f : Ft} (h : CkAt w0 W g bm ks on f) (hm : Mp W1 bm ks') (hg : W.grownBy W1 (some bm)) : CkAt w0 W1 g bm ks' on f :=
  ⟨grown_blk hg h.blk (Ne.symm h.ne), hm, h.ge, h.geM, pw_below_grown h.bel _ h.bel.size hg (by intro k hk; injection hk with hk; have := h.geM; omega)⟩
def headsL : List ByteArray → List ByteArray → Ft → List S29 → Option (List ByteArray × Ft)
  | ks, _, f, [] => some (ks, f)
  | ks, ss, f, k :: r =>
    if k.f1.size ≤ maxLen then
      if (k.f0 == 2) = true then
        if decide (0 < (cntL ks k.f1 : Int)) = true then headsL ks ss (failF f 14 k.f4) r
        else if anyF k.f1 = true then headsL ks ss (failF f 14 k.f4) r
        else headsL (k.f1 :: ks) ss (if decide (64 < (dlen (k.f1 :: ks) : Int)) = true then failF f 13 k.f4 else f) r
      else if inE k.f1 = true then
        if decide (0 < (cntL ss k.f1 : Int)) = true then headsL ks ss (failF f 14 k.f4) r
        else headsL ks (k.f1 :: ss) f r
      else headsL ks ss (failF f 14 k.f4) r
    else none
def HeadPost (w0 w : World) (g bm : Nat) (ks : List ByteArray) (on : ByteArray) (f : Ft) (e : Ending) (w' : World) : Prop :=
  e = .returned (.tuple #[]) ∧ CkAt w0 w' g bm ks on f ∧ RelG g bm none w w'
theorem rel_keepb {g b : Nat} {w W W1 : World} (h : RelG g b none w W) (hk : KeepBut W W1 g none) : RelG g b none w W1 :=
  ⟨Nat.le_trans h.1 hk.1, fun i hi h1 h2 h3 => (hk.2 i (Nat.lt_of_lt_of_le hi h.1) h1 (by simp)).trans (h.2 i hi h1 h2 h3)⟩
structure heads6nChk (ops : Array Oper) : Prop where
  f0 : anyB .any ops #[false, false, false, false, false, false, false, false, false, false, false, false, false, false, false, false, false, false, false] #[true, false, false, false, false, false, false, false, false, false, false, false, false, false, false, false, false, false, false] 0 = true
  f1 : takeB .any ops [] #[true, false, false, false, false, false, false, false, false, false, false, false, false, false, false, false, false, false, false] #[true, true, false, false, false, false, false, false, false, false, false, false, false, false, false, false, false, false, false] 1 = true
  f2 : anyB .any ops #[true, true, false, false, false, false, false, false, false, false, false, false, false, false, false, false, false, false, false] #[true, true, true, false, false, false, false, false, false, false, false, false, false, false, false, false, false, false, false] 2 = true
  f3 : anyB .any ops #[true, true, true, false, false, false, false, false, false, false, false, false, false, false, false, false, false, false, false] #[true, true, true, true, false, false, false, false, false, false, false, false, false, false, false, false, false, false, false] 3 = true
  f4 : anyB .any ops #[true, true, true, true, false, false, false, false, false, false, false, false, false, false, false, false, false, false, false] #[true, true, true, true, true, false, false, false, false, false, false, false, false, false, false, false, false, false, false] 4 = true
  f5 : anyB .any ops #[true, true, true, true, true, false, false, false, false, false, false, false, false, false, false, false, false, false, false] #[true, true, true, true, true, true, false, false, false, false, false, false, false, false, false, false, false, false, false] 5 = true
  f6 : anyB .any ops #[true, true, true, true, true, true, false, false, false, false, false, false, false, false, false, false, false, false, false] #[true, true, true, true, true, true, true, false, false, false, false, false, false, false, false, false, false, false, false] 6 = true
  f7 : anyB .any ops #[true, true, true, true, true, true, true, false, false, false, false, false, false, false, false, false, false, false, false] #[true, true, true, true, true, true, true, true, false, false, false, false, false, false, false, false, false, false, false] 7 = true
  f8 : anyB .any ops #[true, true, true, true, true, true, true, true, false, false, false, false, false, false, false, false, false, false, false] #[true, true, true, true, true, true, true, true, true, false, false, false, false, false, false, false, false, false, false] 8 = true
  f9 : anyB .any ops #[true, true, true, true, true, true, true, true, true, false, false, false, false, false, false, false, false, false, false] #[true, true, true, true, true, true, true, true, true, true, false, false, false, false, false, false, false, false, false] 9 = true
  f10 : anyB .any ops #[true, true, true, true, true, true, true, true, true, true, false, false, false, false, false, false, false, false, false] #[true, true, true, true, true, true, true, true, true, true, true, false, false, false, false, false, false, false, false] 10 = true
  f11 : anyB .any ops #[true, true, true, true, true, true, true, true, true, true, true, false, false, false, false, false, false, false, false] #[true, true, true, true, true, true, true, true, true, true, true, true, false, false, false, false, false, false, false] 11 = true
  f12 : anyB .any ops #[true, true, true, true, true, true, true, true, true, true, true, true, false, false, false, false, false, false, false] #[true, true, true, true, true, true, true, true, true, true, true, true, true, false, false, false, false, false, false] 12 = true
  f13 : anyB .any ops #[true, true, true, true, true, true, true, true, true, true, true, true, true, false, false, false, false, false, false] #[true, true, true, true, true, true, true, true, true, true, true, true, true, true, false, false, false, false, false] 13 = true
  f14 : anyB .any ops #[true, true, true, true, true, true, true, true, true, true, true, true, true, true, false, false, false, false, false] #[true, true, true, true, true, true, true, true, true, true, true, true, true, true, true, false, false, false, false] 14 = true
  f15 : anyB .any ops #[true, true, true, true, true, true, true, true, true, true, true, true, true, true, true, false, false, false, false] #[true, true, true, true, true, true, true, true, true, true, true, true, true, true, true, true, false, false, false] 15 = true
  f16 : anyB .any ops #[true, true, true, true, true, true, true, true, true, true, true, true, true, true, true, true, false, false, false] #[true, true, true, true, true, true, true, true, true, true, true, true, true, true, true, true, true, false, false] 16 = true
  f17 : anyB .any ops #[true, true, true, true, true, true, true, true, true, true, true, true, true, true, true, true, true, false, false] #[true, true, true, true, true, true, true, true, true, true, true, true, true, true, true, true, true, true, false] 17 = true
  f18 : anyB .any ops #[true, true, true, true, true, true, true, true, true, true, true, true, true, true, true, true, true, true, false] #[true, true, true, true, true, true, true, true, true, true, true, true, true, true, true, true, true, true, true] 18 = true
  f19 : (Region.ready .any ops #[true, true, true, true, true, true, true, true, true, true, true, true, true, true, true, true, true, true, true] == []) = true
set_option maxHeartbeats 1000000 in
theorem heads6n {ops : Array Oper} {id : Nat} {Q : Exit → Act → World → Prop} {a : Act} {W : World} {g bm b1 sm : Nat} {T : S29} {v : Value} {f : Ft} {ks ss : List ByteArray} {on : ByteArray} (hb1 : W.heap[b1]? = some (.cells (nc T v).toArray 29 (0, 0))) (hg : W.heap[g]? = some (.cells (ckc bm on f).toArray 88 (0, 0))) (hm : Mp W bm ks) (hsm : Mp W sm ss) (hs : T.f1.size ≤ maxLen)
    (hk : (T.f0 == 2) = false)
    {o0 o1 o2 o3 o4 o5 o6 o7 o8 o9 o10 o11 o12 o13 o14 o15 o16 o17 o18 : Oper} (hsize : ops.size = 19) (h0 : ops[0]? = some o0) (h1 : ops[1]? = some o1) (h2 : ops[2]? = some o2) (h3 : ops[3]? = some o3) (h4 : ops[4]? = some o4) (h5 : ops[5]? = some o5) (h6 : ops[6]? = some o6) (h7 : ops[7]? = some o7) (h8 : ops[8]? = some o8) (h9 : ops[9]? = some o9) (h10 : ops[10]? = some o10) (h11 : ops[11]? = some o11) (h12 : ops[12]? = some o12) (h13 : ops[13]? = some o13) (h14 : ops[14]? = some o14) (h15 : ops[15]? = some o15) (h16 : ops[16]? = some o16) (h17 : ops[17]? = some o17) (h18 : ops[18]? = some o18)
    (g0 : o0.guard = none ∧ o0.dst = some 21) (g1 : o1.guard = none ∧ o1.dst = some 22) (g2 : o2.guard = none ∧ o2.dst = some 23) (g3 : o3.guard = none ∧ o3.dst = some 24) (g4 : o4.guard = some (3, true) ∧ o4.dst = some 25) (g5 : o5.guard = some (3, true) ∧ o5.dst = some 26) (g6 : o6.guard = some (3, true) ∧ o6.dst = some 27) (g7 : o7.guard = some (3, true) ∧ o7.dst = some 28) (g8 : o8.guard = some (3, true) ∧ o8.dst = some 29) (g9 : o9.guard = some (3, true) ∧ o9.dst = some 30) (g10 : o10.guard = some (3, true) ∧ o10.dst = some 31) (g11 : o11.guard = some (3, true) ∧ o11.dst = some 32) (g12 : o12.guard = some (3, true) ∧ o12.dst = some 33) (g13 : o13.guard = some (12, false) ∧ o13.dst = some 34) (g14 : o14.guard = some (12, false) ∧ o14.dst = some 35) (g15 : o15.guard = some (12, false) ∧ o15.dst = some 36) (g16 : o16.guard = some (3, true) ∧ o16.dst = some 37) (g17 : o17.guard = none ∧ o17.dst = some 38) (g18 : o18.guard = none ∧ o18.dst = some 20)
    (p0 : o0.op = .fieldAddr 29 (.tmp 6) 0) (p1 : o1.op = .load 3 (.tmp 21)) (p2 : o2.op = .binOp .eql 3 (.tmp 22) (.const (.int .i64 2)) 3) (p3 : o3.op = .move (.tmp 23)) (p4 : o4.op = .move (.tmp 0)) (p5 : o5.op = .nilCheck (.tmp 25)) (p6 : o6.op = .fieldAddr 88 (.tmp 26) 0) (p7 : o7.op = .load 86 (.tmp 27)) (p8 : o8.op = .fieldAddr 29 (.tmp 6) 1) (p9 : o9.op = .load 9 (.tmp 29)) (p10 : o10.op = .lookup 86 (.tmp 28) (.tmp 30) false) (p11 : o11.op = .binOp .gtr 3 (.tmp 31) (.const (.int .i64 0)) 3) (p12 : o12.op = .move (.tmp 32)) (p13 : o13.op = .fieldAddr 29 (.tmp 6) 1) (p14 : o14.op = .load 9 (.tmp 34)) (p15 : o15.op = .call { callee := .value (.func 62), args := #[.tmp 35], argTypes := #[9] }) (p16 : o16.op = .pick (.tmp 33) (.const (.bool true)) (.tmp 36)) (p17 : o17.op = .pick (.tmp 24) (.tmp 37) (.const (.bool false))) (p18 : o18.op = .assign (.tmp 38))
    
    (hsz : a.tmps.size = 80) (v0 : a.eval (.tmp 0) = .pointer (some ⟨g, 0, none⟩)) (v6 : a.eval (.tmp 6) = .pointer (some ⟨b1, 0, none⟩)) (hc : heads6nChk ops)
    (hQ : ∀ (d : Tmp) v c a w, Q (.panic c) (Act.put a (some d) v) w → Q (.panic c) a w)
    (hpost : ∀ W', Below W.heap.size W W' → Q .normal (((((((((((((((((((a.put (some 21) (.pointer (some ⟨b1, 0, none⟩))).put (some 22) (.int .i64 T.f0)).put (some 23) (.bool false)).put (some 24) (.bool false)).put (some 25) undef).put (some 26) undef).put (some 27) undef).put (some 28) undef).put (some 29) undef).put (some 30) undef).put (some 31) undef).put (some 32) undef).put (some 33) undef).put (some 34) undef).put (some 35) undef).put (some 36) undef).put (some 37) undef).put (some 38) (.bool false)).put (some 20) (.bool false)) W') :
    (Code.region id ops true).wp Try.prog Q a W := by
  refine start_ (n := 19) (S := fun w' => w'.heap[b1]? = some (.cells (nc T v).toArray 29 (0, 0)) ∧ w'.heap[g]? = some (.cells (ckc bm on f).toArray 88 (0, 0)) ∧ Mp w' bm ks ∧ Mp w' sm ss) (ds := []) #[false, false, false, false, false, false, false, false, false, false, false, false, false, false, false, false, false, false, false] (by kernel_rfl) hsize rfl ⟨hb1, hg, hm.blk rfl, hsm.blk rfl⟩ (fun hS2 => ?_)
  refine pure_ (i := 0) (N := some 21) (v := (.pointer (some ⟨b1, 0, none⟩))) #[true, false, false, false, false, false, false, false, false, false, false, false, false, false, false, false, false, false, false] h0 g0.2 hc.f0 (fun c a w => by rw [g0.2]; exact hQ _ _ c a w) (Or.inl ⟨(by simp [Region.wanted, g0.1]), run_fa29_0 p0 (by rw [v6])⟩) rfl ?_
  refine take_ (i := 1) (N := some 22) (v := (.int .i64 T.f0)) #[true, true, false, false, false, false, false, false, false, false, false, false, false, false, false, false, false, false, false] h1 g1.2 hc.f1 (fun c a w => by rw [g1.2]; exact hQ _ _ c a w) (Or.inl ⟨(by simp [Region.wanted, g1.1]), fun w9 hw9 => run_loadT p1 (by rw [act_same _ _ _ (by (try simp only [act_size]); rw [hsz]; decide)]) ((Mine.blk_cells hw9.1 0).trans rfl) Try.underlying3 rfl⟩) hS2 rfl ?_
  refine pure_ (i := 2) (N := some 23) (v := (.bool false)) #[true, true, true, false, false, false, false, false, false, false, false, false, false, false, false, false, false, false, false] h2 g2.2 hc.f2 (fun c a w => by rw [g2.2]; exact hQ _ _ c a w) (Or.inl ⟨(by simp [Region.wanted, g2.1]), (fun w => (run_eq3 p2 (by rw [act_same _ _ _ (by (try simp only [act_size]); rw [hsz]; decide)]) rfl w).trans (by rw [hk]))⟩) rfl ?_
  refine pure_ (i := 3) (N := some 24) (v := (.bool false)) #[true, true, true, true, false, false, false, false, false, false, false, false, false, false, false, false, false, false, false] h3 g3.2 hc.f3 (fun c a w => by rw [g3.2]; exact hQ _ _ c a w) (Or.inl ⟨(by simp [Region.wanted, g3.1]), run_move p3 (by rw [act_same _ _ _ (by (try simp only [act_size]); rw [hsz]; decide)])⟩) rfl ?_
  refine pure_ (i := 4) (N := some 25) (v := undef) #[true, true, true, true, true, false, false, false, false, false, false, false, false, false, false, false, false, false, false] h4 g4.2 hc.f4 (fun c a w => by rw [g4.2]; exact hQ _ _ c a w) (Or.inr ⟨wanted_no g4.1 (yielded_of h3 g3.2 (by rw [act_same _ _ _ (by (try simp only [act_size]); rw [hsz]; decide)]) (by (try simp only [act_size]); rw [hsz]; decide)) (by decide), rfl⟩) rfl ?_
  refine pure_ (i := 5) (N := some 26) (v := undef) #[true, true, true, true, true, true, false, false, false, false, false, false, false, false, false, false, false, false, false] h5 g5.2 hc.f5 (fun c a w => by rw [g5.2]; exact hQ _ _ c a w) (Or.inr ⟨wanted_no g5.1 (yielded_of h3 g3.2 (by rw [act_ne _ _ (by decide), act_same _ _ _ (by (try simp only [act_size]); rw [hsz]; decide)]) (by (try simp only [act_size]); rw [hsz]; decide)) (by decide), rfl⟩) rfl ?_
  refine pure_ (i := 6) (N := some 27) (v := undef) #[true, true, true, true, true, true, true, false, false, false, false, false, false, false, false, false, false, false, false] h6 g6.2 hc.f6 (fun c a w => by rw [g6.2]; exact hQ _ _ c a w) (Or.inr ⟨wanted_no g6.1 (yielded_of h3 g3.2 (by rw [act_ne _ _ (by decide), act_ne _ _ (by decide), act_same _ _ _ (by (try simp only [act_size]); rw [hsz]; decide)]) (by (try simp only [act_size]); rw [hsz]; decide)) (by decide), rfl⟩) rfl ?_
  refine pure_ (i := 7) (N := some 28) (v := undef) #[true, true, true, true, true, true, true, true, false, false, false, false, false, false, false, false, false, false, false] h7 g7.2 hc.f7 (fun c a w => by rw [g7.2]; exact hQ _ _ c a w) (Or.inr ⟨wanted_no g7.1 (yielded_of h3 g3.2 (by rw [act_ne _ _ (by decide), act_ne _ _ (by decide), act_ne _ _ (by decide), act_same _ _ _ (by (try simp only [act_size]); rw [hsz]; decide)]) (by (try simp only [act_size]); rw [hsz]; decide)) (by decide), rfl⟩) rfl ?_
  refine pure_ (i := 8) (N := some 29) (v := undef) #[true, true, true, true, true, true, true, true, true, false, false, false, false, false, false, false, false, false, false] h8 g8.2 hc.f8 (fun c a w => by rw [g8.2]; exact hQ _ _ c a w) (Or.inr ⟨wanted_no g8.1 (yielded_of h3 g3.2 (by rw [act_ne _ _ (by decide), act_ne _ _ (by decide), act_ne _ _ (by decide), act_ne _ _ (by decide), act_same _ _ _ (by (try simp only [act_size]); rw [hsz]; decide)]) (by (try simp only [act_size]); rw [hsz]; decide)) (by decide), rfl⟩) rfl ?_
  refine pure_ (i := 9) (N := some 30) (v := undef) #[true, true, true, true, true, true, true, true, true, true, false, false, false, false, false, false, false, false, false] h9 g9.2 hc.f9 (fun c a w => by rw [g9.2]; exact hQ _ _ c a w) (Or.inr ⟨wanted_no g9.1 (yielded_of h3 g3.2 (by rw [act_ne _ _ (by decide), act_ne _ _ (by decide), act_ne _ _ (by decide), act_ne _ _ (by decide), act_ne _ _ (by decide), act_same _ _ _ (by (try simp only [act_size]); rw [hsz]; decide)]) (by (try simp only [act_size]); rw [hsz]; decide)) (by decide), rfl⟩) rfl ?_
  refine pure_ (i := 10) (N := some 31) (v := undef) #[true, true, true, true, true, true, true, true, true, true, true, false, false, false, false, false, false, false, false] h10 g10.2 hc.f10 (fun c a w => by rw [g10.2]; exact hQ _ _ c a w) (Or.inr ⟨wanted_no g10.1 (yielded_of h3 g3.2 (by rw [act_ne _ _ (by decide), act_ne _ _ (by decide), act_ne _ _ (by decide), act_ne _ _ (by decide), act_ne _ _ (by decide), act_ne _ _ (by decide), act_same _ _ _ (by (try simp only [act_size]); rw [hsz]; decide)]) (by (try simp only [act_size]); rw [hsz]; decide)) (by decide), rfl⟩) rfl ?_
  refine pure_ (i := 11) (N := some 32) (v := undef) #[true, true, true, true, true, true, true, true, true, true, true, true, false, false, false, false, false, false, false] h11 g11.2 hc.f11 (fun c a w => by rw [g11.2]; exact hQ _ _ c a w) (Or.inr ⟨wanted_no g11.1 (yielded_of h3 g3.2 (by rw [act_ne _ _ (by decide), act_ne _ _ (by decide), act_ne _ _ (by decide), act_ne _ _ (by decide), act_ne _ _ (by decide), act_ne _ _ (by decide), act_ne _ _ (by decide), act_same _ _ _ (by (try simp only [act_size]); rw [hsz]; decide)]) (by (try simp only [act_size]); rw [hsz]; decide)) (by decide), rfl⟩) rfl ?_
  refine pure_ (i := 12) (N := some 33) (v := undef) #[true, true, true, true, true, true, true, true, true, true, true, true, true, false, false, false, false, false, false] h12 g12.2 hc.f12 (fun c a w => by rw [g12.2]; exact hQ _ _ c a w) (Or.inr ⟨wanted_no g12.1 (yielded_of h3 g3.2 (by rw [act_ne _ _ (by decide), act_ne _ _ (by decide), act_ne _ _ (by decide), act_ne _ _ (by decide), act_ne _ _ (by decide), act_ne _ _ (by decide), act_ne _ _ (by decide), act_ne _ _ (by decide), act_same _ _ _ (by (try simp only [act_size]); rw [hsz]; decide)]) (by (try simp only [act_size]); rw [hsz]; decide)) (by decide), rfl⟩) rfl ?_
  refine pure_ (i := 13) (N := some 34) (v := undef) #[true, true, true, true, true, true, true, true, true, true, true, true, true, true, false, false, false, false, false] h13 g13.2 hc.f13 (fun c a w => by rw [g13.2]; exact hQ _ _ c a w) (Or.inr ⟨wanted_none g13.1 h12 g12.2 (by rw [act_same _ _ _ (by (try simp only [act_size]); rw [hsz]; decide)]), rfl⟩) rfl ?_
  refine pure_ (i := 14) (N := some 35) (v := undef) #[true, true, true, true, true, true, true, true, true, true, true, true, true, true, true, false, false, false, false] h14 g14.2 hc.f14 (fun c a w => by rw [g14.2]; exact hQ _ _ c a w) (Or.inr ⟨wanted_none g14.1 h12 g12.2 (by rw [act_ne _ _ (by decide), act_same _ _ _ (by (try simp only [act_size]); rw [hsz]; decide)]), rfl⟩) rfl ?_
  refine pure_ (i := 15) (N := some 36) (v := undef) #[true, true, true, true, true, true, true, true, true, true, true, true, true, true, true, true, false, false, false] h15 g15.2 hc.f15 (fun c a w => by rw [g15.2]; exact hQ _ _ c a w) (Or.inr ⟨wanted_none g15.1 h12 g12.2 (by rw [act_ne _ _ (by decide), act_ne _ _ (by decide), act_same _ _ _ (by (try simp only [act_size]); rw [hsz]; decide)]), rfl⟩) rfl ?_
  refine pure_ (i := 16) (N := some 37) (v := undef) #[true, true, true, true, true, true, true, true, true, true, true, true, true, true, true, true, true, false, false] h16 g16.2 hc.f16 (fun c a w => by rw [g16.2]; exact hQ _ _ c a w) (Or.inr ⟨wanted_no g16.1 (yielded_of h3 g3.2 (by rw [act_ne _ _ (by decide), act_ne _ _ (by decide), act_ne _ _ (by decide), act_ne _ _ (by decide), act_ne _ _ (by decide), act_ne _ _ (by decide), act_ne _ _ (by decide), act_ne _ _ (by decide), act_ne _ _ (by decide), act_ne _ _ (by decide), act_ne _ _ (by decide), act_ne _ _ (by decide), act_same _ _ _ (by (try simp only [act_size]); rw [hsz]; decide)]) (by (try simp only [act_size]); rw [hsz]; decide)) (by decide), rfl⟩) rfl ?_
  refine pure_ (i := 17) (N := some 38) (v := (.bool false)) #[true, true, true, true, true, true, true, true, true, true, true, true, true, true, true, true, true, true, false] h17 g17.2 hc.f17 (fun c a w => by rw [g17.2]; exact hQ _ _ c a w) (Or.inl ⟨(by simp [Region.wanted, g17.1]), run_pick p17 (b := false) (by rw [act_ne _ _ (by decide), act_ne _ _ (by decide), act_ne _ _ (by decide), act_ne _ _ (by decide), act_ne _ _ (by decide), act_ne _ _ (by decide), act_ne _ _ (by decide), act_ne _ _ (by decide), act_ne _ _ (by decide), act_ne _ _ (by decide), act_ne _ _ (by decide), act_ne _ _ (by decide), act_ne _ _ (by decide), act_same _ _ _ (by (try simp only [act_size]); rw [hsz]; decide)]) (by rw [if_neg (by decide)]; rfl)⟩) rfl ?_
  refine pure_ (i := 18) (N := some 20) (v := (.bool false)) #[true, true, true, true, true, true, true, true, true, true, true, true, true, true, true, true, true, true, true] h18 g18.2 hc.f18 (fun c a w => by rw [g18.2]; exact hQ _ _ c a w) (Or.inl ⟨(by simp [Region.wanted, g18.1]), run_assign p18 (by rw [act_same _ _ _ (by (try simp only [act_size]); rw [hsz]; decide)])⟩) rfl ?_
  refine (done_ hc.f19 ?_)
  exact hpost _ (below_drew (Below.refl _ _))
structure heads6tChk (ops : Array Oper) : Prop where
  f0 : anyB .any ops #[false, false, false, false, false, false, false, false, false, false, false, false, false, false, false, false, false, false, false] #[true, false, false, false, false, false, false, false, false, false, false, false, false, false, false, false, false, false, false] 0 = true
  f1 : takeB .any ops [] #[true, false, false, false, false, false, false, false, false, false, false, false, false, false, false, false, false, false, false] #[true, true, false, false, false, false, false, false, false, false, false, false, false, false, false, false, false, false, false] 1 = true
  f2 : anyB .any ops #[true, true, false, false, false, false, false, false, false, false, false, false, false, false, false, false, false, false, false] #[true, true, true, false, false, false, false, false, false, false, false, false, false, false, false, false, false, false, false] 2 = true
  f3 : anyB .any ops #[true, true, true, false, false, false, false, false, false, false, false, false, false, false, false, false, false, false, false] #[true, true, true, true, false, false, false, false, false, false, false, false, false, false, false, false, false, false, false] 3 = true
  f4 : anyB .any ops #[true, true, true, true, false, false, false, false, false, false, false, false, false, false, false, false, false, false, false] #[true, true, true, true, true, false, false, false, false, false, false, false, false, false, false, false, false, false, false] 4 = true
  f5 : anyB .any ops #[true, true, true, true, true, false, false, false, false, false, false, false, false, false, false, false, false, false, false] #[true, true, true, true, true, true, false, false, false, false, false, false, false, false, false, false, false, false, false] 5 = true
  f6 : anyB .any ops #[true, true, true, true, true, true, false, false, false, false, false, false, false, false, false, false, false, false, false] #[true, true, true, true, true, true, true, false, false, false, false, false, false, false, false, false, false, false, false] 6 = true
  f7 : takeB .any ops [] #[true, true, true, true, true, true, true, false, false, false, false, false, false, false, false, false, false, false, false] #[true, true, true, true, true, true, true, true, false, false, false, false, false, false, false, false, false, false, false] 7 = true
  f8 : anyB .any ops #[true, true, true, true, true, true, true, true, false, false, false, false, false, false, false, false, false, false, false] #[true, true, true, true, true, true, true, true, true, false, false, false, false, false, false, false, false, false, false] 8 = true
  f9 : takeB .any ops [] #[true, true, true, true, true, true, true, true, true, false, false, false, false, false, false, false, false, false, false] #[true, true, true, true, true, true, true, true, true, true, false, false, false, false, false, false, false, false, false] 9 = true
  f10 : takeB .any ops [] #[true, true, true, true, true, true, true, true, true, true, false, false, false, false, false, false, false, false, false] #[true, true, true, true, true, true, true, true, true, true, true, false, false, false, false, false, false, false, false] 10 = true
  f11 : anyB .any ops #[true, true, true, true, true, true, true, true, true, true, true, false, false, false, false, false, false, false, false] #[true, true, true, true, true, true, true, true, true, true, true, true, false, false, false, false, false, false, false] 11 = true
  f12 : anyB .any ops #[true, true, true, true, true, true, true, true, true, true, true, true, false, false, false, false, false, false, false] #[true, true, true, true, true, true, true, true, true, true, true, true, true, false, false, false, false, false, false] 12 = true
  f13 : anyB .any ops #[true, true, true, true, true, true, true, true, true, true, true, true, true, false, false, false, false, false, false] #[true, true, true, true, true, true, true, true, true, true, true, true, true, true, false, false, false, false, false] 13 = true
  f14 : anyB .any ops #[true, true, true, true, true, true, true, true, true, true, true, true, true, true, false, false, false, false, false] #[true, true, true, true, true, true, true, true, true, true, true, true, true, true, true, false, false, false, false] 14 = true
  f15 : anyB .any ops #[true, true, true, true, true, true, true, true, true, true, true, true, true, true, true, false, false, false, false] #[true, true, true, true, true, true, true, true, true, true, true, true, true, true, true, true, false, false, false] 15 = true
  f16 : anyB .any ops #[true, true, true, true, true, true, true, true, true, true, true, true, true, true, true, true, false, false, false] #[true, true, true, true, true, true, true, true, true, true, true, true, true, true, true, true, true, false, false] 16 = true
  f17 : anyB .any ops #[true, true, true, true, true, true, true, true, true, true, true, true, true, true, true, true, true, false, false] #[true, true, true, true, true, true, true, true, true, true, true, true, true, true, true, true, true, true, false] 17 = true
  f18 : anyB .any ops #[true, true, true, true, true, true, true, true, true, true, true, true, true, true, true, true, true, true, false] #[true, true, true, true, true, true, true, true, true, true, true, true, true, true, true, true, true, true, true] 18 = true
  f19 : (Region.ready .any ops #[true, true, true, true, true, true, true, true, true, true, true, true, true, true, true, true, true, true, true] == []) = true
set_option maxHeartbeats 1000000 in
theorem heads6t {ops : Array Oper} {id : Nat} {Q : Exit → Act → World → Prop} {a : Act} {W : World} {g bm b1 sm : Nat} {T : S29} {v : Value} {f : Ft} {ks ss : List ByteArray} {on : ByteArray} (hb1 : W.heap[b1]? = some (.cells (nc T v).toArray 29 (0, 0))) (hg : W.heap[g]? = some (.cells (ckc bm on f).toArray 88 (0, 0))) (hm : Mp W bm ks) (hsm : Mp W sm ss) (hs : T.f1.size ≤ maxLen)
    (hk : (T.f0 == 2) = true) (hz : decide (0 < (cntL ks T.f1 : Int)) = true)
    {o0 o1 o2 o3 o4 o5 o6 o7 o8 o9 o10 o11 o12 o13 o14 o15 o16 o17 o18 : Oper} (hsize : ops.size = 19) (h0 : ops[0]? = some o0) (h1 : ops[1]? = some o1) (h2 : ops[2]? = some o2) (h3 : ops[3]? = some o3) (h4 : ops[4]? = some o4) (h5 : ops[5]? = some o5) (h6 : ops[6]? = some o6) (h7 : ops[7]? = some o7) (h8 : ops[8]? = some o8) (h9 : ops[9]? = some o9) (h10 : ops[10]? = some o10) (h11 : ops[11]? = some o11) (h12 : ops[12]? = some o12) (h13 : ops[13]? = some o13) (h14 : ops[14]? = some o14) (h15 : ops[15]? = some o15) (h16 : ops[16]? = some o16) (h17 : ops[17]? = some o17) (h18 : ops[18]? = some o18)
    (g0 : o0.guard = none ∧ o0.dst = some 21) (g1 : o1.guard = none ∧ o1.dst = some 22) (g2 : o2.guard = none ∧ o2.dst = some 23) (g3 : o3.guard = none ∧ o3.dst = some 24) (g4 : o4.guard = some (3, true) ∧ o4.dst = some 25) (g5 : o5.guard = some (3, true) ∧ o5.dst = some 26) (g6 : o6.guard = some (3, true) ∧ o6.dst = some 27) (g7 : o7.guard = some (3, true) ∧ o7.dst = some 28) (g8 : o8.guard = some (3, true) ∧ o8.dst = some 29) (g9 : o9.guard = some (3, true) ∧ o9.dst = some 30) (g10 : o10.guard = some (3, true) ∧ o10.dst = some 31) (g11 : o11.guard = some (3, true) ∧ o11.dst = some 32) (g12 : o12.guard = some (3, true) ∧ o12.dst = some 33) (g13 : o13.guard = some (12, false) ∧ o13.dst = some 34) (g14 : o14.guard = some (12, false) ∧ o14.dst = some 35) (g15 : o15.guard = some (12, false) ∧ o15.dst = some 36) (g16 : o16.guard = some (3, true) ∧ o16.dst = some 37) (g17 : o17.guard = none ∧ o17.dst = some 38) (g18 : o18.guard = none ∧ o18.dst = some 20)
    (p0 : o0.op = .fieldAddr 29 (.tmp 6) 0) (p1 : o1.op = .load 3 (.tmp 21)) (p2 : o2.op = .binOp .eql 3 (.tmp 22) (.const (.int .i64 2)) 3) (p3 : o3.op = .move (.tmp 23)) (p4 : o4.op = .move (.tmp 0)) (p5 : o5.op = .nilCheck (.tmp 25)) (p6 : o6.op = .fieldAddr 88 (.tmp 26) 0) (p7 : o7.op = .load 86 (.tmp 27)) (p8 : o8.op = .fieldAddr 29 (.tmp 6) 1) (p9 : o9.op = .load 9 (.tmp 29)) (p10 : o10.op = .lookup 86 (.tmp 28) (.tmp 30) false) (p11 : o11.op = .binOp .gtr 3 (.tmp 31) (.const (.int .i64 0)) 3) (p12 : o12.op = .move (.tmp 32)) (p13 : o13.op = .fieldAddr 29 (.tmp 6) 1) (p14 : o14.op = .load 9 (.tmp 34)) (p15 : o15.op = .call { callee := .value (.func 62), args := #[.tmp 35], argTypes := #[9] }) (p16 : o16.op = .pick (.tmp 33) (.const (.bool true)) (.tmp 36)) (p17 : o17.op = .pick (.tmp 24) (.tmp 37) (.const (.bool false))) (p18 : o18.op = .assign (.tmp 38))
    
    (hsz : a.tmps.size = 80) (v0 : a.eval (.tmp 0) = .pointer (some ⟨g, 0, none⟩)) (v6 : a.eval (.tmp 6) = .pointer (some ⟨b1, 0, none⟩)) (hc : heads6tChk ops)
    (hQ : ∀ (d : Tmp) v c a w, Q (.panic c) (Act.put a (some d) v) w → Q (.panic c) a w)
    (hpost : ∀ W', Below W.heap.size W W' → Q .normal (((((((((((((((((((a.put (some 21) (.pointer (some ⟨b1, 0, none⟩))).put (some 22) (.int .i64 T.f0)).put (some 23) (.bool true)).put (some 24) (.bool true)).put (some 25) (.pointer (some ⟨g, 0, none⟩))).put (some 26) (.pointer (some ⟨g, 0, none⟩))).put (some 27) (.pointer (some ⟨g, 0, none⟩))).put (some 28) (.map (some bm))).put (some 29) (.pointer (some ⟨b1, 1, none⟩))).put (some 30) (.string T.f1)).put (some 31) (.int .i64 (cntL ks T.f1))).put (some 32) (.bool true)).put (some 33) (.bool true)).put (some 34) undef).put (some 35) undef).put (some 36) undef).put (some 37) (.bool true)).put (some 38) (.bool true)).put (some 20) (.bool true)) W') :
    (Code.region id ops true).wp Try.prog Q a W := by
  refine start_ (n := 19) (S := fun w' => w'.heap[b1]? = some (.cells (nc T v).toArray 29 (0, 0)) ∧ w'.heap[g]? = some (.cells (ckc bm on f).toArray 88 (0, 0)) ∧ Mp w' bm ks ∧ Mp w' sm ss) (ds := []) #[false, false, false, false, false, false, false, false, false, false, false, false, false, false, false, false, false, false, false] (by kernel_rfl) hsize rfl ⟨hb1, hg, hm.blk rfl, hsm.blk rfl⟩ (fun hS2 => ?_)
  refine pure_ (i := 0) (N := some 21) (v := (.pointer (some ⟨b1, 0, none⟩))) #[true, false, false, false, false, false, false, false, false, false, false, false, false, false, false, false, false, false, false] h0 g0.2 hc.f0 (fun c a w => by rw [g0.2]; exact hQ _ _ c a w) (Or.inl ⟨(by simp [Region.wanted, g0.1]), run_fa29_0 p0 (by rw [v6])⟩) rfl ?_
  refine take_ (i := 1) (N := some 22) (v := (.int .i64 T.f0)) #[true, true, false, false, false, false, false, false, false, false, false, false, false, false, false, false, false, false, false] h1 g1.2 hc.f1 (fun c a w => by rw [g1.2]; exact hQ _ _ c a w) (Or.inl ⟨(by simp [Region.wanted, g1.1]), fun w9 hw9 => run_loadT p1 (by rw [act_same _ _ _ (by (try simp only [act_size]); rw [hsz]; decide)]) ((Mine.blk_cells hw9.1 0).trans rfl) Try.underlying3 rfl⟩) hS2 rfl ?_
  refine pure_ (i := 2) (N := some 23) (v := (.bool true)) #[true, true, true, false, false, false, false, false, false, false, false, false, false, false, false, false, false, false, false] h2 g2.2 hc.f2 (fun c a w => by rw [g2.2]; exact hQ _ _ c a w) (Or.inl ⟨(by simp [Region.wanted, g2.1]), (fun w => (run_eq3 p2 (by rw [act_same _ _ _ (by (try simp only [act_size]); rw [hsz]; decide)]) rfl w).trans (by rw [hk]))⟩) rfl ?_
  refine pure_ (i := 3) (N := some 24) (v := (.bool true)) #[true, true, true, true, false, false, false, false, false, false, false, false, false, false, false, false, false, false, false] h3 g3.2 hc.f3 (fun c a w => by rw [g3.2]; exact hQ _ _ c a w) (Or.inl ⟨(by simp [Region.wanted, g3.1]), run_move p3 (by rw [act_same _ _ _ (by (try simp only [act_size]); rw [hsz]; decide)])⟩) rfl ?_
  refine pure_ (i := 4) (N := some 25) (v := (.pointer (some ⟨g, 0, none⟩))) #[true, true, true, true, true, false, false, false, false, false, false, false, false, false, false, false, false, false, false] h4 g4.2 hc.f4 (fun c a w => by rw [g4.2]; exact hQ _ _ c a w) (Or.inl ⟨(wanted_yes g4.1 (yielded_of h3 g3.2 (by rw [act_same _ _ _ (by (try simp only [act_size]); rw [hsz]; decide)]) (by (try simp only [act_size]); rw [hsz]; decide))), run_move p4 (by rw [act_ne _ _ (by decide), act_ne _ _ (by decide), act_ne _ _ (by decide), act_ne _ _ (by decide), v0])⟩) rfl ?_
  refine pure_ (i := 5) (N := some 26) (v := (.pointer (some ⟨g, 0, none⟩))) #[true, true, true, true, true, true, false, false, false, false, false, false, false, false, false, false, false, false, false] h5 g5.2 hc.f5 (fun c a w => by rw [g5.2]; exact hQ _ _ c a w) (Or.inl ⟨(wanted_yes g5.1 (yielded_of h3 g3.2 (by rw [act_ne _ _ (by decide), act_same _ _ _ (by (try simp only [act_size]); rw [hsz]; decide)]) (by (try simp only [act_size]); rw [hsz]; decide))), run_nil p5 (by rw [act_same _ _ _ (by (try simp only [act_size]); rw [hsz]; decide)])⟩) rfl ?_
  refine pure_ (i := 6) (N := some 27) (v := (.pointer (some ⟨g, 0, none⟩))) #[true, true, true, true, true, true, true, false, false, false, false, false, false, false, false, false, false, false, false] h6 g6.2 hc.f6 (fun c a w => by rw [g6.2]; exact hQ _ _ c a w) (Or.inl ⟨(wanted_yes g6.1 (yielded_of h3 g3.2 (by rw [act_ne _ _ (by decide), act_ne _ _ (by decide), act_same _ _ _ (by (try simp only [act_size]); rw [hsz]; decide)]) (by (try simp only [act_size]); rw [hsz]; decide))), run_fa88_0 p6 (by rw [act_same _ _ _ (by (try simp only [act_size]); rw [hsz]; decide)])⟩) rfl ?_
  refine take_ (i := 7) (N := some 28) (v := (.map (some bm))) #[true, true, true, true, true, true, true, true, false, false, false, false, false, false, false, false, false, false, false] h7 g7.2 hc.f7 (fun c a w => by rw [g7.2]; exact hQ _ _ c a w) (Or.inl ⟨(wanted_yes g7.1 (yielded_of h3 g3.2 (by rw [act_ne _ _ (by decide), act_ne _ _ (by decide), act_ne _ _ (by decide), act_same _ _ _ (by (try simp only [act_size]); rw [hsz]; decide)]) (by (try simp only [act_size]); rw [hsz]; decide))), fun w9 hw9 => run_loadT p7 (by rw [act_same _ _ _ (by (try simp only [act_size]); rw [hsz]; decide)]) ((Mine.blk_cells hw9.2.1 0).trans rfl) Try.underlying86 rfl⟩) hS2 rfl ?_
  refine pure_ (i := 8) (N := some 29) (v := (.pointer (some ⟨b1, 1, none⟩))) #[true, true, true, true, true, true, true, true, true, false, false, false, false, false, false, false, false, false, false] h8 g8.2 hc.f8 (fun c a w => by rw [g8.2]; exact hQ _ _ c a w) (Or.inl ⟨(wanted_yes g8.1 (yielded_of h3 g3.2 (by rw [act_ne _ _ (by decide), act_ne _ _ (by decide), act_ne _ _ (by decide), act_ne _ _ (by decide), act_same _ _ _ (by (try simp only [act_size]); rw [hsz]; decide)]) (by (try simp only [act_size]); rw [hsz]; decide))), run_fa29_1 p8 (by rw [act_ne _ _ (by decide), act_ne _ _ (by decide), act_ne _ _ (by decide), act_ne _ _ (by decide), act_ne _ _ (by decide), act_ne _ _ (by decide), act_ne _ _ (by decide), act_ne _ _ (by decide), v6])⟩) rfl ?_
  refine take_ (i := 9) (N := some 30) (v := (.string T.f1)) #[true, true, true, true, true, true, true, true, true, true, false, false, false, false, false, false, false, false, false] h9 g9.2 hc.f9 (fun c a w => by rw [g9.2]; exact hQ _ _ c a w) (Or.inl ⟨(wanted_yes g9.1 (yielded_of h3 g3.2 (by rw [act_ne _ _ (by decide), act_ne _ _ (by decide), act_ne _ _ (by decide), act_ne _ _ (by decide), act_ne _ _ (by decide), act_same _ _ _ (by (try simp only [act_size]); rw [hsz]; decide)]) (by (try simp only [act_size]); rw [hsz]; decide))), fun w9 hw9 => run_loadT p9 (by rw [act_same _ _ _ (by (try simp only [act_size]); rw [hsz]; decide)]) ((Mine.blk_cells hw9.1 1).trans rfl) Try.underlying9 rfl⟩) hS2 rfl ?_
  refine take_ (i := 10) (N := some 31) (v := (.int .i64 (cntL ks T.f1))) #[true, true, true, true, true, true, true, true, true, true, true, false, false, false, false, false, false, false, false] h10 g10.2 hc.f10 (fun c a w => by rw [g10.2]; exact hQ _ _ c a w) (Or.inl ⟨(wanted_yes g10.1 (yielded_of h3 g3.2 (by rw [act_ne _ _ (by decide), act_ne _ _ (by decide), act_ne _ _ (by decide), act_ne _ _ (by decide), act_ne _ _ (by decide), act_ne _ _ (by decide), act_same _ _ _ (by (try simp only [act_size]); rw [hsz]; decide)]) (by (try simp only [act_size]); rw [hsz]; decide))), fun w9 hw9 => run_look hw9.2.2.1 hs p10 (by rw [act_ne _ _ (by decide), act_ne _ _ (by decide), act_same _ _ _ (by (try simp only [act_size]); rw [hsz]; decide)]) (by rw [act_same _ _ _ (by (try simp only [act_size]); rw [hsz]; decide)])⟩) hS2 rfl ?_
  refine pure_ (i := 11) (N := some 32) (v := (.bool true)) #[true, true, true, true, true, true, true, true, true, true, true, true, false, false, false, false, false, false, false] h11 g11.2 hc.f11 (fun c a w => by rw [g11.2]; exact hQ _ _ c a w) (Or.inl ⟨(wanted_yes g11.1 (yielded_of h3 g3.2 (by rw [act_ne _ _ (by decide), act_ne _ _ (by decide), act_ne _ _ (by decide), act_ne _ _ (by decide), act_ne _ _ (by decide), act_ne _ _ (by decide), act_ne _ _ (by decide), act_same _ _ _ (by (try simp only [act_size]); rw [hsz]; decide)]) (by (try simp only [act_size]); rw [hsz]; decide))), (fun w => (run_gt3 p11 (by rw [act_same _ _ _ (by (try simp only [act_size]); rw [hsz]; decide)]) rfl w).trans (by rw [hz]))⟩) rfl ?_
  refine pure_ (i := 12) (N := some 33) (v := (.bool true)) #[true, true, true, true, true, true, true, true, true, true, true, true, true, false, false, false, false, false, false] h12 g12.2 hc.f12 (fun c a w => by rw [g12.2]; exact hQ _ _ c a w) (Or.inl ⟨(wanted_yes g12.1 (yielded_of h3 g3.2 (by rw [act_ne _ _ (by decide), act_ne _ _ (by decide), act_ne _ _ (by decide), act_ne _ _ (by decide), act_ne _ _ (by decide), act_ne _ _ (by decide), act_ne _ _ (by decide), act_ne _ _ (by decide), act_same _ _ _ (by (try simp only [act_size]); rw [hsz]; decide)]) (by (try simp only [act_size]); rw [hsz]; decide))), run_move p12 (by rw [act_same _ _ _ (by (try simp only [act_size]); rw [hsz]; decide)])⟩) rfl ?_
  refine pure_ (i := 13) (N := some 34) (v := undef) #[true, true, true, true, true, true, true, true, true, true, true, true, true, true, false, false, false, false, false] h13 g13.2 hc.f13 (fun c a w => by rw [g13.2]; exact hQ _ _ c a w) (Or.inr ⟨wanted_no g13.1 (yielded_of h12 g12.2 (by rw [act_same _ _ _ (by (try simp only [act_size]); rw [hsz]; decide)]) (by (try simp only [act_size]); rw [hsz]; decide)) (by decide), rfl⟩) rfl ?_
  refine pure_ (i := 14) (N := some 35) (v := undef) #[true, true, true, true, true, true, true, true, true, true, true, true, true, true, true, false, false, false, false] h14 g14.2 hc.f14 (fun c a w => by rw [g14.2]; exact hQ _ _ c a w) (Or.inr ⟨wanted_no g14.1 (yielded_of h12 g12.2 (by rw [act_ne _ _ (by decide), act_same _ _ _ (by (try simp only [act_size]); rw [hsz]; decide)]) (by (try simp only [act_size]); rw [hsz]; decide)) (by decide), rfl⟩) rfl ?_
  refine pure_ (i := 15) (N := some 36) (v := undef) #[true, true, true, true, true, true, true, true, true, true, true, true, true, true, true, true, false, false, false] h15 g15.2 hc.f15 (fun c a w => by rw [g15.2]; exact hQ _ _ c a w) (Or.inr ⟨wanted_no g15.1 (yielded_of h12 g12.2 (by rw [act_ne _ _ (by decide), act_ne _ _ (by decide), act_same _ _ _ (by (try simp only [act_size]); rw [hsz]; decide)]) (by (try simp only [act_size]); rw [hsz]; decide)) (by decide), rfl⟩) rfl ?_
  refine pure_ (i := 16) (N := some 37) (v := (.bool true)) #[true, true, true, true, true, true, true, true, true, true, true, true, true, true, true, true, true, false, false] h16 g16.2 hc.f16 (fun c a w => by rw [g16.2]; exact hQ _ _ c a w) (Or.inl ⟨(wanted_yes g16.1 (yielded_of h3 g3.2 (by rw [act_ne _ _ (by decide), act_ne _ _ (by decide), act_ne _ _ (by decide), act_ne _ _ (by decide), act_ne _ _ (by decide), act_ne _ _ (by decide), act_ne _ _ (by decide), act_ne _ _ (by decide), act_ne _ _ (by decide), act_ne _ _ (by decide), act_ne _ _ (by decide), act_ne _ _ (by decide), act_same _ _ _ (by (try simp only [act_size]); rw [hsz]; decide)]) (by (try simp only [act_size]); rw [hsz]; decide))), run_pick p16 (b := true) (by rw [act_ne _ _ (by decide), act_ne _ _ (by decide), act_ne _ _ (by decide), act_same _ _ _ (by (try simp only [act_size]); rw [hsz]; decide)]) (by rw [if_pos rfl]; rfl)⟩) rfl ?_
  refine pure_ (i := 17) (N := some 38) (v := (.bool true)) #[true, true, true, true, true, true, true, true, true, true, true, true, true, true, true, true, true, true, false] h17 g17.2 hc.f17 (fun c a w => by rw [g17.2]; exact hQ _ _ c a w) (Or.inl ⟨(by simp [Region.wanted, g17.1]), run_pick p17 (b := true) (by rw [act_ne _ _ (by decide), act_ne _ _ (by decide), act_ne _ _ (by decide), act_ne _ _ (by decide), act_ne _ _ (by decide), act_ne _ _ (by decide), act_ne _ _ (by decide), act_ne _ _ (by decide), act_ne _ _ (by decide), act_ne _ _ (by decide), act_ne _ _ (by decide), act_ne _ _ (by decide), act_ne _ _ (by decide), act_same _ _ _ (by (try simp only [act_size]); rw [hsz]; decide)]) (by rw [if_pos rfl]; exact (by rw [act_same _ _ _ (by (try simp only [act_size]); rw [hsz]; decide)]))⟩) rfl ?_
  refine pure_ (i := 18) (N := some 20) (v := (.bool true)) #[true, true, true, true, true, true, true, true, true, true, true, true, true, true, true, true, true, true, true] h18 g18.2 hc.f18 (fun c a w => by rw [g18.2]; exact hQ _ _ c a w) (Or.inl ⟨(by simp [Region.wanted, g18.1]), run_assign p18 (by rw [act_same _ _ _ (by (try simp only [act_size]); rw [hsz]; decide)])⟩) rfl ?_
  refine (done_ hc.f19 ?_)
  exact hpost _ (below_drew (Below.refl _ _))
structure heads6fChk (ops : Array Oper) : Prop where
  f0 : anyB .any ops #[false, false, false, false, false, false, false, false, false, false, false, false, false, false, false, false, false, false, false] #[true, false, false, false, false, false, false, false, false, false, false, false, false, false, false, false, false, false, false] 0 = true
  f1 : takeB .any ops [] #[true, false, false, false, false, false, false, false, false, false, false, false, false, false, false, false, false, false, false] #[true, true, false, false, false, false, false, false, false, false, false, false, false, false, false, false, false, false, false] 1 = true
  f2 : anyB .any ops #[true, true, false, false, false, false, false, false, false, false, false, false, false, false, false, false, false, false, false] #[true, true, true, false, false, false, false, false, false, false, false, false, false, false, false, false, false, false, false] 2 = true
  f3 : anyB .any ops #[true, true, true, false, false, false, false, false, false, false, false, false, false, false, false, false, false, false, false] #[true, true, true, true, false, false, false, false, false, false, false, false, false, false, false, false, false, false, false] 3 = true
  f4 : anyB .any ops #[true, true, true, true, false, false, false, false, false, false, false, false, false, false, false, false, false, false, false] #[true, true, true, true, true, false, false, false, false, false, false, false, false, false, false, false, false, false, false] 4 = true
  f5 : anyB .any ops #[true, true, true, true, true, false, false, false, false, false, false, false, false, false, false, false, false, false, false] #[true, true, true, true, true, true, false, false, false, false, false, false, false, false, false, false, false, false, false] 5 = true
  f6 : anyB .any ops #[true, true, true, true, true, true, false, false, false, false, false, false, false, false, false, false, false, false, false] #[true, true, true, true, true, true, true, false, false, false, false, false, false, false, false, false, false, false, false] 6 = true
  f7 : takeB .any ops [] #[true, true, true, true, true, true, true, false, false, false, false, false, false, false, false, false, false, false, false] #[true, true, true, true, true, true, true, true, false, false, false, false, false, false, false, false, false, false, false] 7 = true
  f8 : anyB .any ops #[true, true, true, true, true, true, true, true, false, false, false, false, false, false, false, false, false, false, false] #[true, true, true, true, true, true, true, true, true, false, false, false, false, false, false, false, false, false, false] 8 = true
  f9 : takeB .any ops [] #[true, true, true, true, true, true, true, true, true, false, false, false, false, false, false, false, false, false, false] #[true, true, true, true, true, true, true, true, true, true, false, false, false, false, false, false, false, false, false] 9 = true
  f10 : takeB .any ops [] #[true, true, true, true, true, true, true, true, true, true, false, false, false, false, false, false, false, false, false] #[true, true, true, true, true, true, true, true, true, true, true, false, false, false, false, false, false, false, false] 10 = true
  f11 : anyB .any ops #[true, true, true, true, true, true, true, true, true, true, true, false, false, false, false, false, false, false, false] #[true, true, true, true, true, true, true, true, true, true, true, true, false, false, false, false, false, false, false] 11 = true
  f12 : anyB .any ops #[true, true, true, true, true, true, true, true, true, true, true, true, false, false, false, false, false, false, false] #[true, true, true, true, true, true, true, true, true, true, true, true, true, false, false, false, false, false, false] 12 = true
  f13 : anyB .any ops #[true, true, true, true, true, true, true, true, true, true, true, true, true, false, false, false, false, false, false] #[true, true, true, true, true, true, true, true, true, true, true, true, true, true, false, false, false, false, false] 13 = true
  f14 : takeB .any ops [] #[true, true, true, true, true, true, true, true, true, true, true, true, true, true, false, false, false, false, false] #[true, true, true, true, true, true, true, true, true, true, true, true, true, true, true, false, false, false, false] 14 = true
  f15 : readyB .any ops #[true, true, true, true, true, true, true, true, true, true, true, true, true, true, true, false, false, false, false] #[true, true, true, true, true, true, true, true, true, true, true, true, true, true, true, true, false, false, false] 15 = true
  f16 : anyB .any ops #[true, true, true, true, true, true, true, true, true, true, true, true, true, true, true, true, false, false, false] #[true, true, true, true, true, true, true, true, true, true, true, true, true, true, true, true, true, false, false] 16 = true
  f17 : anyB .any ops #[true, true, true, true, true, true, true, true, true, true, true, true, true, true, true, true, true, false, false] #[true, true, true, true, true, true, true, true, true, true, true, true, true, true, true, true, true, true, false] 17 = true
  f18 : anyB .any ops #[true, true, true, true, true, true, true, true, true, true, true, true, true, true, true, true, true, true, false] #[true, true, true, true, true, true, true, true, true, true, true, true, true, true, true, true, true, true, true] 18 = true
  f19 : (Region.ready .any ops #[true, true, true, true, true, true, true, true, true, true, true, true, true, true, true, true, true, true, true] == []) = true
set_option maxHeartbeats 1000000 in
theorem heads6f {ops : Array Oper} {id : Nat} {Q : Exit → Act → World → Prop} {a : Act} {W : World} {g bm b1 sm : Nat} {T : S29} {v : Value} {f : Ft} {ks ss : List ByteArray} {on : ByteArray} (hb1 : W.heap[b1]? = some (.cells (nc T v).toArray 29 (0, 0))) (hg : W.heap[g]? = some (.cells (ckc bm on f).toArray 88 (0, 0))) (hm : Mp W bm ks) (hsm : Mp W sm ss) (hs : T.f1.size ≤ maxLen)
    (hk : (T.f0 == 2) = true) (hz : decide (0 < (cntL ks T.f1 : Int)) = false)
    {o0 o1 o2 o3 o4 o5 o6 o7 o8 o9 o10 o11 o12 o13 o14 o15 o16 o17 o18 : Oper} (hsize : ops.size = 19) (h0 : ops[0]? = some o0) (h1 : ops[1]? = some o1) (h2 : ops[2]? = some o2) (h3 : ops[3]? = some o3) (h4 : ops[4]? = some o4) (h5 : ops[5]? = some o5) (h6 : ops[6]? = some o6) (h7 : ops[7]? = some o7) (h8 : ops[8]? = some o8) (h9 : ops[9]? = some o9) (h10 : ops[10]? = some o10) (h11 : ops[11]? = some o11) (h12 : ops[12]? = some o12) (h13 : ops[13]? = some o13) (h14 : ops[14]? = some o14) (h15 : ops[15]? = some o15) (h16 : ops[16]? = some o16) (h17 : ops[17]? = some o17) (h18 : ops[18]? = some o18)
    (g0 : o0.guard = none ∧ o0.dst = some 21) (g1 : o1.guard = none ∧ o1.dst = some 22) (g2 : o2.guard = none ∧ o2.dst = some 23) (g3 : o3.guard = none ∧ o3.dst = some 24) (g4 : o4.guard = some (3, true) ∧ o4.dst = some 25) (g5 : o5.guard = some (3, true) ∧ o5.dst = some 26) (g6 : o6.guard = some (3, true) ∧ o6.dst = some 27) (g7 : o7.guard = some (3, true) ∧ o7.dst = some 28) (g8 : o8.guard = some (3, true) ∧ o8.dst = some 29) (g9 : o9.guard = some (3, true) ∧ o9.dst = some 30) (g10 : o10.guard = some (3, true) ∧ o10.dst = some 31) (g11 : o11.guard = some (3, true) ∧ o11.dst = some 32) (g12 : o12.guard = some (3, true) ∧ o12.dst = some 33) (g13 : o13.guard = some (12, false) ∧ o13.dst = some 34) (g14 : o14.guard = some (12, false) ∧ o14.dst = some 35) (g15 : o15.guard = some (12, false) ∧ o15.dst = some 36) (g16 : o16.guard = some (3, true) ∧ o16.dst = some 37) (g17 : o17.guard = none ∧ o17.dst = some 38) (g18 : o18.guard = none ∧ o18.dst = some 20)
    (p0 : o0.op = .fieldAddr 29 (.tmp 6) 0) (p1 : o1.op = .load 3 (.tmp 21)) (p2 : o2.op = .binOp .eql 3 (.tmp 22) (.const (.int .i64 2)) 3) (p3 : o3.op = .move (.tmp 23)) (p4 : o4.op = .move (.tmp 0)) (p5 : o5.op = .nilCheck (.tmp 25)) (p6 : o6.op = .fieldAddr 88 (.tmp 26) 0) (p7 : o7.op = .load 86 (.tmp 27)) (p8 : o8.op = .fieldAddr 29 (.tmp 6) 1) (p9 : o9.op = .load 9 (.tmp 29)) (p10 : o10.op = .lookup 86 (.tmp 28) (.tmp 30) false) (p11 : o11.op = .binOp .gtr 3 (.tmp 31) (.const (.int .i64 0)) 3) (p12 : o12.op = .move (.tmp 32)) (p13 : o13.op = .fieldAddr 29 (.tmp 6) 1) (p14 : o14.op = .load 9 (.tmp 34)) (p15 : o15.op = .call { callee := .value (.func 62), args := #[.tmp 35], argTypes := #[9] }) (p16 : o16.op = .pick (.tmp 33) (.const (.bool true)) (.tmp 36)) (p17 : o17.op = .pick (.tmp 24) (.tmp 37) (.const (.bool false))) (p18 : o18.op = .assign (.tmp 38))
    
    (hsz : a.tmps.size = 80) (v0 : a.eval (.tmp 0) = .pointer (some ⟨g, 0, none⟩)) (v6 : a.eval (.tmp 6) = .pointer (some ⟨b1, 0, none⟩)) (hc : heads6fChk ops)
    (hQ : ∀ (d : Tmp) v c a w, Q (.panic c) (Act.put a (some d) v) w → Q (.panic c) a w)
    (hpost : ∀ W', Below W.heap.size W W' → Q .normal (((((((((((((((((((a.put (some 21) (.pointer (some ⟨b1, 0, none⟩))).put (some 22) (.int .i64 T.f0)).put (some 23) (.bool true)).put (some 24) (.bool true)).put (some 25) (.pointer (some ⟨g, 0, none⟩))).put (some 26) (.pointer (some ⟨g, 0, none⟩))).put (some 27) (.pointer (some ⟨g, 0, none⟩))).put (some 28) (.map (some bm))).put (some 29) (.pointer (some ⟨b1, 1, none⟩))).put (some 30) (.string T.f1)).put (some 31) (.int .i64 (cntL ks T.f1))).put (some 32) (.bool false)).put (some 33) (.bool false)).put (some 34) (.pointer (some ⟨b1, 1, none⟩))).put (some 35) (.string T.f1)).put (some 36) (.bool (anyF T.f1))).put (some 37) (.bool (anyF T.f1))).put (some 38) (.bool (anyF T.f1))).put (some 20) (.bool (anyF T.f1))) W') :
    (Code.region id ops true).wp Try.prog Q a W := by
  refine start_ (n := 19) (S := fun w' => w'.heap[b1]? = some (.cells (nc T v).toArray 29 (0, 0)) ∧ w'.heap[g]? = some (.cells (ckc bm on f).toArray 88 (0, 0)) ∧ Mp w' bm ks ∧ Mp w' sm ss) (ds := []) #[false, false, false, false, false, false, false, false, false, false, false, false, false, false, false, false, false, false, false] (by kernel_rfl) hsize rfl ⟨hb1, hg, hm.blk rfl, hsm.blk rfl⟩ (fun hS2 => ?_)
  refine pure_ (i := 0) (N := some 21) (v := (.pointer (some ⟨b1, 0, none⟩))) #[true, false, false, false, false, false, false, false, false, false, false, false, false, false, false, false, false, false, false] h0 g0.2 hc.f0 (fun c a w => by rw [g0.2]; exact hQ _ _ c a w) (Or.inl ⟨(by simp [Region.wanted, g0.1]), run_fa29_0 p0 (by rw [v6])⟩) rfl ?_
  refine take_ (i := 1) (N := some 22) (v := (.int .i64 T.f0)) #[true, true, false, false, false, false, false, false, false, false, false, false, false, false, false, false, false, false, false] h1 g1.2 hc.f1 (fun c a w => by rw [g1.2]; exact hQ _ _ c a w) (Or.inl ⟨(by simp [Region.wanted, g1.1]), fun w9 hw9 => run_loadT p1 (by rw [act_same _ _ _ (by (try simp only [act_size]); rw [hsz]; decide)]) ((Mine.blk_cells hw9.1 0).trans rfl) Try.underlying3 rfl⟩) hS2 rfl ?_
  refine pure_ (i := 2) (N := some 23) (v := (.bool true)) #[true, true, true, false, false, false, false, false, false, false, false, false, false, false, false, false, false, false, false] h2 g2.2 hc.f2 (fun c a w => by rw [g2.2]; exact hQ _ _ c a w) (Or.inl ⟨(by simp [Region.wanted, g2.1]), (fun w => (run_eq3 p2 (by rw [act_same _ _ _ (by (try simp only [act_size]); rw [hsz]; decide)]) rfl w).trans (by rw [hk]))⟩) rfl ?_
  refine pure_ (i := 3) (N := some 24) (v := (.bool true)) #[true, true, true, true, false, false, false, false, false, false, false, false, false, false, false, false, false, false, false] h3 g3.2 hc.f3 (fun c a w => by rw [g3.2]; exact hQ _ _ c a w) (Or.inl ⟨(by simp [Region.wanted, g3.1]), run_move p3 (by rw [act_same _ _ _ (by (try simp only [act_size]); rw [hsz]; decide)])⟩) rfl ?_
  refine pure_ (i := 4) (N := some 25) (v := (.pointer (some ⟨g, 0, none⟩))) #[true, true, true, true, true, false, false, false, false, false, false, false, false, false, false, false, false, false, false] h4 g4.2 hc.f4 (fun c a w => by rw [g4.2]; exact hQ _ _ c a w) (Or.inl ⟨(wanted_yes g4.1 (yielded_of h3 g3.2 (by rw [act_same _ _ _ (by (try simp only [act_size]); rw [hsz]; decide)]) (by (try simp only [act_size]); rw [hsz]; decide))), run_move p4 (by rw [act_ne _ _ (by decide), act_ne _ _ (by decide), act_ne _ _ (by decide), act_ne _ _ (by decide), v0])⟩) rfl ?_
  refine pure_ (i := 5) (N := some 26) (v := (.pointer (some ⟨g, 0, none⟩))) #[true, true, true, true, true, true, false, false, false, false, false, false, false, false, false, false, false, false, false] h5 g5.2 hc.f5 (fun c a w => by rw [g5.2]; exact hQ _ _ c a w) (Or.inl ⟨(wanted_yes g5.1 (yielded_of h3 g3.2 (by rw [act_ne _ _ (by decide), act_same _ _ _ (by (try simp only [act_size]); rw [hsz]; decide)]) (by (try simp only [act_size]); rw [hsz]; decide))), run_nil p5 (by rw [act_same _ _ _ (by (try simp only [act_size]); rw [hsz]; decide)])⟩) rfl ?_
  refine pure_ (i := 6) (N := some 27) (v := (.pointer (some ⟨g, 0, none⟩))) #[true, true, true, true, true, true, true, false, false, false, false, false, false, false, false, false, false, false, false] h6 g6.2 hc.f6 (fun c a w => by rw [g6.2]; exact hQ _ _ c a w) (Or.inl ⟨(wanted_yes g6.1 (yielded_of h3 g3.2 (by rw [act_ne _ _ (by decide), act_ne _ _ (by decide), act_same _ _ _ (by (try simp only [act_size]); rw [hsz]; decide)]) (by (try simp only [act_size]); rw [hsz]; decide))), run_fa88_0 p6 (by rw [act_same _ _ _ (by (try simp only [act_size]); rw [hsz]; decide)])⟩) rfl ?_
  refine take_ (i := 7) (N := some 28) (v := (.map (some bm))) #[true, true, true, true, true, true, true, true, false, false, false, false, false, false, false, false, false, false, false] h7 g7.2 hc.f7 (fun c a w => by rw [g7.2]; exact hQ _ _ c a w) (Or.inl ⟨(wanted_yes g7.1 (yielded_of h3 g3.2 (by rw [act_ne _ _ (by decide), act_ne _ _ (by decide), act_ne _ _ (by decide), act_same _ _ _ (by (try simp only [act_size]); rw [hsz]; decide)]) (by (try simp only [act_size]); rw [hsz]; decide))), fun w9 hw9 => run_loadT p7 (by rw [act_same _ _ _ (by (try simp only [act_size]); rw [hsz]; decide)]) ((Mine.blk_cells hw9.2.1 0).trans rfl) Try.underlying86 rfl⟩) hS2 rfl ?_
  refine pure_ (i := 8) (N := some 29) (v := (.pointer (some ⟨b1, 1, none⟩))) #[true, true, true, true, true, true, true, true, true, false, false, false, false, false, false, false, false, false, false] h8 g8.2 hc.f8 (fun c a w => by rw [g8.2]; exact hQ _ _ c a w) (Or.inl ⟨(wanted_yes g8.1 (yielded_of h3 g3.2 (by rw [act_ne _ _ (by decide), act_ne _ _ (by decide), act_ne _ _ (by decide), act_ne _ _ (by decide), act_same _ _ _ (by (try simp only [act_size]); rw [hsz]; decide)]) (by (try simp only [act_size]); rw [hsz]; decide))), run_fa29_1 p8 (by rw [act_ne _ _ (by decide), act_ne _ _ (by decide), act_ne _ _ (by decide), act_ne _ _ (by decide), act_ne _ _ (by decide), act_ne _ _ (by decide), act_ne _ _ (by decide), act_ne _ _ (by decide), v6])⟩) rfl ?_
  refine take_ (i := 9) (N := some 30) (v := (.string T.f1)) #[true, true, true, true, true, true, true, true, true, true, false, false, false, false, false, false, false, false, false] h9 g9.2 hc.f9 (fun c a w => by rw [g9.2]; exact hQ _ _ c a w) (Or.inl ⟨(wanted_yes g9.1 (yielded_of h3 g3.2 (by rw [act_ne _ _ (by decide), act_ne _ _ (by decide), act_ne _ _ (by decide), act_ne _ _ (by decide), act_ne _ _ (by decide), act_same _ _ _ (by (try simp only [act_size]); rw [hsz]; decide)]) (by (try simp only [act_size]); rw [hsz]; decide))), fun w9 hw9 => run_loadT p9 (by rw [act_same _ _ _ (by (try simp only [act_size]); rw [hsz]; decide)]) ((Mine.blk_cells hw9.1 1).trans rfl) Try.underlying9 rfl⟩) hS2 rfl ?_
  refine take_ (i := 10) (N := some 31) (v := (.int .i64 (cntL ks T.f1))) #[true, true, true, true, true, true, true, true, true, true, true, false, false, false, false, false, false, false, false] h10 g10.2 hc.f10 (fun c a w => by rw [g10.2]; exact hQ _ _ c a w) (Or.inl ⟨(wanted_yes g10.1 (yielded_of h3 g3.2 (by rw [act_ne _ _ (by decide), act_ne _ _ (by decide), act_ne _ _ (by decide), act_ne _ _ (by decide), act_ne _ _ (by decide), act_ne _ _ (by decide), act_same _ _ _ (by (try simp only [act_size]); rw [hsz]; decide)]) (by (try simp only [act_size]); rw [hsz]; decide))), fun w9 hw9 => run_look hw9.2.2.1 hs p10 (by rw [act_ne _ _ (by decide), act_ne _ _ (by decide), act_same _ _ _ (by (try simp only [act_size]); rw [hsz]; decide)]) (by rw [act_same _ _ _ (by (try simp only [act_size]); rw [hsz]; decide)])⟩) hS2 rfl ?_
  refine pure_ (i := 11) (N := some 32) (v := (.bool false)) #[true, true, true, true, true, true, true, true, true, true, true, true, false, false, false, false, false, false, false] h11 g11.2 hc.f11 (fun c a w => by rw [g11.2]; exact hQ _ _ c a w) (Or.inl ⟨(wanted_yes g11.1 (yielded_of h3 g3.2 (by rw [act_ne _ _ (by decide), act_ne _ _ (by decide), act_ne _ _ (by decide), act_ne _ _ (by decide), act_ne _ _ (by decide), act_ne _ _ (by decide), act_ne _ _ (by decide), act_same _ _ _ (by (try simp only [act_size]); rw [hsz]; decide)]) (by (try simp only [act_size]); rw [hsz]; decide))), (fun w => (run_gt3 p11 (by rw [act_same _ _ _ (by (try simp only [act_size]); rw [hsz]; decide)]) rfl w).trans (by rw [hz]))⟩) rfl ?_
  refine pure_ (i := 12) (N := some 33) (v := (.bool false)) #[true, true, true, true, true, true, true, true, true, true, true, true, true, false, false, false, false, false, false] h12 g12.2 hc.f12 (fun c a w => by rw [g12.2]; exact hQ _ _ c a w) (Or.inl ⟨(wanted_yes g12.1 (yielded_of h3 g3.2 (by rw [act_ne _ _ (by decide), act_ne _ _ (by decide), act_ne _ _ (by decide), act_ne _ _ (by decide), act_ne _ _ (by decide), act_ne _ _ (by decide), act_ne _ _ (by decide), act_ne _ _ (by decide), act_same _ _ _ (by (try simp only [act_size]); rw [hsz]; decide)]) (by (try simp only [act_size]); rw [hsz]; decide))), run_move p12 (by rw [act_same _ _ _ (by (try simp only [act_size]); rw [hsz]; decide)])⟩) rfl ?_
  refine pure_ (i := 13) (N := some 34) (v := (.pointer (some ⟨b1, 1, none⟩))) #[true, true, true, true, true, true, true, true, true, true, true, true, true, true, false, false, false, false, false] h13 g13.2 hc.f13 (fun c a w => by rw [g13.2]; exact hQ _ _ c a w) (Or.inl ⟨(wanted_yes g13.1 (yielded_of h12 g12.2 (by rw [act_same _ _ _ (by (try simp only [act_size]); rw [hsz]; decide)]) (by (try simp only [act_size]); rw [hsz]; decide))), run_fa29_1 p13 (by rw [act_ne _ _ (by decide), act_ne _ _ (by decide), act_ne _ _ (by decide), act_ne _ _ (by decide), act_ne _ _ (by decide), act_ne _ _ (by decide), act_ne _ _ (by decide), act_ne _ _ (by decide), act_ne _ _ (by decide), act_ne _ _ (by decide), act_ne _ _ (by decide), act_ne _ _ (by decide), act_ne _ _ (by decide), v6])⟩) rfl ?_
  refine take_ (i := 14) (N := some 35) (v := (.string T.f1)) #[true, true, true, true, true, true, true, true, true, true, true, true, true, true, true, false, false, false, false] h14 g14.2 hc.f14 (fun c a w => by rw [g14.2]; exact hQ _ _ c a w) (Or.inl ⟨(wanted_yes g14.1 (yielded_of h12 g12.2 (by rw [act_ne _ _ (by decide), act_same _ _ _ (by (try simp only [act_size]); rw [hsz]; decide)]) (by (try simp only [act_size]); rw [hsz]; decide))), fun w9 hw9 => run_loadT p14 (by rw [act_same _ _ _ (by (try simp only [act_size]); rw [hsz]; decide)]) ((Mine.blk_cells hw9.1 1).trans rfl) Try.underlying9 rfl⟩) hS2 rfl ?_
  refine YtdiadmlgeojefaaW.PrintLast.one_ (i := 15) (N := some 36) #[true, true, true, true, true, true, true, true, true, true, true, true, true, true, true, true, false, false, false] h15 g15.2 hc.f15 (by decide) (fun K hK => goes_ (f := 62) (fn := Try.f62) Try.func62 (by kernel_rfl) rfl #[.string T.f1] (wanted_yes g15.1 (yielded_of h12 g12.2 (by rw [act_ne _ _ (by decide), act_ne _ _ (by decide), act_same _ _ _ (by (try simp only [act_size]); rw [hsz]; decide)]) (by (try simp only [act_size]); rw [hsz]; decide))) g15.2 p15 ?_ ?_)
  · simp only [List.map_toArray, List.map_cons, List.map_nil]
    rw [act_same _ _ _ (by (try simp only [act_size]); rw [hsz]; decide)]
    try rfl
  refine (anyOf_calls T.f1 W.drew).mono ?_
  rintro e W1 ⟨rfl, hbel⟩
  refine ⟨_, rfl, ?_⟩
  have hB9 : Below W.heap.size W W1 := below_step (below_drew (Below.refl W.heap.size W)) hbel
  refine hK _ _ ⟨below_blk hB9 hb1, below_blk hB9 hg, hm.below hB9, hsm.below hB9⟩ (fun _ => ?_)
  refine pure_ (i := 16) (N := some 37) (v := (.bool (anyF T.f1))) #[true, true, true, true, true, true, true, true, true, true, true, true, true, true, true, true, true, false, false] h16 g16.2 hc.f16 (fun c a w => by rw [g16.2]; exact hQ _ _ c a w) (Or.inl ⟨(wanted_yes g16.1 (yielded_of h3 g3.2 (by rw [act_ne _ _ (by decide), act_ne _ _ (by decide), act_ne _ _ (by decide), act_ne _ _ (by decide), act_ne _ _ (by decide), act_ne _ _ (by decide), act_ne _ _ (by decide), act_ne _ _ (by decide), act_ne _ _ (by decide), act_ne _ _ (by decide), act_ne _ _ (by decide), act_ne _ _ (by decide), act_same _ _ _ (by (try simp only [act_size]); rw [hsz]; decide)]) (by (try simp only [act_size]); rw [hsz]; decide))), run_pick p16 (b := false) (by rw [act_ne _ _ (by decide), act_ne _ _ (by decide), act_ne _ _ (by decide), act_same _ _ _ (by (try simp only [act_size]); rw [hsz]; decide)]) (by rw [if_neg (by decide)]; exact (by rw [act_same _ _ _ (by (try simp only [act_size]); rw [hsz]; decide)]))⟩) rfl ?_
  refine pure_ (i := 17) (N := some 38) (v := (.bool (anyF T.f1))) #[true, true, true, true, true, true, true, true, true, true, true, true, true, true, true, true, true, true, false] h17 g17.2 hc.f17 (fun c a w => by rw [g17.2]; exact hQ _ _ c a w) (Or.inl ⟨(by simp [Region.wanted, g17.1]), run_pick p17 (b := true) (by rw [act_ne _ _ (by decide), act_ne _ _ (by decide), act_ne _ _ (by decide), act_ne _ _ (by decide), act_ne _ _ (by decide), act_ne _ _ (by decide), act_ne _ _ (by decide), act_ne _ _ (by decide), act_ne _ _ (by decide), act_ne _ _ (by decide), act_ne _ _ (by decide), act_ne _ _ (by decide), act_ne _ _ (by decide), act_same _ _ _ (by (try simp only [act_size]); rw [hsz]; decide)]) (by rw [if_pos rfl]; exact (by rw [act_same _ _ _ (by (try simp only [act_size]); rw [hsz]; decide)]))⟩) rfl ?_
  refine pure_ (i := 18) (N := some 20) (v := (.bool (anyF T.f1))) #[true, true, true, true, true, true, true, true, true, true, true, true, true, true, true, true, true, true, true] h18 g18.2 hc.f18 (fun c a w => by rw [g18.2]; exact hQ _ _ c a w) (Or.inl ⟨(by simp [Region.wanted, g18.1]), run_assign p18 (by rw [act_same _ _ _ (by (try simp only [act_size]); rw [hsz]; decide)])⟩) rfl ?_
  refine (done_ hc.f19 ?_)
  exact hpost _ hB9
structure heads9Chk (ops : Array Oper) : Prop where
  f0 : anyB .any ops #[false, false, false, false, false, false, false, false, false] #[true, false, false, false, false, false, false, false, false] 0 = true
  f1 : anyB .any ops #[true, false, false, false, false, false, false, false, false] #[true, true, false, false, false, false, false, false, false] 1 = true
  f2 : anyB .any ops #[true, true, false, false, false, false, false, false, false] #[true, true, true, false, false, false, false, false, false] 2 = true
  f3 : takeB .any ops [8] #[true, true, true, false, false, false, false, false, false] #[true, true, true, true, false, false, false, false, false] 3 = true
  f4 : anyB .any ops #[true, true, true, true, false, false, false, false, false] #[true, true, true, true, true, false, false, false, false] 4 = true
  f5 : takeB .any ops [8] #[true, true, true, true, true, false, false, false, false] #[true, true, true, true, true, true, false, false, false] 5 = true
  f6 : takeB .any ops [8] #[true, true, true, true, true, true, false, false, false] #[true, true, true, true, true, true, true, false, false] 6 = true
  f7 : anyB .any ops #[true, true, true, true, true, true, true, false, false] #[true, true, true, true, true, true, true, true, false] 7 = true
  f8 : readyB .any ops #[true, true, true, true, true, true, true, true, false] #[true, true, true, true, true, true, true, true, true] 8 = true
  f9 : (Region.ready .any ops #[true, true, true, true, true, true, true, true, true] == []) = true
set_option maxHeartbeats 1000000 in
theorem heads9 {ops : Array Oper} {id : Nat} {Q : Exit → Act → World → Prop} {a : Act} {W : World} {g bm b1 sm : Nat} {T : S29} {v : Value} {f : Ft} {ks ss : List ByteArray} {on : ByteArray} (hb1 : W.heap[b1]? = some (.cells (nc T v).toArray 29 (0, 0))) (hg : W.heap[g]? = some (.cells (ckc bm on f).toArray 88 (0, 0))) (hm : Mp W bm ks) (hsm : Mp W sm ss) (hs : T.f1.size ≤ maxLen)
    (hl : ks.length < 4611686018427387904)
    {o0 o1 o2 o3 o4 o5 o6 o7 o8 : Oper} (hsize : ops.size = 9) (h0 : ops[0]? = some o0) (h1 : ops[1]? = some o1) (h2 : ops[2]? = some o2) (h3 : ops[3]? = some o3) (h4 : ops[4]? = some o4) (h5 : ops[5]? = some o5) (h6 : ops[6]? = some o6) (h7 : ops[7]? = some o7) (h8 : ops[8]? = some o8)
    (g0 : o0.guard = none ∧ o0.dst = some 46) (g1 : o1.guard = none ∧ o1.dst = some 47) (g2 : o2.guard = none ∧ o2.dst = some 48) (g3 : o3.guard = none ∧ o3.dst = some 49) (g4 : o4.guard = none ∧ o4.dst = some 50) (g5 : o5.guard = none ∧ o5.dst = some 51) (g6 : o6.guard = none ∧ o6.dst = some 52) (g7 : o7.guard = none ∧ o7.dst = some 53) (g8 : o8.guard = none ∧ o8.dst = none)
    (p0 : o0.op = .move (.tmp 0)) (p1 : o1.op = .nilCheck (.tmp 46)) (p2 : o2.op = .fieldAddr 88 (.tmp 47) 0) (p3 : o3.op = .load 86 (.tmp 48)) (p4 : o4.op = .fieldAddr 29 (.tmp 6) 1) (p5 : o5.op = .load 9 (.tmp 50)) (p6 : o6.op = .lookup 86 (.tmp 49) (.tmp 51) false) (p7 : o7.op = .binOp .add 3 (.tmp 52) (.const (.int .i64 1)) 3) (p8 : o8.op = .mapUpdate 86 (.tmp 49) (.tmp 51) (.tmp 53))
    (t7 : o7.type = 3)
    (hsz : a.tmps.size = 80) (v0 : a.eval (.tmp 0) = .pointer (some ⟨g, 0, none⟩)) (v6 : a.eval (.tmp 6) = .pointer (some ⟨b1, 0, none⟩)) (hc : heads9Chk ops)
    (hQ : ∀ (d : Tmp) v c a w, Q (.panic c) (Act.put a (some d) v) w → Q (.panic c) a w)
    (hpost : ∀ W', Mp W' bm (T.f1 :: ks) → W.grownBy W' (some bm) → Q .normal ((((((((a.put (some 46) (.pointer (some ⟨g, 0, none⟩))).put (some 47) (.pointer (some ⟨g, 0, none⟩))).put (some 48) (.pointer (some ⟨g, 0, none⟩))).put (some 49) (.map (some bm))).put (some 50) (.pointer (some ⟨b1, 1, none⟩))).put (some 51) (.string T.f1)).put (some 52) (.int .i64 (cntL ks T.f1))).put (some 53) (.int .i64 ((cntL ks T.f1 : Int) + 1))) W') :
    (Code.region id ops true).wp Try.prog Q a W := by
  refine start_ (n := 9) (S := fun w' => w'.heap[b1]? = some (.cells (nc T v).toArray 29 (0, 0)) ∧ w'.heap[g]? = some (.cells (ckc bm on f).toArray 88 (0, 0)) ∧ Mp w' bm ks ∧ Mp w' sm ss) (ds := [8]) #[false, false, false, false, false, false, false, false, false] (by kernel_rfl) hsize rfl ⟨hb1, hg, hm.blk rfl, hsm.blk rfl⟩ (fun hS2 => ?_)
  refine pure_ (i := 0) (N := some 46) (v := (.pointer (some ⟨g, 0, none⟩))) #[true, false, false, false, false, false, false, false, false] h0 g0.2 hc.f0 (fun c a w => by rw [g0.2]; exact hQ _ _ c a w) (Or.inl ⟨(by simp [Region.wanted, g0.1]), run_move p0 (by rw [v0])⟩) rfl ?_
  refine pure_ (i := 1) (N := some 47) (v := (.pointer (some ⟨g, 0, none⟩))) #[true, true, false, false, false, false, false, false, false] h1 g1.2 hc.f1 (fun c a w => by rw [g1.2]; exact hQ _ _ c a w) (Or.inl ⟨(by simp [Region.wanted, g1.1]), run_nil p1 (by rw [act_same _ _ _ (by (try simp only [act_size]); rw [hsz]; decide)])⟩) rfl ?_
  refine pure_ (i := 2) (N := some 48) (v := (.pointer (some ⟨g, 0, none⟩))) #[true, true, true, false, false, false, false, false, false] h2 g2.2 hc.f2 (fun c a w => by rw [g2.2]; exact hQ _ _ c a w) (Or.inl ⟨(by simp [Region.wanted, g2.1]), run_fa88_0 p2 (by rw [act_same _ _ _ (by (try simp only [act_size]); rw [hsz]; decide)])⟩) rfl ?_
  refine take_ (i := 3) (N := some 49) (v := (.map (some bm))) #[true, true, true, true, false, false, false, false, false] h3 g3.2 hc.f3 (fun c a w => by rw [g3.2]; exact hQ _ _ c a w) (Or.inl ⟨(by simp [Region.wanted, g3.1]), fun w9 hw9 => run_loadT p3 (by rw [act_same _ _ _ (by (try simp only [act_size]); rw [hsz]; decide)]) ((Mine.blk_cells hw9.2.1 0).trans rfl) Try.underlying86 rfl⟩) hS2 rfl ?_
  refine pure_ (i := 4) (N := some 50) (v := (.pointer (some ⟨b1, 1, none⟩))) #[true, true, true, true, true, false, false, false, false] h4 g4.2 hc.f4 (fun c a w => by rw [g4.2]; exact hQ _ _ c a w) (Or.inl ⟨(by simp [Region.wanted, g4.1]), run_fa29_1 p4 (by rw [act_ne _ _ (by decide), act_ne _ _ (by decide), act_ne _ _ (by decide), act_ne _ _ (by decide), v6])⟩) rfl ?_
  refine take_ (i := 5) (N := some 51) (v := (.string T.f1)) #[true, true, true, true, true, true, false, false, false] h5 g5.2 hc.f5 (fun c a w => by rw [g5.2]; exact hQ _ _ c a w) (Or.inl ⟨(by simp [Region.wanted, g5.1]), fun w9 hw9 => run_loadT p5 (by rw [act_same _ _ _ (by (try simp only [act_size]); rw [hsz]; decide)]) ((Mine.blk_cells hw9.1 1).trans rfl) Try.underlying9 rfl⟩) hS2 rfl ?_
  refine take_ (i := 6) (N := some 52) (v := (.int .i64 (cntL ks T.f1))) #[true, true, true, true, true, true, true, false, false] h6 g6.2 hc.f6 (fun c a w => by rw [g6.2]; exact hQ _ _ c a w) (Or.inl ⟨(by simp [Region.wanted, g6.1]), fun w9 hw9 => run_look hw9.2.2.1 hs p6 (by rw [act_ne _ _ (by decide), act_ne _ _ (by decide), act_same _ _ _ (by (try simp only [act_size]); rw [hsz]; decide)]) (by rw [act_same _ _ _ (by (try simp only [act_size]); rw [hsz]; decide)])⟩) hS2 rfl ?_
  refine pure_ (i := 7) (N := some 53) (v := (.int .i64 ((cntL ks T.f1 : Int) + 1))) #[true, true, true, true, true, true, true, true, false] h7 g7.2 hc.f7 (fun c a w => by rw [g7.2]; exact hQ _ _ c a w) (Or.inl ⟨(by simp [Region.wanted, g7.1]), run_add3 p7 t7 (by rw [act_same _ _ _ (by (try simp only [act_size]); rw [hsz]; decide)]) rfl (by omega) (by have := cntL_le ks T.f1; omega)⟩) rfl ?_
  refine last_ (i := 8) (N := none) #[true, true, true, true, true, true, true, true, true] h8 g8.2 hc.f8 (by decide) (fun K hK => step_of g8.1 g8.2 ?_)
  refine ev_mapput g8.1 g8.2 (W := W.drew) (hm.blk rfl) hl hs (.tmp 49) (.tmp 51) (.tmp 53) p8 (by rw [act_ne _ _ (by decide), act_ne _ _ (by decide), act_ne _ _ (by decide), act_ne _ _ (by decide), act_same _ _ _ (by (try simp only [act_size]); rw [hsz]; decide)]) (by rw [act_ne _ _ (by decide), act_ne _ _ (by decide), act_same _ _ _ (by (try simp only [act_size]); rw [hsz]; decide)]) (by rw [act_same _ _ _ (by (try simp only [act_size]); rw [hsz]; decide)]) ?_
  intro w1 hm1 hg1
  refine hK _ _ (done_ hc.f9 ?_)
  exact hpost _ hm1 ⟨hg1.os, hg1.tape, hg1.output, hg1.size, hg1.block⟩
structure heads12iChk (ops : Array Oper) : Prop where
  f0 : anyB .any ops #[false, false, false, false, false, false, false, false, false, false, false, false, false] #[false, true, false, false, false, false, false, false, false, false, false, false, false] 1 = true
  f1 : takeB .any ops [] #[false, true, false, false, false, false, false, false, false, false, false, false, false] #[false, true, true, false, false, false, false, false, false, false, false, false, false] 2 = true
  f2 : readyB .any ops #[false, true, true, false, false, false, false, false, false, false, false, false, false] #[true, true, true, false, false, false, false, false, false, false, false, false, false] 0 = true
  f3 : readyB .any ops #[true, true, true, false, false, false, false, false, false, false, false, false, false] #[true, true, true, true, false, false, false, false, false, false, false, false, false] 3 = true
  f4 : anyB .any ops #[true, true, true, true, false, false, false, false, false, false, false, false, false] #[true, true, true, true, true, false, false, false, false, false, false, false, false] 4 = true
  f5 : anyB .any ops #[true, true, true, true, true, false, false, false, false, false, false, false, false] #[true, true, true, true, true, true, false, false, false, false, false, false, false] 5 = true
  f6 : anyB .any ops #[true, true, true, true, true, true, false, false, false, false, false, false, false] #[true, true, true, true, true, true, true, false, false, false, false, false, false] 6 = true
  f7 : anyB .any ops #[true, true, true, true, true, true, true, false, false, false, false, false, false] #[true, true, true, true, true, true, true, true, false, false, false, false, false] 7 = true
  f8 : takeB .any ops [] #[true, true, true, true, true, true, true, true, false, false, false, false, false] #[true, true, true, true, true, true, true, true, true, false, false, false, false] 8 = true
  f9 : takeB .any ops [] #[true, true, true, true, true, true, true, true, true, false, false, false, false] #[true, true, true, true, true, true, true, true, true, true, false, false, false] 9 = true
  f10 : anyB .any ops #[true, true, true, true, true, true, true, true, true, true, false, false, false] #[true, true, true, true, true, true, true, true, true, true, true, false, false] 10 = true
  f11 : anyB .any ops #[true, true, true, true, true, true, true, true, true, true, true, false, false] #[true, true, true, true, true, true, true, true, true, true, true, true, false] 11 = true
  f12 : anyB .any ops #[true, true, true, true, true, true, true, true, true, true, true, true, false] #[true, true, true, true, true, true, true, true, true, true, true, true, true] 12 = true
  f13 : (Region.ready .any ops #[true, true, true, true, true, true, true, true, true, true, true, true, true] == []) = true
set_option maxHeartbeats 1000000 in
theorem heads12i {ops : Array Oper} {id : Nat} {Q : Exit → Act → World → Prop} {a : Act} {W : World} {g bm b1 sm : Nat} {T : S29} {v : Value} {f : Ft} {ks ss : List ByteArray} {on : ByteArray} (hb1 : W.heap[b1]? = some (.cells (nc T v).toArray 29 (0, 0))) (hg : W.heap[g]? = some (.cells (ckc bm on f).toArray 88 (0, 0))) (hm : Mp W bm ks) (hsm : Mp W sm ss) (hs : T.f1.size ≤ maxLen)
    (hin : inE T.f1 = true)
    {o0 o1 o2 o3 o4 o5 o6 o7 o8 o9 o10 o11 o12 : Oper} (hsize : ops.size = 13) (h0 : ops[0]? = some o0) (h1 : ops[1]? = some o1) (h2 : ops[2]? = some o2) (h3 : ops[3]? = some o3) (h4 : ops[4]? = some o4) (h5 : ops[5]? = some o5) (h6 : ops[6]? = some o6) (h7 : ops[7]? = some o7) (h8 : ops[8]? = some o8) (h9 : ops[9]? = some o9) (h10 : ops[10]? = some o10) (h11 : ops[11]? = some o11) (h12 : ops[12]? = some o12)
    (g0 : o0.guard = none ∧ o0.dst = some 64) (g1 : o1.guard = none ∧ o1.dst = some 65) (g2 : o2.guard = none ∧ o2.dst = some 66) (g3 : o3.guard = none ∧ o3.dst = some 67) (g4 : o4.guard = none ∧ o4.dst = some 68) (g5 : o5.guard = none ∧ o5.dst = some 69) (g6 : o6.guard = some (5, false) ∧ o6.dst = some 70) (g7 : o7.guard = some (5, false) ∧ o7.dst = some 71) (g8 : o8.guard = some (5, false) ∧ o8.dst = some 72) (g9 : o9.guard = some (5, false) ∧ o9.dst = some 73) (g10 : o10.guard = some (5, false) ∧ o10.dst = some 74) (g11 : o11.guard = none ∧ o11.dst = some 75) (g12 : o12.guard = none ∧ o12.dst = some 63)
    (p0 : o0.op = .call { callee := .value (.func 14), args := #[], argTypes := #[] }) (p1 : o1.op = .fieldAddr 29 (.tmp 6) 1) (p2 : o2.op = .load 9 (.tmp 65)) (p3 : o3.op = .call { callee := .value (.func 64), args := #[.tmp 64, .tmp 66], argTypes := #[23, 9] }) (p4 : o4.op = .unOp .not 4 (.tmp 67)) (p5 : o5.op = .move (.tmp 68)) (p6 : o6.op = .move (.tmp 4)) (p7 : o7.op = .fieldAddr 29 (.tmp 6) 1) (p8 : o8.op = .load 9 (.tmp 71)) (p9 : o9.op = .lookup 86 (.tmp 70) (.tmp 72) false) (p10 : o10.op = .binOp .gtr 3 (.tmp 73) (.const (.int .i64 0)) 3) (p11 : o11.op = .pick (.tmp 69) (.const (.bool true)) (.tmp 74)) (p12 : o12.op = .assign (.tmp 75))
    
    (hsz : a.tmps.size = 80) (v6 : a.eval (.tmp 6) = .pointer (some ⟨b1, 0, none⟩)) (v4 : a.eval (.tmp 4) = .map (some sm)) (hc : heads12iChk ops)
    (hQ : ∀ (d : Tmp) v c a w, Q (.panic c) (Act.put a (some d) v) w → Q (.panic c) a w)
    (hpost : ∀ (A0 : Option Addr) (c9 : Nat) W', Below W.heap.size W W' → Q .normal (((((((((((((a.put (some 65) (.pointer (some ⟨b1, 1, none⟩))).put (some 66) (.string T.f1)).put (some 64) (.slice A0 evL.length c9)).put (some 67) (.bool true)).put (some 68) (.bool false)).put (some 69) (.bool false)).put (some 70) (.map (some sm))).put (some 71) (.pointer (some ⟨b1, 1, none⟩))).put (some 72) (.string T.f1)).put (some 73) (.int .i64 (cntL ss T.f1))).put (some 74) (.bool (decide (0 < (cntL ss T.f1 : Int))))).put (some 75) (.bool (decide (0 < (cntL ss T.f1 : Int))))).put (some 63) (.bool (decide (0 < (cntL ss T.f1 : Int))))) W') :
    (Code.region id ops true).wp Try.prog Q a W := by
  refine start_ (n := 13) (S := fun w' => w'.heap[b1]? = some (.cells (nc T v).toArray 29 (0, 0)) ∧ w'.heap[g]? = some (.cells (ckc bm on f).toArray 88 (0, 0)) ∧ Mp w' bm ks ∧ Mp w' sm ss) (ds := []) #[false, false, false, false, false, false, false, false, false, false, false, false, false] (by kernel_rfl) hsize rfl ⟨hb1, hg, hm.blk rfl, hsm.blk rfl⟩ (fun hS2 => ?_)
  refine pure_ (i := 1) (N := some 65) (v := (.pointer (some ⟨b1, 1, none⟩))) #[false, true, false, false, false, false, false, false, false, false, false, false, false] h1 g1.2 hc.f0 (fun c a w => by rw [g1.2]; exact hQ _ _ c a w) (Or.inl ⟨(by simp [Region.wanted, g1.1]), run_fa29_1 p1 (by rw [v6])⟩) rfl ?_
  refine take_ (i := 2) (N := some 66) (v := (.string T.f1)) #[false, true, true, false, false, false, false, false, false, false, false, false, false] h2 g2.2 hc.f1 (fun c a w => by rw [g2.2]; exact hQ _ _ c a w) (Or.inl ⟨(by simp [Region.wanted, g2.1]), fun w9 hw9 => run_loadT p2 (by rw [act_same _ _ _ (by (try simp only [act_size]); rw [hsz]; decide)]) ((Mine.blk_cells hw9.1 1).trans rfl) Try.underlying9 rfl⟩) hS2 rfl ?_
  refine YtdiadmlgeojefaaW.PrintLast.one_ (i := 0) (N := some 64) #[true, true, true, false, false, false, false, false, false, false, false, false, false] h0 g0.2 hc.f2 (by decide) (fun K hK => goes_ (f := 14) (fn := Try.f14) Try.func14 (by kernel_rfl) rfl #[] (by simp [Region.wanted, g0.1]) g0.2 p0 ?_ ?_)
  · simp only [List.map_toArray, List.map_cons, List.map_nil]
    try rfl
  refine (check_Events.calls evL W.drew rfl).mono ?_
  rintro e W1 ⟨v0, rfl, hR0, hbel⟩
  have hV0 := Kd.R_V (base' := 0) hR0
  obtain ⟨A0, c9, e0⟩ := Kd.V_slice hV0
  subst e0
  have hC0 := Kd.V_reads' hV0
  refine ⟨_, rfl, ?_⟩
  have hB9 : Below W.heap.size W W1 := below_step (below_drew (Below.refl W.heap.size W)) hbel
  refine hK _ _ ⟨below_blk hB9 hb1, below_blk hB9 hg, hm.below hB9, hsm.below hB9⟩ (fun hS3 => ?_)
  clear hS2
  have hS2 := hS3
  refine YtdiadmlgeojefaaW.PrintLast.one_ (i := 3) (N := some 67) #[true, true, true, true, false, false, false, false, false, false, false, false, false] h3 g3.2 hc.f3 (by decide) (fun K hK => goes_ (f := 64) (fn := Try.f64) Try.func64 (by kernel_rfl) rfl #[.slice A0 evL.length c9, .string T.f1] (by simp [Region.wanted, g3.1]) g3.2 p3 ?_ ?_)
  · simp only [List.map_toArray, List.map_cons, List.map_nil]
    rw [act_same _ _ _ (by (try simp only [act_size]); rw [hsz]; decide)]
    rw [act_ne _ _ (by decide), act_same _ _ _ (by (try simp only [act_size]); rw [hsz]; decide)]
    try rfl
  refine (slices_Contains_string_string.calls 10 A0 c9 evL T.f1 _ W1 hC0.2.2 hC0.2.1 (inE_some T.f1)).mono ?_
  rintro e W2 ⟨rfl, hd9⟩
  refine ⟨_, rfl, ?_⟩
  rw [hin]
  have hB10 : Below W.heap.size W W2 := below_step hB9 hd9.below
  refine hK _ _ ⟨below_blk hB10 hb1, below_blk hB10 hg, hm.below hB10, hsm.below hB10⟩ (fun hS4 => ?_)
  clear hS2
  have hS2 := hS4
  refine pure_ (i := 4) (N := some 68) (v := (.bool false)) #[true, true, true, true, true, false, false, false, false, false, false, false, false] h4 g4.2 hc.f4 (fun c a w => by rw [g4.2]; exact hQ _ _ c a w) (Or.inl ⟨(by simp [Region.wanted, g4.1]), run_not4 p4 (b := true) (by rw [act_same _ _ _ (by (try simp only [act_size]); rw [hsz]; decide)])⟩) rfl ?_
  refine pure_ (i := 5) (N := some 69) (v := (.bool false)) #[true, true, true, true, true, true, false, false, false, false, false, false, false] h5 g5.2 hc.f5 (fun c a w => by rw [g5.2]; exact hQ _ _ c a w) (Or.inl ⟨(by simp [Region.wanted, g5.1]), run_move p5 (by rw [act_same _ _ _ (by (try simp only [act_size]); rw [hsz]; decide)])⟩) rfl ?_
  refine pure_ (i := 6) (N := some 70) (v := (.map (some sm))) #[true, true, true, true, true, true, true, false, false, false, false, false, false] h6 g6.2 hc.f6 (fun c a w => by rw [g6.2]; exact hQ _ _ c a w) (Or.inl ⟨(wanted_yes g6.1 (yielded_of h5 g5.2 (by rw [act_same _ _ _ (by (try simp only [act_size]); rw [hsz]; decide)]) (by (try simp only [act_size]); rw [hsz]; decide))), run_move p6 (by rw [act_ne _ _ (by decide), act_ne _ _ (by decide), act_ne _ _ (by decide), act_ne _ _ (by decide), act_ne _ _ (by decide), act_ne _ _ (by decide), v4])⟩) rfl ?_
  refine pure_ (i := 7) (N := some 71) (v := (.pointer (some ⟨b1, 1, none⟩))) #[true, true, true, true, true, true, true, true, false, false, false, false, false] h7 g7.2 hc.f7 (fun c a w => by rw [g7.2]; exact hQ _ _ c a w) (Or.inl ⟨(wanted_yes g7.1 (yielded_of h5 g5.2 (by rw [act_ne _ _ (by decide), act_same _ _ _ (by (try simp only [act_size]); rw [hsz]; decide)]) (by (try simp only [act_size]); rw [hsz]; decide))), run_fa29_1 p7 (by rw [act_ne _ _ (by decide), act_ne _ _ (by decide), act_ne _ _ (by decide), act_ne _ _ (by decide), act_ne _ _ (by decide), act_ne _ _ (by decide), act_ne _ _ (by decide), v6])⟩) rfl ?_
  refine take_ (i := 8) (N := some 72) (v := (.string T.f1)) #[true, true, true, true, true, true, true, true, true, false, false, false, false] h8 g8.2 hc.f8 (fun c a w => by rw [g8.2]; exact hQ _ _ c a w) (Or.inl ⟨(wanted_yes g8.1 (yielded_of h5 g5.2 (by rw [act_ne _ _ (by decide), act_ne _ _ (by decide), act_same _ _ _ (by (try simp only [act_size]); rw [hsz]; decide)]) (by (try simp only [act_size]); rw [hsz]; decide))), fun w9 hw9 => run_loadT p8 (by rw [act_same _ _ _ (by (try simp only [act_size]); rw [hsz]; decide)]) ((Mine.blk_cells hw9.1 1).trans rfl) Try.underlying9 rfl⟩) hS2 rfl ?_
  refine take_ (i := 9) (N := some 73) (v := (.int .i64 (cntL ss T.f1))) #[true, true, true, true, true, true, true, true, true, true, false, false, false] h9 g9.2 hc.f9 (fun c a w => by rw [g9.2]; exact hQ _ _ c a w) (Or.inl ⟨(wanted_yes g9.1 (yielded_of h5 g5.2 (by rw [act_ne _ _ (by decide), act_ne _ _ (by decide), act_ne _ _ (by decide), act_same _ _ _ (by (try simp only [act_size]); rw [hsz]; decide)]) (by (try simp only [act_size]); rw [hsz]; decide))), fun w9 hw9 => run_look hw9.2.2.2 hs p9 (by rw [act_ne _ _ (by decide), act_ne _ _ (by decide), act_same _ _ _ (by (try simp only [act_size]); rw [hsz]; decide)]) (by rw [act_same _ _ _ (by (try simp only [act_size]); rw [hsz]; decide)])⟩) hS2 rfl ?_
  refine pure_ (i := 10) (N := some 74) (v := (.bool (decide (0 < (cntL ss T.f1 : Int))))) #[true, true, true, true, true, true, true, true, true, true, true, false, false] h10 g10.2 hc.f10 (fun c a w => by rw [g10.2]; exact hQ _ _ c a w) (Or.inl ⟨(wanted_yes g10.1 (yielded_of h5 g5.2 (by rw [act_ne _ _ (by decide), act_ne _ _ (by decide), act_ne _ _ (by decide), act_ne _ _ (by decide), act_same _ _ _ (by (try simp only [act_size]); rw [hsz]; decide)]) (by (try simp only [act_size]); rw [hsz]; decide))), run_gt3 p10 (by rw [act_same _ _ _ (by (try simp only [act_size]); rw [hsz]; decide)]) rfl⟩) rfl ?_
  refine pure_ (i := 11) (N := some 75) (v := (.bool (decide (0 < (cntL ss T.f1 : Int))))) #[true, true, true, true, true, true, true, true, true, true, true, true, false] h11 g11.2 hc.f11 (fun c a w => by rw [g11.2]; exact hQ _ _ c a w) (Or.inl ⟨(by simp [Region.wanted, g11.1]), run_pick p11 (b := false) (by rw [act_ne _ _ (by decide), act_ne _ _ (by decide), act_ne _ _ (by decide), act_ne _ _ (by decide), act_ne _ _ (by decide), act_same _ _ _ (by (try simp only [act_size]); rw [hsz]; decide)]) (by rw [if_neg (by decide)]; exact (by rw [act_same _ _ _ (by (try simp only [act_size]); rw [hsz]; decide)]))⟩) rfl ?_
  refine pure_ (i := 12) (N := some 63) (v := (.bool (decide (0 < (cntL ss T.f1 : Int))))) #[true, true, true, true, true, true, true, true, true, true, true, true, true] h12 g12.2 hc.f12 (fun c a w => by rw [g12.2]; exact hQ _ _ c a w) (Or.inl ⟨(by simp [Region.wanted, g12.1]), run_assign p12 (by rw [act_same _ _ _ (by (try simp only [act_size]); rw [hsz]; decide)])⟩) rfl ?_
  refine (done_ hc.f13 ?_)
  exact hpost A0 c9 _ hB10
structure heads12oChk (ops : Array Oper) : Prop where
  f0 : anyB .any ops #[false, false, false, false, false, false, false, false, false, false, false, false, false] #[false, true, false, false, false, false, false, false, false, false, false, false, false] 1 = true
  f1 : takeB .any ops [] #[false, true, false, false, false, false, false, false, false, false, false, false, false] #[false, true, true, false, false, false, false, false, false, false, false, false, false] 2 = true
  f2 : readyB .any ops #[false, true, true, false, false, false, false, false, false, false, false, false, false] #[true, true, true, false, false, false, false, false, false, false, false, false, false] 0 = true
  f3 : readyB .any ops #[true, true, true, false, false, false, false, false, false, false, false, false, false] #[true, true, true, true, false, false, false, false, false, false, false, false, false] 3 = true
  f4 : anyB .any ops #[true, true, true, true, false, false, false, false, false, false, false, false, false] #[true, true, true, true, true, false, false, false, false, false, false, false, false] 4 = true
  f5 : anyB .any ops #[true, true, true, true, true, false, false, false, false, false, false, false, false] #[true, true, true, true, true, true, false, false, false, false, false, false, false] 5 = true
  f6 : anyB .any ops #[true, true, true, true, true, true, false, false, false, false, false, false, false] #[true, true, true, true, true, true, true, false, false, false, false, false, false] 6 = true
  f7 : anyB .any ops #[true, true, true, true, true, true, true, false, false, false, false, false, false] #[true, true, true, true, true, true, true, true, false, false, false, false, false] 7 = true
  f8 : anyB .any ops #[true, true, true, true, true, true, true, true, false, false, false, false, false] #[true, true, true, true, true, true, true, true, true, false, false, false, false] 8 = true
  f9 : anyB .any ops #[true, true, true, true, true, true, true, true, true, false, false, false, false] #[true, true, true, true, true, true, true, true, true, true, false, false, false] 9 = true
  f10 : anyB .any ops #[true, true, true, true, true, true, true, true, true, true, false, false, false] #[true, true, true, true, true, true, true, true, true, true, true, false, false] 10 = true
  f11 : anyB .any ops #[true, true, true, true, true, true, true, true, true, true, true, false, false] #[true, true, true, true, true, true, true, true, true, true, true, true, false] 11 = true
  f12 : anyB .any ops #[true, true, true, true, true, true, true, true, true, true, true, true, false] #[true, true, true, true, true, true, true, true, true, true, true, true, true] 12 = true
  f13 : (Region.ready .any ops #[true, true, true, true, true, true, true, true, true, true, true, true, true] == []) = true
set_option maxHeartbeats 1000000 in
theorem heads12o {ops : Array Oper} {id : Nat} {Q : Exit → Act → World → Prop} {a : Act} {W : World} {g bm b1 sm : Nat} {T : S29} {v : Value} {f : Ft} {ks ss : List ByteArray} {on : ByteArray} (hb1 : W.heap[b1]? = some (.cells (nc T v).toArray 29 (0, 0))) (hg : W.heap[g]? = some (.cells (ckc bm on f).toArray 88 (0, 0))) (hm : Mp W bm ks) (hsm : Mp W sm ss) (hs : T.f1.size ≤ maxLen)
    (hin : inE T.f1 = false)
    {o0 o1 o2 o3 o4 o5 o6 o7 o8 o9 o10 o11 o12 : Oper} (hsize : ops.size = 13) (h0 : ops[0]? = some o0) (h1 : ops[1]? = some o1) (h2 : ops[2]? = some o2) (h3 : ops[3]? = some o3) (h4 : ops[4]? = some o4) (h5 : ops[5]? = some o5) (h6 : ops[6]? = some o6) (h7 : ops[7]? = some o7) (h8 : ops[8]? = some o8) (h9 : ops[9]? = some o9) (h10 : ops[10]? = some o10) (h11 : ops[11]? = some o11) (h12 : ops[12]? = some o12)
    (g0 : o0.guard = none ∧ o0.dst = some 64) (g1 : o1.guard = none ∧ o1.dst = some 65) (g2 : o2.guard = none ∧ o2.dst = some 66) (g3 : o3.guard = none ∧ o3.dst = some 67) (g4 : o4.guard = none ∧ o4.dst = some 68) (g5 : o5.guard = none ∧ o5.dst = some 69) (g6 : o6.guard = some (5, false) ∧ o6.dst = some 70) (g7 : o7.guard = some (5, false) ∧ o7.dst = some 71) (g8 : o8.guard = some (5, false) ∧ o8.dst = some 72) (g9 : o9.guard = some (5, false) ∧ o9.dst = some 73) (g10 : o10.guard = some (5, false) ∧ o10.dst = some 74) (g11 : o11.guard = none ∧ o11.dst = some 75) (g12 : o12.guard = none ∧ o12.dst = some 63)
    (p0 : o0.op = .call { callee := .value (.func 14), args := #[], argTypes := #[] }) (p1 : o1.op = .fieldAddr 29 (.tmp 6) 1) (p2 : o2.op = .load 9 (.tmp 65)) (p3 : o3.op = .call { callee := .value (.func 64), args := #[.tmp 64, .tmp 66], argTypes := #[23, 9] }) (p4 : o4.op = .unOp .not 4 (.tmp 67)) (p5 : o5.op = .move (.tmp 68)) (p6 : o6.op = .move (.tmp 4)) (p7 : o7.op = .fieldAddr 29 (.tmp 6) 1) (p8 : o8.op = .load 9 (.tmp 71)) (p9 : o9.op = .lookup 86 (.tmp 70) (.tmp 72) false) (p10 : o10.op = .binOp .gtr 3 (.tmp 73) (.const (.int .i64 0)) 3) (p11 : o11.op = .pick (.tmp 69) (.const (.bool true)) (.tmp 74)) (p12 : o12.op = .assign (.tmp 75))
    
    (hsz : a.tmps.size = 80) (v6 : a.eval (.tmp 6) = .pointer (some ⟨b1, 0, none⟩)) (v4 : a.eval (.tmp 4) = .map (some sm)) (hc : heads12oChk ops)
    (hQ : ∀ (d : Tmp) v c a w, Q (.panic c) (Act.put a (some d) v) w → Q (.panic c) a w)
    (hpost : ∀ (A0 : Option Addr) (c9 : Nat) W', Below W.heap.size W W' → Q .normal (((((((((((((a.put (some 65) (.pointer (some ⟨b1, 1, none⟩))).put (some 66) (.string T.f1)).put (some 64) (.slice A0 evL.length c9)).put (some 67) (.bool false)).put (some 68) (.bool true)).put (some 69) (.bool true)).put (some 70) undef).put (some 71) undef).put (some 72) undef).put (some 73) undef).put (some 74) undef).put (some 75) (.bool true)).put (some 63) (.bool true)) W') :
    (Code.region id ops true).wp Try.prog Q a W := by
  refine start_ (n := 13) (S := fun w' => w'.heap[b1]? = some (.cells (nc T v).toArray 29 (0, 0)) ∧ w'.heap[g]? = some (.cells (ckc bm on f).toArray 88 (0, 0)) ∧ Mp w' bm ks ∧ Mp w' sm ss) (ds := []) #[false, false, false, false, false, false, false, false, false, false, false, false, false] (by kernel_rfl) hsize rfl ⟨hb1, hg, hm.blk rfl, hsm.blk rfl⟩ (fun hS2 => ?_)
  refine pure_ (i := 1) (N := some 65) (v := (.pointer (some ⟨b1, 1, none⟩))) #[false, true, false, false, false, false, false, false, false, false, false, false, false] h1 g1.2 hc.f0 (fun c a w => by rw [g1.2]; exact hQ _ _ c a w) (Or.inl ⟨(by simp [Region.wanted, g1.1]), run_fa29_1 p1 (by rw [v6])⟩) rfl ?_
  refine take_ (i := 2) (N := some 66) (v := (.string T.f1)) #[false, true, true, false, false, false, false, false, false, false, false, false, false] h2 g2.2 hc.f1 (fun c a w => by rw [g2.2]; exact hQ _ _ c a w) (Or.inl ⟨(by simp [Region.wanted, g2.1]), fun w9 hw9 => run_loadT p2 (by rw [act_same _ _ _ (by (try simp only [act_size]); rw [hsz]; decide)]) ((Mine.blk_cells hw9.1 1).trans rfl) Try.underlying9 rfl⟩) hS2 rfl ?_
  refine YtdiadmlgeojefaaW.PrintLast.one_ (i := 0) (N := some 64) #[true, true, true, false, false, false, false, false, false, false, false, false, false] h0 g0.2 hc.f2 (by decide) (fun K hK => goes_ (f := 14) (fn := Try.f14) Try.func14 (by kernel_rfl) rfl #[] (by simp [Region.wanted, g0.1]) g0.2 p0 ?_ ?_)
  · simp only [List.map_toArray, List.map_cons, List.map_nil]
    try rfl
  refine (check_Events.calls evL W.drew rfl).mono ?_
  rintro e W1 ⟨v0, rfl, hR0, hbel⟩
  have hV0 := Kd.R_V (base' := 0) hR0
  obtain ⟨A0, c9, e0⟩ := Kd.V_slice hV0
  subst e0
  have hC0 := Kd.V_reads' hV0
  refine ⟨_, rfl, ?_⟩
  have hB9 : Below W.heap.size W W1 := below_step (below_drew (Below.refl W.heap.size W)) hbel
  refine hK _ _ ⟨below_blk hB9 hb1, below_blk hB9 hg, hm.below hB9, hsm.below hB9⟩ (fun hS3 => ?_)
  clear hS2
  have hS2 := hS3
  refine YtdiadmlgeojefaaW.PrintLast.one_ (i := 3) (N := some 67) #[true, true, true, true, false, false, false, false, false, false, false, false, false] h3 g3.2 hc.f3 (by decide) (fun K hK => goes_ (f := 64) (fn := Try.f64) Try.func64 (by kernel_rfl) rfl #[.slice A0 evL.length c9, .string T.f1] (by simp [Region.wanted, g3.1]) g3.2 p3 ?_ ?_)
  · simp only [List.map_toArray, List.map_cons, List.map_nil]
    rw [act_same _ _ _ (by (try simp only [act_size]); rw [hsz]; decide)]
    rw [act_ne _ _ (by decide), act_same _ _ _ (by (try simp only [act_size]); rw [hsz]; decide)]
    try rfl
  refine (slices_Contains_string_string.calls 10 A0 c9 evL T.f1 _ W1 hC0.2.2 hC0.2.1 (inE_some T.f1)).mono ?_
  rintro e W2 ⟨rfl, hd9⟩
  refine ⟨_, rfl, ?_⟩
  rw [hin]
  have hB10 : Below W.heap.size W W2 := below_step hB9 hd9.below
  refine hK _ _ ⟨below_blk hB10 hb1, below_blk hB10 hg, hm.below hB10, hsm.below hB10⟩ (fun hS4 => ?_)
  clear hS2
  have hS2 := hS4
  refine pure_ (i := 4) (N := some 68) (v := (.bool true)) #[true, true, true, true, true, false, false, false, false, false, false, false, false] h4 g4.2 hc.f4 (fun c a w => by rw [g4.2]; exact hQ _ _ c a w) (Or.inl ⟨(by simp [Region.wanted, g4.1]), run_not4 p4 (b := false) (by rw [act_same _ _ _ (by (try simp only [act_size]); rw [hsz]; decide)])⟩) rfl ?_
  refine pure_ (i := 5) (N := some 69) (v := (.bool true)) #[true, true, true, true, true, true, false, false, false, false, false, false, false] h5 g5.2 hc.f5 (fun c a w => by rw [g5.2]; exact hQ _ _ c a w) (Or.inl ⟨(by simp [Region.wanted, g5.1]), run_move p5 (by rw [act_same _ _ _ (by (try simp only [act_size]); rw [hsz]; decide)])⟩) rfl ?_
  refine pure_ (i := 6) (N := some 70) (v := undef) #[true, true, true, true, true, true, true, false, false, false, false, false, false] h6 g6.2 hc.f6 (fun c a w => by rw [g6.2]; exact hQ _ _ c a w) (Or.inr ⟨wanted_no g6.1 (yielded_of h5 g5.2 (by rw [act_same _ _ _ (by (try simp only [act_size]); rw [hsz]; decide)]) (by (try simp only [act_size]); rw [hsz]; decide)) (by decide), rfl⟩) rfl ?_
  refine pure_ (i := 7) (N := some 71) (v := undef) #[true, true, true, true, true, true, true, true, false, false, false, false, false] h7 g7.2 hc.f7 (fun c a w => by rw [g7.2]; exact hQ _ _ c a w) (Or.inr ⟨wanted_no g7.1 (yielded_of h5 g5.2 (by rw [act_ne _ _ (by decide), act_same _ _ _ (by (try simp only [act_size]); rw [hsz]; decide)]) (by (try simp only [act_size]); rw [hsz]; decide)) (by decide), rfl⟩) rfl ?_
  refine pure_ (i := 8) (N := some 72) (v := undef) #[true, true, true, true, true, true, true, true, true, false, false, false, false] h8 g8.2 hc.f8 (fun c a w => by rw [g8.2]; exact hQ _ _ c a w) (Or.inr ⟨wanted_no g8.1 (yielded_of h5 g5.2 (by rw [act_ne _ _ (by decide), act_ne _ _ (by decide), act_same _ _ _ (by (try simp only [act_size]); rw [hsz]; decide)]) (by (try simp only [act_size]); rw [hsz]; decide)) (by decide), rfl⟩) rfl ?_
  refine pure_ (i := 9) (N := some 73) (v := undef) #[true, true, true, true, true, true, true, true, true, true, false, false, false] h9 g9.2 hc.f9 (fun c a w => by rw [g9.2]; exact hQ _ _ c a w) (Or.inr ⟨wanted_no g9.1 (yielded_of h5 g5.2 (by rw [act_ne _ _ (by decide), act_ne _ _ (by decide), act_ne _ _ (by decide), act_same _ _ _ (by (try simp only [act_size]); rw [hsz]; decide)]) (by (try simp only [act_size]); rw [hsz]; decide)) (by decide), rfl⟩) rfl ?_
  refine pure_ (i := 10) (N := some 74) (v := undef) #[true, true, true, true, true, true, true, true, true, true, true, false, false] h10 g10.2 hc.f10 (fun c a w => by rw [g10.2]; exact hQ _ _ c a w) (Or.inr ⟨wanted_no g10.1 (yielded_of h5 g5.2 (by rw [act_ne _ _ (by decide), act_ne _ _ (by decide), act_ne _ _ (by decide), act_ne _ _ (by decide), act_same _ _ _ (by (try simp only [act_size]); rw [hsz]; decide)]) (by (try simp only [act_size]); rw [hsz]; decide)) (by decide), rfl⟩) rfl ?_
  refine pure_ (i := 11) (N := some 75) (v := (.bool true)) #[true, true, true, true, true, true, true, true, true, true, true, true, false] h11 g11.2 hc.f11 (fun c a w => by rw [g11.2]; exact hQ _ _ c a w) (Or.inl ⟨(by simp [Region.wanted, g11.1]), run_pick p11 (b := true) (by rw [act_ne _ _ (by decide), act_ne _ _ (by decide), act_ne _ _ (by decide), act_ne _ _ (by decide), act_ne _ _ (by decide), act_same _ _ _ (by (try simp only [act_size]); rw [hsz]; decide)]) (by rw [if_pos rfl]; rfl)⟩) rfl ?_
  refine pure_ (i := 12) (N := some 63) (v := (.bool true)) #[true, true, true, true, true, true, true, true, true, true, true, true, true] h12 g12.2 hc.f12 (fun c a w => by rw [g12.2]; exact hQ _ _ c a w) (Or.inl ⟨(by simp [Region.wanted, g12.1]), run_assign p12 (by rw [act_same _ _ _ (by (try simp only [act_size]); rw [hsz]; decide)])⟩) rfl ?_
  refine (done_ hc.f13 ?_)
  exact hpost A0 c9 _ hB10
set_option maxHeartbeats 4000000 in
set_option maxRecDepth 100000 in
theorem heads_calls {w0 w : World} {g bm : Nat} {ks ks' : List ByteArray} {on : ByteArray} {f f' : Ft} {ok : Nat → Prop} {T : S29} {v0 : Value} (hC : CkAt w0 w g bm ks on f) (hok : ∀ q, ok q → q ≠ g ∧ q ≠ bm) (hV : VK w ok v0 T.f3) (hks : ks.length + T.f3.length < 4611686018427387904) (h : headsL ks [] f T.f3 = some (ks', f')) :
    Calls Try.prog 38 #[.pointer (some ⟨g, 0, none⟩), .agg (nc T v0).toArray] w (HeadPost w0 w g bm ks' on f') := by
  have OK := aK hok
  have HC := aK hC
  have GL := aK hC.lt
  have GM := aK hC.map.lt
  have HR := aK (show RelG g bm none w w from ⟨Nat.le_refl _, fun _ _ _ _ _ => rfl⟩)
  have VV := aK (Kd.V_bound hV)
  have HH := aK h
  have HKS := aK hks
  obtain ⟨A, c, e0⟩ := Kd.V_slice hV
  subst e0
  have HL := aK (VK_len hV)
  obtain ⟨xs, exs⟩ : ∃ l_, l_ = T.f3 := ⟨_, rfl⟩
  obtain ⟨n, en⟩ : ∃ n_, n_ = xs.length := ⟨_, rfl⟩
  rw [← exs] at VV HH HL HKS ⊢
  rw [← en] at HL HKS ⊢
  have EN := aK en
  have NL := aK (show n < 4611686018427387904 by have := HKS.out; omega)
  clear hC hok hV h en exs hks
  go_enter Try.func38, Try.ntmps38
  go_wp2_with (first
    | ((with_reducible refine gD 3 rfl ?_); go_must ((refine Mine.ev_box rfl (N := 3) rfl (.tmp 1) rfl (nc (T) ((.slice A n c))) rfl ?_; intro b0 hbn w1 hblk hbel; have GBb0 := aK (show w.heap.size ≤ b0 by have := HR.out.1; omega); replace HC := aK (HC.out.below hbel); replace HR := aK (RelG.below HR.out hbel); replace VV := aK (Kd.V_below VV.out hbel); have BXb0 := aK hblk; clear hblk hbel hbn)))
    | ((with_reducible refine gD 7 rfl ?_); go_must ((refine ev_makemap rfl (N := 7) rfl rfl ?_; intro sm hbn w1 hmp hbel; have GS := aK (show w.heap.size ≤ sm by have := HR.out.1; omega); have LTb0sm := aK (show b0 < sm by have := blk_lt BXb0.out; omega); replace HC := aK (HC.out.below hbel); replace HR := aK (RelG.below HR.out hbel); replace BXb0 := Zc hbel BXb0; replace VV := aK (Kd.V_below VV.out hbel); have HS := aK hmp; clear hmp hbel hbn)))
    | ((with_reducible refine gD 9 rfl ?_); go_must ((refine ev_cell rfl (N := 9) rfl 27 (.tmp 8) rfl ⟨b0, 3, none⟩ rfl (.slice A n c) _ ((Mine.blk_cells BXb0.out 3).trans rfl) Try.underlying27 rfl ?_))))
  go_loopg [11] (n + 1) (fun kq v11 w' => ∃ (k : Nat) (ks2 ss : List ByteArray) (f2 : Ft), v11 = .int .i64 (k : Int) ∧ Aside0 (kq + k = n + 1) ∧ Aside0 (k ≤ n) ∧ Aside0 (headsL ks2 ss f2 (xs.drop k) = some (ks', f')) ∧ Aside0 (ks2.length + (n - k) < 4611686018427387904) ∧ Aside0 (ss.length ≤ k) ∧ Aside0 (CkAt w0 w' g bm ks2 on f2) ∧ Aside0 (RelG g bm none w w') ∧ Aside0 (Mp w' sm ss) ∧ Aside0 (VK w' (fun q => ok q ∧ q < w.heap.size) (.slice A xs.length c) xs))
  case atStart => exact ⟨0, ks, [], f, rfl, ⟨rfl⟩, ⟨Nat.zero_le _⟩, HH, HKS, ⟨Nat.le_refl _⟩, HC, HR, HS, VV⟩
  case round =>
    clear HC HR HH VV HS BXb0 HKS
    obtain ⟨k, ks2, ss, f2, rfl, KQ, KN, HH, HKS, HSS, HC, HR, HS, VV⟩ := hrel
    by_cases hlt : k < n
    · have hx : k < xs.length := by have := EN.out; omega
      have hk64 : (k : Int) + 1 ≤ 9223372036854775807 := by have := HL.out; have := EN.out; omega
      have hh := HH.out
      rw [List.drop_eq_getElem_cons hx] at hh
      obtain ⟨ad, ap, v, eA, eP, hcell, hVx⟩ := VK_elem VV.out hx
      obtain ⟨x, ex⟩ : ∃ x_, x_ = xs[k] := ⟨_, rfl⟩
      rw [← ex] at hh hcell hVx
      have EA := aK eA
      have EP := aK eP
      have HCELL := aK hcell
      have VX := aK hVx
      have KSL := aK (show ks2.length < 4611686018427387904 by have := HKS.out; omega)
      have SSL := aK (show ss.length < 4611686018427387904 by have := HSS.out; have := NL.out; omega)
      obtain ⟨kq, rfl⟩ : ∃ q, gk = q + 1 := ⟨gk - 1, by have := KQ.out; omega⟩
      clear eA eP hcell hVx HH ex hx
      unfold headsL at hh
      by_cases hs : x.f1.size ≤ maxLen
      · rw [if_pos hs] at hh
        have HSZ := aK hs
        clear hs
        rcases Bool.eq_false_or_eq_true (x.f0 == 2) with ck | ck
        · rw [if_pos ck] at hh
          have CK := aK ck
          clear ck
          rcases Bool.eq_false_or_eq_true (decide (0 < (cntL ks2 x.f1 : Int))) with cz | cz
          · rw [if_pos cz] at hh
            have CZ := aK cz
            clear cz
            have HH := aK hh
            clear hh
            go_wp2_with (first
              | ((with_reducible refine gD 13 rfl ?_); go_must ((refine ev_index rfl (N := 13) rfl 27 29 (.tmp 9) (.tmp 11) rfl (ad := ad) (n := n) (c := c) (k := k) (sz := 5) (congrArg (fun A => Value.slice A n c) EA.out) rfl hlt EP.out Try.underlying27 info29s ?_)))
              | ((with_reducible refine gD 14 rfl ?_); go_must ((refine Mine.ev_load rfl (N := 14) rfl 29 (.tmp 13) rfl ap rfl (nc x v) _ HCELL.out Try.underlying29 rfl info29s ?_)))
              | ((with_reducible refine gD 6 rfl ?_); go_must ((refine ev_alloc29 rfl (N := 6) rfl rfl ?_; intro b6 hbn w1 hblk hbel; have GBb6 := aK (show w.heap.size ≤ b6 by have := HR.out.1; omega); have LTsmb6 := aK (show sm < b6 by have := HS.out.lt; omega); replace HC := aK (HC.out.below hbel); replace HR := aK (RelG.below HR.out hbel); replace HS := aK (HS.out.below hbel); replace VV := aK (Kd.V_below VV.out hbel); replace VX := aK (Kd.V_below VX.out hbel); have BXb6 := aK hblk; clear hblk hbel hbn)))
              | ((with_reducible refine gate_ (.store 29 (.tmp 6) (.tmp 14)) rfl ?_); go_must ((refine ev_store29 rfl rfl (.tmp 6) (.tmp 14) rfl (b := b6) (z := x) (v := v) rfl rfl BXb6.out (VK_one VX.out) ?_; intro w1 hblk hg hz; replace HC := aK (HC.out.grown hg (by have := GBb6.out; have := GL.out; omega) (by have := GBb6.out; have := GM.out; omega) (by have := GBb6.out; have := GL.out; have := HC.out.ge; omega)); replace HR := aK (RelG.grown HR.out hg (.inr (.inr ⟨b6, rfl, GBb6.out⟩))); replace HS := aK (HS.out.grown hg (by intro e; injection e with e; have := LTsmb6.out; omega)); replace BXb6 := aK (hblk); replace VV := aK (Kd.V_grown VV.out hg (fun q hq e => by injection e with e; have h9 : q < w.heap.size := hq.2; have := GBb6.out; omega)); replace VX := aK (Kd.V_grown VX.out hg (fun q hq e => by injection e with e; have h9 : q < w.heap.size := hq.2; have := GBb6.out; omega)); clear hblk hg hz))))
            refine heads6t (T := x) (ss := ss) (sm := sm) BXb6.out HC.out.blk HC.out.map HS.out HSZ.out CK.out CZ.out rfl rfl rfl rfl rfl rfl rfl rfl rfl rfl rfl rfl rfl rfl rfl rfl rfl rfl rfl rfl ⟨rfl, rfl⟩ ⟨rfl, rfl⟩ ⟨rfl, rfl⟩ ⟨rfl, rfl⟩ ⟨rfl, rfl⟩ ⟨rfl, rfl⟩ ⟨rfl, rfl⟩ ⟨rfl, rfl⟩ ⟨rfl, rfl⟩ ⟨rfl, rfl⟩ ⟨rfl, rfl⟩ ⟨rfl, rfl⟩ ⟨rfl, rfl⟩ ⟨rfl, rfl⟩ ⟨rfl, rfl⟩ ⟨rfl, rfl⟩ ⟨rfl, rfl⟩ ⟨rfl, rfl⟩ ⟨rfl, rfl⟩ rfl rfl rfl rfl rfl rfl rfl rfl rfl rfl rfl rfl rfl rfl rfl rfl rfl rfl rfl  rfl rfl rfl (by constructor <;> kernel_rfl) (fun _ _ _ _ _ h => h) ?_
            intro w2 hbel
            have n0 := aK (HC.out.below hbel)
            have n1 := aK (RelG.below HR.out hbel)
            have n2 := aK (HS.out.below hbel)
            have n3 := aK (below_blk hbel BXb6.out)
            have n4 := aK (Kd.V_below VV.out hbel)
            have n5 := aK (Kd.V_below VX.out hbel)
            clear HC HR HS BXb6 VV VX
            have HC := n0
            have HR := n1
            have HS := n2
            have BXb6 := n3
            have VV := n4
            have VX := n5
            clear n0 n1 n2 n3 n4 n5
            clear hbel
            simp only [Act.put, List.setIfInBounds_toArray, List.set_cons_zero, List.set_cons_succ]
            go_wp2_with (first
              | ((with_reducible refine gD 40 rfl ?_); go_must ((refine ev_load29 rfl (N := 40) rfl (.tmp 6) rfl (b := b6) rfl BXb6.out ?_)))
              | ((with_reducible refine gD 41 rfl ?_); go_must ((refine goesL_ (some 41) rfl rfl Try.func63 (by kernel_rfl) rfl #[.pointer (some ⟨g, 0, none⟩), .int .i64 14, .agg (nc x v).toArray] rfl (mpT rfl) ?_; refine (fail_calls HC.out 14 x v).mono ?_; rintro e w1 ⟨rfl, he, hk⟩; refine ⟨_, rfl, ?_⟩; replace HC := aK (he); replace HR := aK (rel_keepb HR.out hk); replace HS := aK (HS.out.keep hk (by have := GS.out; have := GL.out; omega)); replace BXb6 := Zb hk BXb6 GBb6 GL; replace VV := aK (Kd.V_keep VV.out hk (fun q hq => (OK.out q hq.1).1)); replace VX := aK (Kd.V_keep VX.out hk (fun q hq => (OK.out q hq.1).1)); clear he hk))))
            go_roundg kq
            case rel => exact ⟨k + 1, ks2, ss, _, by go_num, ⟨by have := KQ.out; omega⟩, ⟨by omega⟩, HH, ⟨by have := HKS.out; (try simp only [List.length_cons]); omega⟩, ⟨by have := HSS.out; (try simp only [List.length_cons]); omega⟩, HC, HR, HS, VV⟩
            case measure => omega
          · rw [if_neg (by rw [cz]; decide)] at hh
            have CZ := aK cz
            clear cz
            rcases Bool.eq_false_or_eq_true (anyF x.f1) with ca | ca
            · rw [if_pos ca] at hh
              have CA := aK ca
              clear ca
              have HH := aK hh
              clear hh
              go_wp2_with (first
                | ((with_reducible refine gD 13 rfl ?_); go_must ((refine ev_index rfl (N := 13) rfl 27 29 (.tmp 9) (.tmp 11) rfl (ad := ad) (n := n) (c := c) (k := k) (sz := 5) (congrArg (fun A => Value.slice A n c) EA.out) rfl hlt EP.out Try.underlying27 info29s ?_)))
                | ((with_reducible refine gD 14 rfl ?_); go_must ((refine Mine.ev_load rfl (N := 14) rfl 29 (.tmp 13) rfl ap rfl (nc x v) _ HCELL.out Try.underlying29 rfl info29s ?_)))
                | ((with_reducible refine gD 6 rfl ?_); go_must ((refine ev_alloc29 rfl (N := 6) rfl rfl ?_; intro b6 hbn w1 hblk hbel; have GBb6 := aK (show w.heap.size ≤ b6 by have := HR.out.1; omega); have LTsmb6 := aK (show sm < b6 by have := HS.out.lt; omega); replace HC := aK (HC.out.below hbel); replace HR := aK (RelG.below HR.out hbel); replace HS := aK (HS.out.below hbel); replace VV := aK (Kd.V_below VV.out hbel); replace VX := aK (Kd.V_below VX.out hbel); have BXb6 := aK hblk; clear hblk hbel hbn)))
                | ((with_reducible refine gate_ (.store 29 (.tmp 6) (.tmp 14)) rfl ?_); go_must ((refine ev_store29 rfl rfl (.tmp 6) (.tmp 14) rfl (b := b6) (z := x) (v := v) rfl rfl BXb6.out (VK_one VX.out) ?_; intro w1 hblk hg hz; replace HC := aK (HC.out.grown hg (by have := GBb6.out; have := GL.out; omega) (by have := GBb6.out; have := GM.out; omega) (by have := GBb6.out; have := GL.out; have := HC.out.ge; omega)); replace HR := aK (RelG.grown HR.out hg (.inr (.inr ⟨b6, rfl, GBb6.out⟩))); replace HS := aK (HS.out.grown hg (by intro e; injection e with e; have := LTsmb6.out; omega)); replace BXb6 := aK (hblk); replace VV := aK (Kd.V_grown VV.out hg (fun q hq e => by injection e with e; have h9 : q < w.heap.size := hq.2; have := GBb6.out; omega)); replace VX := aK (Kd.V_grown VX.out hg (fun q hq e => by injection e with e; have h9 : q < w.heap.size := hq.2; have := GBb6.out; omega)); clear hblk hg hz))))
              refine heads6f (T := x) (ss := ss) (sm := sm) BXb6.out HC.out.blk HC.out.map HS.out HSZ.out CK.out CZ.out rfl rfl rfl rfl rfl rfl rfl rfl rfl rfl rfl rfl rfl rfl rfl rfl rfl rfl rfl rfl ⟨rfl, rfl⟩ ⟨rfl, rfl⟩ ⟨rfl, rfl⟩ ⟨rfl, rfl⟩ ⟨rfl, rfl⟩ ⟨rfl, rfl⟩ ⟨rfl, rfl⟩ ⟨rfl, rfl⟩ ⟨rfl, rfl⟩ ⟨rfl, rfl⟩ ⟨rfl, rfl⟩ ⟨rfl, rfl⟩ ⟨rfl, rfl⟩ ⟨rfl, rfl⟩ ⟨rfl, rfl⟩ ⟨rfl, rfl⟩ ⟨rfl, rfl⟩ ⟨rfl, rfl⟩ ⟨rfl, rfl⟩ rfl rfl rfl rfl rfl rfl rfl rfl rfl rfl rfl rfl rfl rfl rfl rfl rfl rfl rfl  rfl rfl rfl (by constructor <;> kernel_rfl) (fun _ _ _ _ _ h => h) ?_
              intro w2 hbel
              have n0 := aK (HC.out.below hbel)
              have n1 := aK (RelG.below HR.out hbel)
              have n2 := aK (HS.out.below hbel)
              have n3 := aK (below_blk hbel BXb6.out)
              have n4 := aK (Kd.V_below VV.out hbel)
              have n5 := aK (Kd.V_below VX.out hbel)
              clear HC HR HS BXb6 VV VX
              have HC := n0
              have HR := n1
              have HS := n2
              have BXb6 := n3
              have VV := n4
              have VX := n5
              clear n0 n1 n2 n3 n4 n5
              clear hbel
              simp only [Act.put, List.setIfInBounds_toArray, List.set_cons_zero, List.set_cons_succ]
              rw [CA.out]
              go_wp2_with (first
                | ((with_reducible refine gD 40 rfl ?_); go_must ((refine ev_load29 rfl (N := 40) rfl (.tmp 6) rfl (b := b6) rfl BXb6.out ?_)))
                | ((with_reducible refine gD 41 rfl ?_); go_must ((refine goesL_ (some 41) rfl rfl Try.func63 (by kernel_rfl) rfl #[.pointer (some ⟨g, 0, none⟩), .int .i64 14, .agg (nc x v).toArray] rfl (mpT rfl) ?_; refine (fail_calls HC.out 14 x v).mono ?_; rintro e w1 ⟨rfl, he, hk⟩; refine ⟨_, rfl, ?_⟩; replace HC := aK (he); replace HR := aK (rel_keepb HR.out hk); replace HS := aK (HS.out.keep hk (by have := GS.out; have := GL.out; omega)); replace BXb6 := Zb hk BXb6 GBb6 GL; replace VV := aK (Kd.V_keep VV.out hk (fun q hq => (OK.out q hq.1).1)); replace VX := aK (Kd.V_keep VX.out hk (fun q hq => (OK.out q hq.1).1)); clear he hk))))
              go_roundg kq
              case rel => exact ⟨k + 1, ks2, ss, _, by go_num, ⟨by have := KQ.out; omega⟩, ⟨by omega⟩, HH, ⟨by have := HKS.out; (try simp only [List.length_cons]); omega⟩, ⟨by have := HSS.out; (try simp only [List.length_cons]); omega⟩, HC, HR, HS, VV⟩
              case measure => omega
            · rw [if_neg (by rw [ca]; decide)] at hh
              have CA := aK ca
              clear ca
              rcases Bool.eq_false_or_eq_true (decide (64 < (dlen (x.f1 :: ks2) : Int))) with cd | cd
              · rw [if_pos cd] at hh
                have CD := aK cd
                clear cd
                have HH := aK hh
                clear hh
                go_wp2_with (first
                  | ((with_reducible refine gD 13 rfl ?_); go_must ((refine ev_index rfl (N := 13) rfl 27 29 (.tmp 9) (.tmp 11) rfl (ad := ad) (n := n) (c := c) (k := k) (sz := 5) (congrArg (fun A => Value.slice A n c) EA.out) rfl hlt EP.out Try.underlying27 info29s ?_)))
                  | ((with_reducible refine gD 14 rfl ?_); go_must ((refine Mine.ev_load rfl (N := 14) rfl 29 (.tmp 13) rfl ap rfl (nc x v) _ HCELL.out Try.underlying29 rfl info29s ?_)))
                  | ((with_reducible refine gD 6 rfl ?_); go_must ((refine ev_alloc29 rfl (N := 6) rfl rfl ?_; intro b6 hbn w1 hblk hbel; have GBb6 := aK (show w.heap.size ≤ b6 by have := HR.out.1; omega); have LTsmb6 := aK (show sm < b6 by have := HS.out.lt; omega); replace HC := aK (HC.out.below hbel); replace HR := aK (RelG.below HR.out hbel); replace HS := aK (HS.out.below hbel); replace VV := aK (Kd.V_below VV.out hbel); replace VX := aK (Kd.V_below VX.out hbel); have BXb6 := aK hblk; clear hblk hbel hbn)))
                  | ((with_reducible refine gate_ (.store 29 (.tmp 6) (.tmp 14)) rfl ?_); go_must ((refine ev_store29 rfl rfl (.tmp 6) (.tmp 14) rfl (b := b6) (z := x) (v := v) rfl rfl BXb6.out (VK_one VX.out) ?_; intro w1 hblk hg hz; replace HC := aK (HC.out.grown hg (by have := GBb6.out; have := GL.out; omega) (by have := GBb6.out; have := GM.out; omega) (by have := GBb6.out; have := GL.out; have := HC.out.ge; omega)); replace HR := aK (RelG.grown HR.out hg (.inr (.inr ⟨b6, rfl, GBb6.out⟩))); replace HS := aK (HS.out.grown hg (by intro e; injection e with e; have := LTsmb6.out; omega)); replace BXb6 := aK (hblk); replace VV := aK (Kd.V_grown VV.out hg (fun q hq e => by injection e with e; have h9 : q < w.heap.size := hq.2; have := GBb6.out; omega)); replace VX := aK (Kd.V_grown VX.out hg (fun q hq e => by injection e with e; have h9 : q < w.heap.size := hq.2; have := GBb6.out; omega)); clear hblk hg hz))))
                refine heads6f (T := x) (ss := ss) (sm := sm) BXb6.out HC.out.blk HC.out.map HS.out HSZ.out CK.out CZ.out rfl rfl rfl rfl rfl rfl rfl rfl rfl rfl rfl rfl rfl rfl rfl rfl rfl rfl rfl rfl ⟨rfl, rfl⟩ ⟨rfl, rfl⟩ ⟨rfl, rfl⟩ ⟨rfl, rfl⟩ ⟨rfl, rfl⟩ ⟨rfl, rfl⟩ ⟨rfl, rfl⟩ ⟨rfl, rfl⟩ ⟨rfl, rfl⟩ ⟨rfl, rfl⟩ ⟨rfl, rfl⟩ ⟨rfl, rfl⟩ ⟨rfl, rfl⟩ ⟨rfl, rfl⟩ ⟨rfl, rfl⟩ ⟨rfl, rfl⟩ ⟨rfl, rfl⟩ ⟨rfl, rfl⟩ ⟨rfl, rfl⟩ rfl rfl rfl rfl rfl rfl rfl rfl rfl rfl rfl rfl rfl rfl rfl rfl rfl rfl rfl  rfl rfl rfl (by constructor <;> kernel_rfl) (fun _ _ _ _ _ h => h) ?_
                intro w2 hbel
                have n0 := aK (HC.out.below hbel)
                have n1 := aK (RelG.below HR.out hbel)
                have n2 := aK (HS.out.below hbel)
                have n3 := aK (below_blk hbel BXb6.out)
                have n4 := aK (Kd.V_below VV.out hbel)
                have n5 := aK (Kd.V_below VX.out hbel)
                clear HC HR HS BXb6 VV VX
                have HC := n0
                have HR := n1
                have HS := n2
                have BXb6 := n3
                have VV := n4
                have VX := n5
                clear n0 n1 n2 n3 n4 n5
                clear hbel
                simp only [Act.put, List.setIfInBounds_toArray, List.set_cons_zero, List.set_cons_succ]
                rw [CA.out]
                have CK2 := CK.out
                go_wp2_with (first
                  | ((with_reducible refine gD 44 rfl ?_); go_must ((refine ev_cell rfl (N := 44) rfl 3 (.tmp 43) rfl ⟨b6, 0, none⟩ rfl (.int .i64 x.f0) _ ((Mine.blk_cells BXb6.out 0).trans rfl) Try.underlying3 rfl ?_))))
                clear CK2
                refine heads9 (T := x) (ss := ss) (sm := sm) BXb6.out HC.out.blk HC.out.map HS.out HSZ.out KSL.out rfl rfl rfl rfl rfl rfl rfl rfl rfl rfl ⟨rfl, rfl⟩ ⟨rfl, rfl⟩ ⟨rfl, rfl⟩ ⟨rfl, rfl⟩ ⟨rfl, rfl⟩ ⟨rfl, rfl⟩ ⟨rfl, rfl⟩ ⟨rfl, rfl⟩ ⟨rfl, rfl⟩ rfl rfl rfl rfl rfl rfl rfl rfl rfl rfl rfl rfl rfl (by constructor <;> kernel_rfl) (fun _ _ _ _ _ h => h) ?_
                intro w2 hm2 hg2
                replace HC := aK (HC.out.put hm2 hg2); replace HR := aK (RelG.grown HR.out hg2 (.inr (.inl rfl))); replace HS := aK (HS.out.grown hg2 (by intro e; injection e with e; have := GS.out; have := GM.out; omega)); replace BXb6 := aK (grown_blk hg2 BXb6.out (by have := GBb6.out; have := GM.out; omega)); replace VV := aK (Kd.V_grown VV.out hg2 (fun q hq e => by injection e with e; exact (OK.out q hq.1).2 e)); replace VX := aK (Kd.V_grown VX.out hg2 (fun q hq e => by injection e with e; exact (OK.out q hq.1).2 e))
                clear hm2 hg2
                simp only [Act.put, List.setIfInBounds_toArray, List.set_cons_zero, List.set_cons_succ]
                have CD2 := CD.out
                obtain ⟨dl, edl⟩ : ∃ d_, d_ = dlen (x.f1 :: ks2) := ⟨_, rfl⟩
                rw [← edl] at CD2
                have EDL := aK edl
                clear edl
                go_wp2_with (first
                  | ((with_reducible refine gD 57 rfl ?_); go_must ((refine ev_cell rfl (N := 57) rfl 86 (.tmp 56) rfl ⟨g, 0, none⟩ rfl (.map (some bm)) _ ((Mine.blk_cells HC.out.blk 0).trans rfl) Try.underlying86 rfl ?_)))
                  | ((with_reducible refine gD 58 rfl ?_); go_must ((refine ev_maplen rfl (N := 58) rfl HC.out.map (.tmp 57) rfl rfl ?_; rw [← EDL.out]; go_frame)))
                  | ((with_reducible refine gD 61 rfl ?_); go_must ((refine ev_load29 rfl (N := 61) rfl (.tmp 6) rfl (b := b6) rfl BXb6.out ?_)))
                  | ((with_reducible refine gD 62 rfl ?_); go_must ((refine goesL_ (some 62) rfl rfl Try.func63 (by kernel_rfl) rfl #[.pointer (some ⟨g, 0, none⟩), .int .i64 13, .agg (nc x v).toArray] rfl (mpT rfl) ?_; refine (fail_calls HC.out 13 x v).mono ?_; rintro e w1 ⟨rfl, he, hk⟩; refine ⟨_, rfl, ?_⟩; replace HC := aK (he); replace HR := aK (rel_keepb HR.out hk); replace HS := aK (HS.out.keep hk (by have := GS.out; have := GL.out; omega)); replace BXb6 := Zb hk BXb6 GBb6 GL; replace VV := aK (Kd.V_keep VV.out hk (fun q hq => (OK.out q hq.1).1)); replace VX := aK (Kd.V_keep VX.out hk (fun q hq => (OK.out q hq.1).1)); clear he hk))))
                go_roundg kq
                case rel => exact ⟨k + 1, x.f1 :: ks2, ss, _, by go_num, ⟨by have := KQ.out; omega⟩, ⟨by omega⟩, HH, ⟨by have := HKS.out; (try simp only [List.length_cons]); omega⟩, ⟨by have := HSS.out; (try simp only [List.length_cons]); omega⟩, HC, HR, HS, VV⟩
                case measure => omega
              · rw [if_neg (by rw [cd]; decide)] at hh
                have CD := aK cd
                clear cd
                have HH := aK hh
                clear hh
                go_wp2_with (first
                  | ((with_reducible refine gD 13 rfl ?_); go_must ((refine ev_index rfl (N := 13) rfl 27 29 (.tmp 9) (.tmp 11) rfl (ad := ad) (n := n) (c := c) (k := k) (sz := 5) (congrArg (fun A => Value.slice A n c) EA.out) rfl hlt EP.out Try.underlying27 info29s ?_)))
                  | ((with_reducible refine gD 14 rfl ?_); go_must ((refine Mine.ev_load rfl (N := 14) rfl 29 (.tmp 13) rfl ap rfl (nc x v) _ HCELL.out Try.underlying29 rfl info29s ?_)))
                  | ((with_reducible refine gD 6 rfl ?_); go_must ((refine ev_alloc29 rfl (N := 6) rfl rfl ?_; intro b6 hbn w1 hblk hbel; have GBb6 := aK (show w.heap.size ≤ b6 by have := HR.out.1; omega); have LTsmb6 := aK (show sm < b6 by have := HS.out.lt; omega); replace HC := aK (HC.out.below hbel); replace HR := aK (RelG.below HR.out hbel); replace HS := aK (HS.out.below hbel); replace VV := aK (Kd.V_below VV.out hbel); replace VX := aK (Kd.V_below VX.out hbel); have BXb6 := aK hblk; clear hblk hbel hbn)))
                  | ((with_reducible refine gate_ (.store 29 (.tmp 6) (.tmp 14)) rfl ?_); go_must ((refine ev_store29 rfl rfl (.tmp 6) (.tmp 14) rfl (b := b6) (z := x) (v := v) rfl rfl BXb6.out (VK_one VX.out) ?_; intro w1 hblk hg hz; replace HC := aK (HC.out.grown hg (by have := GBb6.out; have := GL.out; omega) (by have := GBb6.out; have := GM.out; omega) (by have := GBb6.out; have := GL.out; have := HC.out.ge; omega)); replace HR := aK (RelG.grown HR.out hg (.inr (.inr ⟨b6, rfl, GBb6.out⟩))); replace HS := aK (HS.out.grown hg (by intro e; injection e with e; have := LTsmb6.out; omega)); replace BXb6 := aK (hblk); replace VV := aK (Kd.V_grown VV.out hg (fun q hq e => by injection e with e; have h9 : q < w.heap.size := hq.2; have := GBb6.out; omega)); replace VX := aK (Kd.V_grown VX.out hg (fun q hq e => by injection e with e; have h9 : q < w.heap.size := hq.2; have := GBb6.out; omega)); clear hblk hg hz))))
                refine heads6f (T := x) (ss := ss) (sm := sm) BXb6.out HC.out.blk HC.out.map HS.out HSZ.out CK.out CZ.out rfl rfl rfl rfl rfl rfl rfl rfl rfl rfl rfl rfl rfl rfl rfl rfl rfl rfl rfl rfl ⟨rfl, rfl⟩ ⟨rfl, rfl⟩ ⟨rfl, rfl⟩ ⟨rfl, rfl⟩ ⟨rfl, rfl⟩ ⟨rfl, rfl⟩ ⟨rfl, rfl⟩ ⟨rfl, rfl⟩ ⟨rfl, rfl⟩ ⟨rfl, rfl⟩ ⟨rfl, rfl⟩ ⟨rfl, rfl⟩ ⟨rfl, rfl⟩ ⟨rfl, rfl⟩ ⟨rfl, rfl⟩ ⟨rfl, rfl⟩ ⟨rfl, rfl⟩ ⟨rfl, rfl⟩ ⟨rfl, rfl⟩ rfl rfl rfl rfl rfl rfl rfl rfl rfl rfl rfl rfl rfl rfl rfl rfl rfl rfl rfl  rfl rfl rfl (by constructor <;> kernel_rfl) (fun _ _ _ _ _ h => h) ?_
                intro w2 hbel
                have n0 := aK (HC.out.below hbel)
                have n1 := aK (RelG.below HR.out hbel)
                have n2 := aK (HS.out.below hbel)
                have n3 := aK (below_blk hbel BXb6.out)
                have n4 := aK (Kd.V_below VV.out hbel)
                have n5 := aK (Kd.V_below VX.out hbel)
                clear HC HR HS BXb6 VV VX
                have HC := n0
                have HR := n1
                have HS := n2
                have BXb6 := n3
                have VV := n4
                have VX := n5
                clear n0 n1 n2 n3 n4 n5
                clear hbel
                simp only [Act.put, List.setIfInBounds_toArray, List.set_cons_zero, List.set_cons_succ]
                rw [CA.out]
                have CK2 := CK.out
                go_wp2_with (first
                  | ((with_reducible refine gD 44 rfl ?_); go_must ((refine ev_cell rfl (N := 44) rfl 3 (.tmp 43) rfl ⟨b6, 0, none⟩ rfl (.int .i64 x.f0) _ ((Mine.blk_cells BXb6.out 0).trans rfl) Try.underlying3 rfl ?_))))
                clear CK2
                refine heads9 (T := x) (ss := ss) (sm := sm) BXb6.out HC.out.blk HC.out.map HS.out HSZ.out KSL.out rfl rfl rfl rfl rfl rfl rfl rfl rfl rfl ⟨rfl, rfl⟩ ⟨rfl, rfl⟩ ⟨rfl, rfl⟩ ⟨rfl, rfl⟩ ⟨rfl, rfl⟩ ⟨rfl, rfl⟩ ⟨rfl, rfl⟩ ⟨rfl, rfl⟩ ⟨rfl, rfl⟩ rfl rfl rfl rfl rfl rfl rfl rfl rfl rfl rfl rfl rfl (by constructor <;> kernel_rfl) (fun _ _ _ _ _ h => h) ?_
                intro w2 hm2 hg2
                replace HC := aK (HC.out.put hm2 hg2); replace HR := aK (RelG.grown HR.out hg2 (.inr (.inl rfl))); replace HS := aK (HS.out.grown hg2 (by intro e; injection e with e; have := GS.out; have := GM.out; omega)); replace BXb6 := aK (grown_blk hg2 BXb6.out (by have := GBb6.out; have := GM.out; omega)); replace VV := aK (Kd.V_grown VV.out hg2 (fun q hq e => by injection e with e; exact (OK.out q hq.1).2 e)); replace VX := aK (Kd.V_grown VX.out hg2 (fun q hq e => by injection e with e; exact (OK.out q hq.1).2 e))
                clear hm2 hg2
                simp only [Act.put, List.setIfInBounds_toArray, List.set_cons_zero, List.set_cons_succ]
                have CD2 := CD.out
                obtain ⟨dl, edl⟩ : ∃ d_, d_ = dlen (x.f1 :: ks2) := ⟨_, rfl⟩
                rw [← edl] at CD2
                have EDL := aK edl
                clear edl
                go_wp2_with (first
                  | ((with_reducible refine gD 57 rfl ?_); go_must ((refine ev_cell rfl (N := 57) rfl 86 (.tmp 56) rfl ⟨g, 0, none⟩ rfl (.map (some bm)) _ ((Mine.blk_cells HC.out.blk 0).trans rfl) Try.underlying86 rfl ?_)))
                  | ((with_reducible refine gD 58 rfl ?_); go_must ((refine ev_maplen rfl (N := 58) rfl HC.out.map (.tmp 57) rfl rfl ?_; rw [← EDL.out]; go_frame))))
                go_roundg kq
                case rel => exact ⟨k + 1, x.f1 :: ks2, ss, _, by go_num, ⟨by have := KQ.out; omega⟩, ⟨by omega⟩, HH, ⟨by have := HKS.out; (try simp only [List.length_cons]); omega⟩, ⟨by have := HSS.out; (try simp only [List.length_cons]); omega⟩, HC, HR, HS, VV⟩
                case measure => omega
        · rw [if_neg (by rw [ck]; decide)] at hh
          have CK := aK ck
          clear ck
          rcases Bool.eq_false_or_eq_true (inE x.f1) with ci | ci
          · rw [if_pos ci] at hh
            have CI := aK ci
            clear ci
            rcases Bool.eq_false_or_eq_true (decide (0 < (cntL ss x.f1 : Int))) with cs | cs
            · rw [if_pos cs] at hh
              have CS := aK cs
              clear cs
              have HH := aK hh
              clear hh
              go_wp2_with (first
                | ((with_reducible refine gD 13 rfl ?_); go_must ((refine ev_index rfl (N := 13) rfl 27 29 (.tmp 9) (.tmp 11) rfl (ad := ad) (n := n) (c := c) (k := k) (sz := 5) (congrArg (fun A => Value.slice A n c) EA.out) rfl hlt EP.out Try.underlying27 info29s ?_)))
                | ((with_reducible refine gD 14 rfl ?_); go_must ((refine Mine.ev_load rfl (N := 14) rfl 29 (.tmp 13) rfl ap rfl (nc x v) _ HCELL.out Try.underlying29 rfl info29s ?_)))
                | ((with_reducible refine gD 6 rfl ?_); go_must ((refine ev_alloc29 rfl (N := 6) rfl rfl ?_; intro b6 hbn w1 hblk hbel; have GBb6 := aK (show w.heap.size ≤ b6 by have := HR.out.1; omega); have LTsmb6 := aK (show sm < b6 by have := HS.out.lt; omega); replace HC := aK (HC.out.below hbel); replace HR := aK (RelG.below HR.out hbel); replace HS := aK (HS.out.below hbel); replace VV := aK (Kd.V_below VV.out hbel); replace VX := aK (Kd.V_below VX.out hbel); have BXb6 := aK hblk; clear hblk hbel hbn)))
                | ((with_reducible refine gate_ (.store 29 (.tmp 6) (.tmp 14)) rfl ?_); go_must ((refine ev_store29 rfl rfl (.tmp 6) (.tmp 14) rfl (b := b6) (z := x) (v := v) rfl rfl BXb6.out (VK_one VX.out) ?_; intro w1 hblk hg hz; replace HC := aK (HC.out.grown hg (by have := GBb6.out; have := GL.out; omega) (by have := GBb6.out; have := GM.out; omega) (by have := GBb6.out; have := GL.out; have := HC.out.ge; omega)); replace HR := aK (RelG.grown HR.out hg (.inr (.inr ⟨b6, rfl, GBb6.out⟩))); replace HS := aK (HS.out.grown hg (by intro e; injection e with e; have := LTsmb6.out; omega)); replace BXb6 := aK (hblk); replace VV := aK (Kd.V_grown VV.out hg (fun q hq e => by injection e with e; have h9 : q < w.heap.size := hq.2; have := GBb6.out; omega)); replace VX := aK (Kd.V_grown VX.out hg (fun q hq e => by injection e with e; have h9 : q < w.heap.size := hq.2; have := GBb6.out; omega)); clear hblk hg hz))))
              refine heads6n (T := x) (ss := ss) (sm := sm) BXb6.out HC.out.blk HC.out.map HS.out HSZ.out CK.out rfl rfl rfl rfl rfl rfl rfl rfl rfl rfl rfl rfl rfl rfl rfl rfl rfl rfl rfl rfl ⟨rfl, rfl⟩ ⟨rfl, rfl⟩ ⟨rfl, rfl⟩ ⟨rfl, rfl⟩ ⟨rfl, rfl⟩ ⟨rfl, rfl⟩ ⟨rfl, rfl⟩ ⟨rfl, rfl⟩ ⟨rfl, rfl⟩ ⟨rfl, rfl⟩ ⟨rfl, rfl⟩ ⟨rfl, rfl⟩ ⟨rfl, rfl⟩ ⟨rfl, rfl⟩ ⟨rfl, rfl⟩ ⟨rfl, rfl⟩ ⟨rfl, rfl⟩ ⟨rfl, rfl⟩ ⟨rfl, rfl⟩ rfl rfl rfl rfl rfl rfl rfl rfl rfl rfl rfl rfl rfl rfl rfl rfl rfl rfl rfl  rfl rfl rfl (by constructor <;> kernel_rfl) (fun _ _ _ _ _ h => h) ?_
              intro w2 hbel
              have n0 := aK (HC.out.below hbel)
              have n1 := aK (RelG.below HR.out hbel)
              have n2 := aK (HS.out.below hbel)
              have n3 := aK (below_blk hbel BXb6.out)
              have n4 := aK (Kd.V_below VV.out hbel)
              have n5 := aK (Kd.V_below VX.out hbel)
              clear HC HR HS BXb6 VV VX
              have HC := n0
              have HR := n1
              have HS := n2
              have BXb6 := n3
              have VV := n4
              have VX := n5
              clear n0 n1 n2 n3 n4 n5
              clear hbel
              simp only [Act.put, List.setIfInBounds_toArray, List.set_cons_zero, List.set_cons_succ]
              have CK2 := CK.out
              go_wp2_with (first
                | ((with_reducible refine gD 44 rfl ?_); go_must ((refine ev_cell rfl (N := 44) rfl 3 (.tmp 43) rfl ⟨b6, 0, none⟩ rfl (.int .i64 x.f0) _ ((Mine.blk_cells BXb6.out 0).trans rfl) Try.underlying3 rfl ?_))))
              clear CK2
              refine heads12i (T := x) (ss := ss) (sm := sm) BXb6.out HC.out.blk HC.out.map HS.out HSZ.out CI.out rfl rfl rfl rfl rfl rfl rfl rfl rfl rfl rfl rfl rfl rfl ⟨rfl, rfl⟩ ⟨rfl, rfl⟩ ⟨rfl, rfl⟩ ⟨rfl, rfl⟩ ⟨rfl, rfl⟩ ⟨rfl, rfl⟩ ⟨rfl, rfl⟩ ⟨rfl, rfl⟩ ⟨rfl, rfl⟩ ⟨rfl, rfl⟩ ⟨rfl, rfl⟩ ⟨rfl, rfl⟩ ⟨rfl, rfl⟩ rfl rfl rfl rfl rfl rfl rfl rfl rfl rfl rfl rfl rfl  rfl rfl rfl (by constructor <;> kernel_rfl) (fun _ _ _ _ _ h => h) ?_
              intro A0 c9 w2 hbel
              have n0 := aK (HC.out.below hbel)
              have n1 := aK (RelG.below HR.out hbel)
              have n2 := aK (HS.out.below hbel)
              have n3 := aK (below_blk hbel BXb6.out)
              have n4 := aK (Kd.V_below VV.out hbel)
              have n5 := aK (Kd.V_below VX.out hbel)
              clear HC HR HS BXb6 VV VX
              have HC := n0
              have HR := n1
              have HS := n2
              have BXb6 := n3
              have VV := n4
              have VX := n5
              clear n0 n1 n2 n3 n4 n5
              clear hbel
              simp only [Act.put, List.setIfInBounds_toArray, List.set_cons_zero, List.set_cons_succ]
              rw [CS.out]
              go_wp2_with (first
                | ((with_reducible refine gD 77 rfl ?_); go_must ((refine ev_load29 rfl (N := 77) rfl (.tmp 6) rfl (b := b6) rfl BXb6.out ?_)))
                | ((with_reducible refine gD 78 rfl ?_); go_must ((refine goesL_ (some 78) rfl rfl Try.func63 (by kernel_rfl) rfl #[.pointer (some ⟨g, 0, none⟩), .int .i64 14, .agg (nc x v).toArray] rfl (mpT rfl) ?_; refine (fail_calls HC.out 14 x v).mono ?_; rintro e w1 ⟨rfl, he, hk⟩; refine ⟨_, rfl, ?_⟩; replace HC := aK (he); replace HR := aK (rel_keepb HR.out hk); replace HS := aK (HS.out.keep hk (by have := GS.out; have := GL.out; omega)); replace BXb6 := Zb hk BXb6 GBb6 GL; replace VV := aK (Kd.V_keep VV.out hk (fun q hq => (OK.out q hq.1).1)); replace VX := aK (Kd.V_keep VX.out hk (fun q hq => (OK.out q hq.1).1)); clear he hk))))
              go_roundg kq
              case rel => exact ⟨k + 1, ks2, ss, _, by go_num, ⟨by have := KQ.out; omega⟩, ⟨by omega⟩, HH, ⟨by have := HKS.out; (try simp only [List.length_cons]); omega⟩, ⟨by have := HSS.out; (try simp only [List.length_cons]); omega⟩, HC, HR, HS, VV⟩
              case measure => omega
            · rw [if_neg (by rw [cs]; decide)] at hh
              have CS := aK cs
              clear cs
              have HH := aK hh
              clear hh
              go_wp2_with (first
                | ((with_reducible refine gD 13 rfl ?_); go_must ((refine ev_index rfl (N := 13) rfl 27 29 (.tmp 9) (.tmp 11) rfl (ad := ad) (n := n) (c := c) (k := k) (sz := 5) (congrArg (fun A => Value.slice A n c) EA.out) rfl hlt EP.out Try.underlying27 info29s ?_)))
                | ((with_reducible refine gD 14 rfl ?_); go_must ((refine Mine.ev_load rfl (N := 14) rfl 29 (.tmp 13) rfl ap rfl (nc x v) _ HCELL.out Try.underlying29 rfl info29s ?_)))
                | ((with_reducible refine gD 6 rfl ?_); go_must ((refine ev_alloc29 rfl (N := 6) rfl rfl ?_; intro b6 hbn w1 hblk hbel; have GBb6 := aK (show w.heap.size ≤ b6 by have := HR.out.1; omega); have LTsmb6 := aK (show sm < b6 by have := HS.out.lt; omega); replace HC := aK (HC.out.below hbel); replace HR := aK (RelG.below HR.out hbel); replace HS := aK (HS.out.below hbel); replace VV := aK (Kd.V_below VV.out hbel); replace VX := aK (Kd.V_below VX.out hbel); have BXb6 := aK hblk; clear hblk hbel hbn)))
                | ((with_reducible refine gate_ (.store 29 (.tmp 6) (.tmp 14)) rfl ?_); go_must ((refine ev_store29 rfl rfl (.tmp 6) (.tmp 14) rfl (b := b6) (z := x) (v := v) rfl rfl BXb6.out (VK_one VX.out) ?_; intro w1 hblk hg hz; replace HC := aK (HC.out.grown hg (by have := GBb6.out; have := GL.out; omega) (by have := GBb6.out; have := GM.out; omega) (by have := GBb6.out; have := GL.out; have := HC.out.ge; omega)); replace HR := aK (RelG.grown HR.out hg (.inr (.inr ⟨b6, rfl, GBb6.out⟩))); replace HS := aK (HS.out.grown hg (by intro e; injection e with e; have := LTsmb6.out; omega)); replace BXb6 := aK (hblk); replace VV := aK (Kd.V_grown VV.out hg (fun q hq e => by injection e with e; have h9 : q < w.heap.size := hq.2; have := GBb6.out; omega)); replace VX := aK (Kd.V_grown VX.out hg (fun q hq e => by injection e with e; have h9 : q < w.heap.size := hq.2; have := GBb6.out; omega)); clear hblk hg hz))))
              refine heads6n (T := x) (ss := ss) (sm := sm) BXb6.out HC.out.blk HC.out.map HS.out HSZ.out CK.out rfl rfl rfl rfl rfl rfl rfl rfl rfl rfl rfl rfl rfl rfl rfl rfl rfl rfl rfl rfl ⟨rfl, rfl⟩ ⟨rfl, rfl⟩ ⟨rfl, rfl⟩ ⟨rfl, rfl⟩ ⟨rfl, rfl⟩ ⟨rfl, rfl⟩ ⟨rfl, rfl⟩ ⟨rfl, rfl⟩ ⟨rfl, rfl⟩ ⟨rfl, rfl⟩ ⟨rfl, rfl⟩ ⟨rfl, rfl⟩ ⟨rfl, rfl⟩ ⟨rfl, rfl⟩ ⟨rfl, rfl⟩ ⟨rfl, rfl⟩ ⟨rfl, rfl⟩ ⟨rfl, rfl⟩ ⟨rfl, rfl⟩ rfl rfl rfl rfl rfl rfl rfl rfl rfl rfl rfl rfl rfl rfl rfl rfl rfl rfl rfl  rfl rfl rfl (by constructor <;> kernel_rfl) (fun _ _ _ _ _ h => h) ?_
              intro w2 hbel
              have n0 := aK (HC.out.below hbel)
              have n1 := aK (RelG.below HR.out hbel)
              have n2 := aK (HS.out.below hbel)
              have n3 := aK (below_blk hbel BXb6.out)
              have n4 := aK (Kd.V_below VV.out hbel)
              have n5 := aK (Kd.V_below VX.out hbel)
              clear HC HR HS BXb6 VV VX
              have HC := n0
              have HR := n1
              have HS := n2
              have BXb6 := n3
              have VV := n4
              have VX := n5
              clear n0 n1 n2 n3 n4 n5
              clear hbel
              simp only [Act.put, List.setIfInBounds_toArray, List.set_cons_zero, List.set_cons_succ]
              have CK2 := CK.out
              go_wp2_with (first
                | ((with_reducible refine gD 44 rfl ?_); go_must ((refine ev_cell rfl (N := 44) rfl 3 (.tmp 43) rfl ⟨b6, 0, none⟩ rfl (.int .i64 x.f0) _ ((Mine.blk_cells BXb6.out 0).trans rfl) Try.underlying3 rfl ?_))))
              clear CK2
              refine heads12i (T := x) (ss := ss) (sm := sm) BXb6.out HC.out.blk HC.out.map HS.out HSZ.out CI.out rfl rfl rfl rfl rfl rfl rfl rfl rfl rfl rfl rfl rfl rfl ⟨rfl, rfl⟩ ⟨rfl, rfl⟩ ⟨rfl, rfl⟩ ⟨rfl, rfl⟩ ⟨rfl, rfl⟩ ⟨rfl, rfl⟩ ⟨rfl, rfl⟩ ⟨rfl, rfl⟩ ⟨rfl, rfl⟩ ⟨rfl, rfl⟩ ⟨rfl, rfl⟩ ⟨rfl, rfl⟩ ⟨rfl, rfl⟩ rfl rfl rfl rfl rfl rfl rfl rfl rfl rfl rfl rfl rfl  rfl rfl rfl (by constructor <;> kernel_rfl) (fun _ _ _ _ _ h => h) ?_
              intro A0 c9 w2 hbel
              have n0 := aK (HC.out.below hbel)
              have n1 := aK (RelG.below HR.out hbel)
              have n2 := aK (HS.out.below hbel)
              have n3 := aK (below_blk hbel BXb6.out)
              have n4 := aK (Kd.V_below VV.out hbel)
              have n5 := aK (Kd.V_below VX.out hbel)
              clear HC HR HS BXb6 VV VX
              have HC := n0
              have HR := n1
              have HS := n2
              have BXb6 := n3
              have VV := n4
              have VX := n5
              clear n0 n1 n2 n3 n4 n5
              clear hbel
              simp only [Act.put, List.setIfInBounds_toArray, List.set_cons_zero, List.set_cons_succ]
              rw [CS.out]
              have ADD1 := aK (show -9223372036854775808 ≤ (cntL ss x.f1 : Int) + 1 by omega)
              have ADD2 := aK (show (cntL ss x.f1 : Int) + 1 ≤ 9223372036854775807 by have := cntL_le ss x.f1; have := SSL.out; omega)
              go_wp2_with (first
                | ((with_reducible refine gD 17 rfl ?_); go_must ((refine ev_cell rfl (N := 17) rfl 9 (.tmp 16) rfl ⟨b6, 1, none⟩ rfl (.string x.f1) _ ((Mine.blk_cells BXb6.out 1).trans rfl) Try.underlying9 rfl ?_)))
                | ((with_reducible refine gD 18 rfl ?_); go_must ((refine ev_yield rfl (N := 18) rfl (run_look HS.out HSZ.out rfl rfl rfl) ?_)))
                | ((with_reducible refine gD 19 rfl ?_); go_must ((refine ev_yield rfl (N := 19) rfl (run_add3 rfl rfl rfl rfl ADD1.out ADD2.out _) ?_)))
                | ((with_reducible refine gate_ (.mapUpdate 86 (.tmp 15) (.tmp 17) (.tmp 19)) rfl ?_); go_must ((refine ev_mapput rfl rfl HS.out SSL.out HSZ.out (.tmp 15) (.tmp 17) (.tmp 19) rfl rfl rfl rfl ?_; intro w2 hm2 hg2; replace HC := aK (HC.out.grown hg2 (by have := GS.out; have := GL.out; omega) (by have := GS.out; have := GM.out; omega) (by have := GS.out; have := GL.out; have := HC.out.ge; omega)); replace HR := aK (RelG.grown HR.out hg2 (.inr (.inr ⟨sm, rfl, GS.out⟩))); replace HS := aK (hm2); replace BXb6 := Zh hg2 BXb6 LTsmb6; replace VV := aK (Kd.V_grown VV.out hg2 (fun q hq e => by injection e with e; have h9 : q < w.heap.size := hq.2; have := GS.out; omega)); replace VX := aK (Kd.V_grown VX.out hg2 (fun q hq e => by injection e with e; have h9 : q < w.heap.size := hq.2; have := GS.out; omega)); clear hm2 hg2))))
              go_roundg kq
              case rel => exact ⟨k + 1, ks2, x.f1 :: ss, _, by go_num, ⟨by have := KQ.out; omega⟩, ⟨by omega⟩, HH, ⟨by have := HKS.out; (try simp only [List.length_cons]); omega⟩, ⟨by have := HSS.out; (try simp only [List.length_cons]); omega⟩, HC, HR, HS, VV⟩
              case measure => omega
          · rw [if_neg (by rw [ci]; decide)] at hh
            have CI := aK ci
            clear ci
            have HH := aK hh
            clear hh
            go_wp2_with (first
              | ((with_reducible refine gD 13 rfl ?_); go_must ((refine ev_index rfl (N := 13) rfl 27 29 (.tmp 9) (.tmp 11) rfl (ad := ad) (n := n) (c := c) (k := k) (sz := 5) (congrArg (fun A => Value.slice A n c) EA.out) rfl hlt EP.out Try.underlying27 info29s ?_)))
              | ((with_reducible refine gD 14 rfl ?_); go_must ((refine Mine.ev_load rfl (N := 14) rfl 29 (.tmp 13) rfl ap rfl (nc x v) _ HCELL.out Try.underlying29 rfl info29s ?_)))
              | ((with_reducible refine gD 6 rfl ?_); go_must ((refine ev_alloc29 rfl (N := 6) rfl rfl ?_; intro b6 hbn w1 hblk hbel; have GBb6 := aK (show w.heap.size ≤ b6 by have := HR.out.1; omega); have LTsmb6 := aK (show sm < b6 by have := HS.out.lt; omega); replace HC := aK (HC.out.below hbel); replace HR := aK (RelG.below HR.out hbel); replace HS := aK (HS.out.below hbel); replace VV := aK (Kd.V_below VV.out hbel); replace VX := aK (Kd.V_below VX.out hbel); have BXb6 := aK hblk; clear hblk hbel hbn)))
              | ((with_reducible refine gate_ (.store 29 (.tmp 6) (.tmp 14)) rfl ?_); go_must ((refine ev_store29 rfl rfl (.tmp 6) (.tmp 14) rfl (b := b6) (z := x) (v := v) rfl rfl BXb6.out (VK_one VX.out) ?_; intro w1 hblk hg hz; replace HC := aK (HC.out.grown hg (by have := GBb6.out; have := GL.out; omega) (by have := GBb6.out; have := GM.out; omega) (by have := GBb6.out; have := GL.out; have := HC.out.ge; omega)); replace HR := aK (RelG.grown HR.out hg (.inr (.inr ⟨b6, rfl, GBb6.out⟩))); replace HS := aK (HS.out.grown hg (by intro e; injection e with e; have := LTsmb6.out; omega)); replace BXb6 := aK (hblk); replace VV := aK (Kd.V_grown VV.out hg (fun q hq e => by injection e with e; have h9 : q < w.heap.size := hq.2; have := GBb6.out; omega)); replace VX := aK (Kd.V_grown VX.out hg (fun q hq e => by injection e with e; have h9 : q < w.heap.size := hq.2; have := GBb6.out; omega)); clear hblk hg hz))))
            refine heads6n (T := x) (ss := ss) (sm := sm) BXb6.out HC.out.blk HC.out.map HS.out HSZ.out CK.out rfl rfl rfl rfl rfl rfl rfl rfl rfl rfl rfl rfl rfl rfl rfl rfl rfl rfl rfl rfl ⟨rfl, rfl⟩ ⟨rfl, rfl⟩ ⟨rfl, rfl⟩ ⟨rfl, rfl⟩ ⟨rfl, rfl⟩ ⟨rfl, rfl⟩ ⟨rfl, rfl⟩ ⟨rfl, rfl⟩ ⟨rfl, rfl⟩ ⟨rfl, rfl⟩ ⟨rfl, rfl⟩ ⟨rfl, rfl⟩ ⟨rfl, rfl⟩ ⟨rfl, rfl⟩ ⟨rfl, rfl⟩ ⟨rfl, rfl⟩ ⟨rfl, rfl⟩ ⟨rfl, rfl⟩ ⟨rfl, rfl⟩ rfl rfl rfl rfl rfl rfl rfl rfl rfl rfl rfl rfl rfl rfl rfl rfl rfl rfl rfl  rfl rfl rfl (by constructor <;> kernel_rfl) (fun _ _ _ _ _ h => h) ?_
            intro w2 hbel
            have n0 := aK (HC.out.below hbel)
            have n1 := aK (RelG.below HR.out hbel)
            have n2 := aK (HS.out.below hbel)
            have n3 := aK (below_blk hbel BXb6.out)
            have n4 := aK (Kd.V_below VV.out hbel)
            have n5 := aK (Kd.V_below VX.out hbel)
            clear HC HR HS BXb6 VV VX
            have HC := n0
            have HR := n1
            have HS := n2
            have BXb6 := n3
            have VV := n4
            have VX := n5
            clear n0 n1 n2 n3 n4 n5
            clear hbel
            simp only [Act.put, List.setIfInBounds_toArray, List.set_cons_zero, List.set_cons_succ]
            have CK2 := CK.out
            go_wp2_with (first
              | ((with_reducible refine gD 44 rfl ?_); go_must ((refine ev_cell rfl (N := 44) rfl 3 (.tmp 43) rfl ⟨b6, 0, none⟩ rfl (.int .i64 x.f0) _ ((Mine.blk_cells BXb6.out 0).trans rfl) Try.underlying3 rfl ?_))))
            clear CK2
            refine heads12o (T := x) (ss := ss) (sm := sm) BXb6.out HC.out.blk HC.out.map HS.out HSZ.out CI.out rfl rfl rfl rfl rfl rfl rfl rfl rfl rfl rfl rfl rfl rfl ⟨rfl, rfl⟩ ⟨rfl, rfl⟩ ⟨rfl, rfl⟩ ⟨rfl, rfl⟩ ⟨rfl, rfl⟩ ⟨rfl, rfl⟩ ⟨rfl, rfl⟩ ⟨rfl, rfl⟩ ⟨rfl, rfl⟩ ⟨rfl, rfl⟩ ⟨rfl, rfl⟩ ⟨rfl, rfl⟩ ⟨rfl, rfl⟩ rfl rfl rfl rfl rfl rfl rfl rfl rfl rfl rfl rfl rfl  rfl rfl rfl (by constructor <;> kernel_rfl) (fun _ _ _ _ _ h => h) ?_
            intro A0 c9 w2 hbel
            have n0 := aK (HC.out.below hbel)
            have n1 := aK (RelG.below HR.out hbel)
            have n2 := aK (HS.out.below hbel)
            have n3 := aK (below_blk hbel BXb6.out)
            have n4 := aK (Kd.V_below VV.out hbel)
            have n5 := aK (Kd.V_below VX.out hbel)
            clear HC HR HS BXb6 VV VX
            have HC := n0
            have HR := n1
            have HS := n2
            have BXb6 := n3
            have VV := n4
            have VX := n5
            clear n0 n1 n2 n3 n4 n5
            clear hbel
            simp only [Act.put, List.setIfInBounds_toArray, List.set_cons_zero, List.set_cons_succ]
            go_wp2_with (first
              | ((with_reducible refine gD 77 rfl ?_); go_must ((refine ev_load29 rfl (N := 77) rfl (.tmp 6) rfl (b := b6) rfl BXb6.out ?_)))
              | ((with_reducible refine gD 78 rfl ?_); go_must ((refine goesL_ (some 78) rfl rfl Try.func63 (by kernel_rfl) rfl #[.pointer (some ⟨g, 0, none⟩), .int .i64 14, .agg (nc x v).toArray] rfl (mpT rfl) ?_; refine (fail_calls HC.out 14 x v).mono ?_; rintro e w1 ⟨rfl, he, hk⟩; refine ⟨_, rfl, ?_⟩; replace HC := aK (he); replace HR := aK (rel_keepb HR.out hk); replace HS := aK (HS.out.keep hk (by have := GS.out; have := GL.out; omega)); replace BXb6 := Zb hk BXb6 GBb6 GL; replace VV := aK (Kd.V_keep VV.out hk (fun q hq => (OK.out q hq.1).1)); replace VX := aK (Kd.V_keep VX.out hk (fun q hq => (OK.out q hq.1).1)); clear he hk))))
            go_roundg kq
            case rel => exact ⟨k + 1, ks2, ss, _, by go_num, ⟨by have := KQ.out; omega⟩, ⟨by omega⟩, HH, ⟨by have := HKS.out; (try simp only [List.length_cons]); omega⟩, ⟨by have := HSS.out; (try simp only [List.length_cons]); omega⟩, HC, HR, HS, VV⟩
            case measure => omega
      · rw [if_neg hs] at hh
        cases hh
    · have hk : k = n := by have := KN.out; omega
      subst hk
      have hh := HH.out
      rw [EN.out, List.drop_length] at hh
      obtain ⟨rfl, rfl⟩ : ks2 = ks' ∧ f2 = f' := by simpa [headsL] using hh
      clear hh
      go_wp2
      first | go_end0 | ((try simp only [Exit.inBlock, Exit.then]); refine bodyPost_ret (results_none rfl _ _ _) rfl ?_)
      exact ⟨rfl, HC.out, HR.out⟩
end Go.Proofs.Ytdiadmlgeojefaa.A
namespace Go.Proofs.Ytdiadmlgeojefaa.A
open Go.RowKit Go.Proofs.YtdiadmlgeojefaaW.PrintWords Go.Proofs.YtdiadmlgeojefaaW.PrintLast Go.Proofs.YtdiadmlgeojefaaW.PrintMore
set_option linter.unusedVariables false
set_option linter.unusedSimpArgs false
def onsL (ks : List ByteArray) (m : Nat) : Ft → List S29 → Option Ft
  | f, [] => some f
  | f, k :: r => if (k.f0 == 3) = true then (eachC (nodeC ks k.f1 m) f k.f3).bind fun f2 => onsL ks m f2 r else onsL ks m f r
def checkF (m : Nat) (T : S29) : Option Ft := (headsL [] [] (0, 0) T.f3).bind fun r => onsL r.1 m r.2 T.f3
def CheckPost (w : World) (f : Ft) (e : Ending) (w' : World) : Prop := e = .returned (.agg (fc f.1 f.2).toArray) ∧ Below w.heap.size w w'
theorem CkAt.on {w0 W W1 : World} {g bm : Nat} {ks : List ByteArray} {on on' : ByteArray} {f : Ft} (h : CkAt w0 W g bm ks on f) (hg : W.grownBy W1 (some g)) (hb : W1.heap[g]? = some (.cells ((ckc bm on f).take 1 ++ [Value.string on'] ++ (ckc bm on f).drop (1 + 1)).toArray 88 (0, 0))) : CkAt w0 W1 g bm ks on' f :=
  ⟨hb, h.map.grown hg (by simpa using h.ne), h.ge, h.geM, pw_below_grown h.bel _ h.bel.size hg (by intro k hk; injection hk with hk; have := h.ge; omega)⟩
theorem V_rel_ {W W1 : World} {g b : Nat} {ok : Nat → Prop} {v : Value} {xs : List S29} (h : VK W ok v xs) (hr : RelG g b none W W1) (hok : ∀ q, ok q → q ≠ g ∧ q ≠ b) : VK W1 ok v xs := by
  obtain ⟨A, c, rfl, hl, hF⟩ := h
  exact ⟨A, c, rfl, hl, Kd.F_step hF (fun q hq hlt => hr.2 q hlt (hok q hq).1 (hok q hq).2 (by simp))⟩
theorem heads_n {w W : World} {g bm n : Nat} {ks' : List ByteArray} {on : ByteArray} {f f' : Ft} {T : S29} {A : Option Addr} {c : Nat} (hn : n = T.f3.length) (hC : CkAt w W g bm [] on f) (hV : VK W (fun q => q < w.heap.size) (.slice A T.f3.length c) T.f3) (hks : ([] : List ByteArray).length + T.f3.length < 4611686018427387904) (h : headsL [] [] f T.f3 = some (ks', f')) :
    Calls Try.prog 38 #[.pointer (some ⟨g, 0, none⟩), .agg (nc T (.slice A n c)).toArray] W (HeadPost w W g bm ks' on f') := by
  subst hn
  exact heads_calls hC (fun q hq => by have := hC.ge; have := hC.geM; exact ⟨by omega, by omega⟩) hV hks h
set_option maxHeartbeats 4000000 in
set_option maxRecDepth 100000 in
theorem check_calls {w : World} {m : Nat} {f' : Ft} {ok : Nat → Prop} {T : S29} {v0 : Value} (hV : VK w ok v0 T.f3) (hks : T.f3.length < 4611686018427387904) (h : checkF m T = some f') :
    Calls Try.prog 18 #[.agg (nc T v0).toArray] w (CheckPost w f') := by
  have HB := aK (Below.refl w.heap.size w)
  have VV := aK (Kd.V_mono (Kd.V_bound hV) (ok' := fun q => q < w.heap.size) (fun q hq => hq.2))
  have HKS := aK (show ([] : List ByteArray).length + T.f3.length < 4611686018427387904 by simpa using hks)
  obtain ⟨⟨ks, f1⟩, h1, h2⟩ := Option.bind_eq_some_iff.1 h
  simp only at h2
  have H1 := aK h1
  have H2 := aK h2
  obtain ⟨A, c, e0⟩ := Kd.V_slice hV
  subst e0
  have HL := aK (VK_len hV)
  obtain ⟨n, en⟩ : ∃ n_, n_ = T.f3.length := ⟨_, rfl⟩
  have EN := aK en
  rw [← en] at HL ⊢
  clear hV hks h h1 h2 en
  go_enter Try.func18, Try.ntmps18
  go_wp2_with (first
    | ((with_reducible refine gD 1 rfl ?_); go_must ((refine Mine.ev_box rfl (N := 1) rfl (.tmp 0) rfl (nc (T) ((.slice A n c))) rfl ?_; intro b0 hbn w1 hblk hbel; have GBb0 := aK (show w.heap.size ≤ b0 by have := HB.out.size; omega); replace HB := aK (below_step HB.out hbel); replace VV := aK (Kd.V_below VV.out hbel); have BXb0 := aK hblk; clear hblk hbel hbn)))
    | ((with_reducible refine gD 2 rfl ?_); go_must ((refine ev_alloc32 rfl (N := 2) rfl rfl ?_; intro b2 hbn w1 hblk hbel; have GBb2 := aK (show w.heap.size ≤ b2 by have := HB.out.size; omega); have LTb0b2 := aK (show b0 < b2 by have := blk_lt BXb0.out; omega); replace HB := aK (below_step HB.out hbel); replace BXb0 := Zc hbel BXb0; replace VV := aK (Kd.V_below VV.out hbel); have BXb2 := aK hblk; clear hblk hbel hbn)))
    | ((with_reducible refine gD 6 rfl ?_); go_must ((refine ev_makemap rfl (N := 6) rfl rfl ?_; intro bm hbn w1 hmp hbel; have GBM := aK (show w.heap.size ≤ bm by have := HB.out.size; omega); have NMb0 := aK (show b0 ≠ bm by have := blk_lt BXb0.out; omega); have NMb2 := aK (show b2 ≠ bm by have := blk_lt BXb2.out; omega); replace HB := aK (below_step HB.out hbel); replace BXb0 := Zc hbel BXb0; replace BXb2 := Zc hbel BXb2; replace VV := aK (Kd.V_below VV.out hbel); have HM := aK hmp; clear hmp hbel hbn)))
    | ((with_reducible refine gD 8 rfl ?_); go_must ((refine Mine.ev_box rfl (N := 8) rfl (.tmp 7) rfl (ckc bm ⟨#[]⟩ (0, 0)) rfl ?_; intro g hbn w1 hblk hbel; have GBG := aK (show w.heap.size ≤ g by have := HB.out.size; omega); have NGb0 := aK (show b0 ≠ g by have := blk_lt BXb0.out; omega); have NGb2 := aK (show b2 ≠ g by have := blk_lt BXb2.out; omega); replace HB := aK (below_step HB.out hbel); replace HM := aK (HM.out.below hbel); replace BXb0 := Zc hbel BXb0; replace BXb2 := Zc hbel BXb2; replace VV := aK (Kd.V_below VV.out hbel); have HC := aK (show CkAt w w1 g bm [] ⟨#[]⟩ (0, 0) from ⟨hblk, HM.out, GBG.out, GBM.out, HB.out⟩); clear hblk hbel hbn HB HM)))
    | ((with_reducible refine gD 10 rfl ?_); go_must ((refine ev_load29 rfl (N := 10) rfl (.tmp 1) rfl (b := b0) rfl BXb0.out ?_)))
    | ((with_reducible refine gD 11 rfl ?_); go_must ((refine goesL_ (some 11) rfl rfl Try.func38 (by kernel_rfl) rfl #[.pointer (some ⟨g, 0, none⟩), .agg (nc T (.slice A n c)).toArray] rfl (mpT rfl) ?_; refine (heads_n EN.out HC.out VV.out HKS.out H1.out).mono ?_; rintro e w1 ⟨rfl, he, hr⟩; refine ⟨_, rfl, ?_⟩; replace HC := aK (he); replace BXb0 := aK ((hr.2 b0 (blk_lt BXb0.out) (by have := NGb0.out; omega) (by have := NMb0.out; omega) (by simp)).trans BXb0.out); replace BXb2 := aK ((hr.2 b2 (blk_lt BXb2.out) (by have := NGb2.out; omega) (by have := NMb2.out; omega) (by simp)).trans BXb2.out); replace VV := aK (V_rel_ VV.out hr (fun q hq => by have h9 : q < w.heap.size := hq; have := HC.out.ge; have := HC.out.geM; exact ⟨by omega, by omega⟩)); clear he hr)))
    | ((with_reducible refine gD 13 rfl ?_); go_must ((refine ev_cell rfl (N := 13) rfl 27 (.tmp 12) rfl ⟨b0, 3, none⟩ rfl (.slice A n c) _ ((Mine.blk_cells BXb0.out 3).trans rfl) Try.underlying27 rfl ?_))))
  go_loopg [15] (n + 1) (fun kq v15 w' => ∃ (k : Nat) (f2 : Ft) (on : ByteArray), v15 = .int .i64 (k : Int) ∧ Aside0 (kq + k = n + 1) ∧ Aside0 (k ≤ n) ∧ Aside0 (onsL ks m f2 (T.f3.drop k) = some f') ∧ Aside0 (CkAt w w' g bm ks on f2) ∧ Aside0 (VK w' (fun q => q < w.heap.size) (.slice A T.f3.length c) T.f3) ∧ Aside0 (w'.heap[b2]? = some (.cells (fc 0 0).toArray 32 (0, 0))))
  case atStart => exact ⟨0, f1, _, rfl, ⟨rfl⟩, ⟨Nat.zero_le _⟩, H2, HC, VV, BXb2⟩
  case round =>
    clear HC VV BXb2 BXb0 H2
    obtain ⟨k, f2, on, rfl, KQ, KN, HH, HC, VV, BXb2⟩ := hrel
    by_cases hlt : k < n
    · have hx : k < T.f3.length := by have := EN.out; omega
      have hk64 : (k : Int) + 1 ≤ 9223372036854775807 := by have := HL.out; have := EN.out; omega
      have hh := HH.out
      rw [List.drop_eq_getElem_cons hx] at hh
      unfold onsL at hh
      obtain ⟨ad, ap, v, eA, eP, hcell, hVx⟩ := VK_elem VV.out hx
      obtain ⟨x, ex⟩ : ∃ x_, x_ = T.f3[k] := ⟨_, rfl⟩
      rw [← ex] at hh hcell hVx
      obtain ⟨A2, c2, ev⟩ := Kd.V_slice hVx
      subst ev
      have EA := aK eA
      have EP := aK eP
      have HCELL := aK hcell
      have VX := aK hVx
      obtain ⟨kq, rfl⟩ : ∃ q, gk = q + 1 := ⟨gk - 1, by have := KQ.out; omega⟩
      clear eA eP hcell hVx HH ex hx
      rcases Bool.eq_false_or_eq_true (x.f0 == 3) with c3 | c3
      · rw [if_pos c3] at hh
        obtain ⟨f3, h3, h4⟩ := Option.bind_eq_some_iff.1 hh
        have H3 := aK h3
        have H4 := aK h4
        clear hh h3 h4
        have OKW := aK (show ∀ q, q < w.heap.size → q ≠ g ∧ q ≠ bm from fun q hq => by have := HC.out.ge; have := HC.out.geM; exact ⟨by omega, by omega⟩)
        go_wp2_with (first
          | ((with_reducible refine gD 17 rfl ?_); go_must ((refine ev_index rfl (N := 17) rfl 27 29 (.tmp 13) (.tmp 15) rfl (ad := ad) (n := n) (c := c) (k := k) (sz := 5) (congrArg (fun A => Value.slice A n c) EA.out) rfl hlt EP.out Try.underlying27 info29s ?_)))
          | ((with_reducible refine gD 18 rfl ?_); go_must ((refine Mine.ev_load rfl (N := 18) rfl 29 (.tmp 17) rfl ap rfl (nc x (.slice A2 x.f3.length c2)) _ HCELL.out Try.underlying29 rfl info29s ?_)))
          | ((with_reducible refine gD 5 rfl ?_); go_must ((refine ev_alloc29 rfl (N := 5) rfl rfl ?_; intro b5 hbn w1 hblk hbel; have GBb5 := aK (show w.heap.size ≤ b5 by have := HC.out.bel.size; omega); have LTb2b5 := aK (show b2 < b5 by have := blk_lt BXb2.out; omega); have NGb5 := aK (show b5 ≠ g by have := HC.out.lt; omega); have NMb5 := aK (show b5 ≠ bm by have := HC.out.map.lt; omega); replace HC := aK (HC.out.below hbel); replace BXb2 := Zc hbel BXb2; replace VV := aK (Kd.V_below VV.out hbel); replace VX := aK (Kd.V_below VX.out hbel); have BXb5 := aK hblk; clear hblk hbel hbn)))
          | ((with_reducible refine gate_ (.store 29 (.tmp 5) (.tmp 18)) rfl ?_); go_must ((refine ev_store29 rfl rfl (.tmp 5) (.tmp 18) rfl (b := b5) (z := x) (v := (.slice A2 x.f3.length c2)) rfl rfl BXb5.out rfl ?_; intro w1 hblk hg hz; replace HC := aK (HC.out.grown hg (by have := NGb5.out; omega) (by have := NMb5.out; omega) GBb5.out); replace BXb2 := Zg hg BXb2 LTb2b5; replace BXb5 := aK (hblk); replace VV := aK (Kd.V_grown VV.out hg (fun q hq e => by injection e with e; have h9 : q < w.heap.size := hq; have := GBb5.out; omega)); replace VX := aK (Kd.V_grown VX.out hg (fun q hq e => by injection e with e; have h9 : q < w.heap.size := hq; have := GBb5.out; omega)); clear hblk hg hz)))
          | ((with_reducible refine gD 20 rfl ?_); go_must ((refine ev_cell rfl (N := 20) rfl 3 (.tmp 19) rfl ⟨b5, 0, none⟩ rfl (.int .i64 x.f0) _ ((Mine.blk_cells BXb5.out 0).trans rfl) Try.underlying3 rfl ?_)))
          | ((with_reducible refine gD 24 rfl ?_); go_must ((refine ev_cell rfl (N := 24) rfl 9 (.tmp 23) rfl ⟨b5, 1, none⟩ rfl (.string x.f1) _ ((Mine.blk_cells BXb5.out 1).trans rfl) Try.underlying9 rfl ?_)))
          | ((with_reducible refine gate_ (.store 9 (.tmp 26) (.tmp 24)) rfl ?_); go_must ((refine Mine.ev_store rfl rfl 9 (.tmp 26) (.tmp 24) rfl (.string x.f1) [.string x.f1] rfl rfl rfl HC.out.blk (by simp [ckc]) (by kernel_rfl) (by simp [Value.oneCell']) ?_; intro w1 hblk hg hz; replace HC := aK (HC.out.on hg hblk); replace BXb2 := aK (grown_blk hg BXb2.out (by have := NGb2.out; omega)); replace BXb5 := aK (grown_blk hg BXb5.out (by have := NGb5.out; omega)); replace VV := aK (Kd.V_grown VV.out hg (fun q hq e => by injection e with e; have h9 : q < w.heap.size := hq; have := HC.out.ge; omega)); replace VX := aK (Kd.V_grown VX.out hg (fun q hq e => by injection e with e; have h9 : q < w.heap.size := hq; have := HC.out.ge; omega)); clear hblk hg hz)))
          | ((with_reducible refine gD 29 rfl ?_); go_must ((refine ev_cell rfl (N := 29) rfl 27 (.tmp 28) rfl ⟨b5, 3, none⟩ rfl (.slice A2 x.f3.length c2) _ ((Mine.blk_cells BXb5.out 3).trans rfl) Try.underlying27 rfl ?_)))
          | ((with_reducible refine gD 30 rfl ?_); go_must ((refine goesL_ (some 30) rfl rfl Try.func39 (by kernel_rfl) rfl #[.pointer (some ⟨g, 0, none⟩), .slice A2 x.f3.length c2] rfl (mpT rfl) ?_; refine ((each_shows (nodes_sh ks x.f1 m)) HC.out OKW.out VX.out H3.out).mono ?_; rintro e w1 ⟨rfl, he, hk⟩; refine ⟨_, rfl, ?_⟩; replace HC := aK (he); replace BXb2 := aK (keep_blk hk BXb2.out (by have := NGb2.out; omega)); replace BXb5 := aK (keep_blk hk BXb5.out (by have := NGb5.out; omega)); replace VV := aK (Kd.V_keep VV.out hk (fun q hq => by have h9 : q < w.heap.size := hq; have := HC.out.ge; omega)); replace VX := aK (Kd.V_keep VX.out hk (fun q hq => by have h9 : q < w.heap.size := hq; have := HC.out.ge; omega)); clear he hk))))
        go_roundg kq
        case rel => exact ⟨k + 1, f3, _, by go_num, ⟨by have := KQ.out; omega⟩, ⟨by omega⟩, H4, HC, VV, BXb2⟩
        case measure => omega
      · rw [if_neg (by rw [c3]; decide)] at hh
        have H4 := aK hh
        clear hh
        go_wp2_with (first
          | ((with_reducible refine gD 17 rfl ?_); go_must ((refine ev_index rfl (N := 17) rfl 27 29 (.tmp 13) (.tmp 15) rfl (ad := ad) (n := n) (c := c) (k := k) (sz := 5) (congrArg (fun A => Value.slice A n c) EA.out) rfl hlt EP.out Try.underlying27 info29s ?_)))
          | ((with_reducible refine gD 18 rfl ?_); go_must ((refine Mine.ev_load rfl (N := 18) rfl 29 (.tmp 17) rfl ap rfl (nc x (.slice A2 x.f3.length c2)) _ HCELL.out Try.underlying29 rfl info29s ?_)))
          | ((with_reducible refine gD 5 rfl ?_); go_must ((refine ev_alloc29 rfl (N := 5) rfl rfl ?_; intro b5 hbn w1 hblk hbel; have GBb5 := aK (show w.heap.size ≤ b5 by have := HC.out.bel.size; omega); have LTb2b5 := aK (show b2 < b5 by have := blk_lt BXb2.out; omega); have NGb5 := aK (show b5 ≠ g by have := HC.out.lt; omega); have NMb5 := aK (show b5 ≠ bm by have := HC.out.map.lt; omega); replace HC := aK (HC.out.below hbel); replace BXb2 := Zc hbel BXb2; replace VV := aK (Kd.V_below VV.out hbel); replace VX := aK (Kd.V_below VX.out hbel); have BXb5 := aK hblk; clear hblk hbel hbn)))
          | ((with_reducible refine gate_ (.store 29 (.tmp 5) (.tmp 18)) rfl ?_); go_must ((refine ev_store29 rfl rfl (.tmp 5) (.tmp 18) rfl (b := b5) (z := x) (v := (.slice A2 x.f3.length c2)) rfl rfl BXb5.out rfl ?_; intro w1 hblk hg hz; replace HC := aK (HC.out.grown hg (by have := NGb5.out; omega) (by have := NMb5.out; omega) GBb5.out); replace BXb2 := Zg hg BXb2 LTb2b5; replace BXb5 := aK (hblk); replace VV := aK (Kd.V_grown VV.out hg (fun q hq e => by injection e with e; have h9 : q < w.heap.size := hq; have := GBb5.out; omega)); replace VX := aK (Kd.V_grown VX.out hg (fun q hq e => by injection e with e; have h9 : q < w.heap.size := hq; have := GBb5.out; omega)); clear hblk hg hz)))
          | ((with_reducible refine gD 20 rfl ?_); go_must ((refine ev_cell rfl (N := 20) rfl 3 (.tmp 19) rfl ⟨b5, 0, none⟩ rfl (.int .i64 x.f0) _ ((Mine.blk_cells BXb5.out 0).trans rfl) Try.underlying3 rfl ?_))))
        go_roundg kq
        case rel => exact ⟨k + 1, f2, _, by go_num, ⟨by have := KQ.out; omega⟩, ⟨by omega⟩, H4, HC, VV, BXb2⟩
        case measure => omega
    · have hk : k = n := by have := KN.out; omega
      subst hk
      have hh := HH.out
      rw [EN.out, List.drop_length] at hh
      obtain rfl : f2 = f' := by simpa [onsL] using hh
      clear hh
      have HB := aK HC.out.bel
      go_wp2_with (first
        | ((with_reducible refine gD 35 rfl ?_); go_must ((refine ev_yield rfl (N := 35) rfl (run_load32 (b := g) (j := 2) rfl rfl HC.out.blk rfl) ?_)))
        | ((with_reducible refine gate_ (.store 32 (.tmp 2) (.tmp 35)) rfl ?_); go_must ((refine ev_store32 rfl rfl (.tmp 2) (.tmp 35) rfl (b := b2) (e := f2.1) (f := f2.2) rfl rfl BXb2.out ?_; intro w1 hblk hg hz; replace HB := aK (pw_below_grown HB.out _ HB.out.size hg (by intro k hk; injection hk with hk; have := GBb2.out; omega)); replace BXb2 := aK (hblk); clear hblk hg hz))))
      refine bodyPost_ret (results_cell_row rfl _ _ b2 32 (fc f2.1 f2.2).toArray _ _ rfl BXb2.out Try.underlying32 rfl info32s) rfl ?_
      exact ⟨rfl, HB.out⟩
end Go.Proofs.Ytdiadmlgeojefaa.A
namespace Go.Proofs.Ytdiadmlgeojefaa.A
open Go.RowKit Go.Proofs.YtdiadmlgeojefaaW.PrintWords Go.Proofs.YtdiadmlgeojefaaW.PrintLast Go.Proofs.YtdiadmlgeojefaaW.PrintMore
attribute [local go_sem] max2_int min2_int max_two min_two max_three min_three max_four min_four   -- for this text's walks alone
set_option linter.unusedVariables false
set_option linter.unusedSimpArgs false
def podestaref15_Known.f (k : Nat) (a0 : ByteArray) (a1 : ByteArray) : Option (Bool) := (podestaref01_Field.f k a1).bind fun bt488 => (if a0.toList = ([112, 97, 99, 107, 101, 116] : List UInt8) then (if bt488.2 = true then (some true) else (if a1.toList = ([117, 110, 105, 116] : List UInt8) then (some true) else (if a1.toList = ([112, 111, 114, 116] : List UInt8) then (some true) else (if a0.toList = ([114, 101, 109, 111, 118, 101, 100] : List UInt8) then (some (a1.toList == ([117, 110, 105, 116] : List UInt8))) else (some false))))) else (if a0.toList = ([114, 101, 109, 111, 118, 101, 100] : List UInt8) then (some (a1.toList == ([117, 110, 105, 116] : List UInt8))) else (some false)))
theorem podestaref15_Known.mono : ∀ a0 a1 k, LeO (podestaref15_Known.f k a0 a1) (podestaref15_Known.f (k + 1) a0 a1) := by
  intro a0 a1 k
  unfold podestaref15_Known.f
  repeat' first
      | (with_reducible exact podestaref01_Field.mono _ _)
      | (with_reducible exact LeO.refl _)
      | (with_reducible exact LeO.none _)
      | (with_reducible refine LeO.ite ?_ ?_)
      | (with_reducible refine LeO.bind ?_ (fun _ => ?_))
      | exact podestaref01_Field.mono _ _
      | exact LeO.none _
      | refine LeO.ite ?_ ?_
      | refine LeO.bind ?_ (fun _ => ?_)
set_option maxHeartbeats 8000000 in
set_option maxRecDepth 100000 in
theorem podestaref15_Known.calls (k : Nat) (a0 : ByteArray) (a1 : ByteArray) (r : Bool) (w : World) (h : podestaref15_Known.f k a0 a1 = some r) :
    Calls Try.prog 16 #[.string a0, .string a1] w fun e w' => e = .returned (.bool r) ∧ Below w.heap.size w w' := by
  have HB := Aside0.mk (Below.refl w.heap.size w)
  have H : ((podestaref01_Field.f k a1).bind fun bt488 => (if a0.toList = ([112, 97, 99, 107, 101, 116] : List UInt8) then (if bt488.2 = true then (some true) else (if a1.toList = ([117, 110, 105, 116] : List UInt8) then (some true) else (if a1.toList = ([112, 111, 114, 116] : List UInt8) then (some true) else (if a0.toList = ([114, 101, 109, 111, 118, 101, 100] : List UInt8) then (some (a1.toList == ([117, 110, 105, 116] : List UInt8))) else (some false))))) else (if a0.toList = ([114, 101, 109, 111, 118, 101, 100] : List UInt8) then (some (a1.toList == ([117, 110, 105, 116] : List UInt8))) else (some false)))) = some r := h
  clear h
  replace H := Option.bind_eq_some_iff.mp H
  obtain ⟨⟨t488, t489⟩, A30, H⟩ := H
  replace H : (if a0.toList = ([112, 97, 99, 107, 101, 116] : List UInt8) then (if t489 = true then (some true) else (if a1.toList = ([117, 110, 105, 116] : List UInt8) then (some true) else (if a1.toList = ([112, 111, 114, 116] : List UInt8) then (some true) else (if a0.toList = ([114, 101, 109, 111, 118, 101, 100] : List UInt8) then (some (a1.toList == ([117, 110, 105, 116] : List UInt8))) else (some false))))) else (if a0.toList = ([114, 101, 109, 111, 118, 101, 100] : List UInt8) then (some (a1.toList == ([117, 110, 105, 116] : List UInt8))) else (some false))) = some r := H
  have A3 := Aside0.mk A30
  clear A30
  by_cases c4 : a0.toList = ([112, 97, 99, 107, 101, 116] : List UInt8)
  · rw [if_pos c4] at H
    have c4b0 : (a0.toList == ([112, 97, 99, 107, 101, 116] : List UInt8)) = true := beq_iff_eq.mpr c4
    have c4b1 : (a0.toList != ([112, 97, 99, 107, 101, 116] : List UInt8)) = false := bne_eq_false_iff_eq.mpr c4
    clear c4
    by_cases c5 : t489 = true
    · subst c5
      have H1 : (some true) = some r := by rw [if_pos rfl] at H; exact H
      clear H
      have H := H1
      clear H1
      obtain rfl := Option.some.inj H
      go_enter Try.func16, Try.ntmps16
      go_wp2_with (first | ((with_reducible refine gate_callee (f := 30) rfl ?_); refine goesL_ (some 9) rfl rfl Try.func30 (by kernel_rfl) rfl #[.string a1] rfl (by (try simp only [List.map_toArray, List.map_cons, List.map_nil]); first | done | rfl | (simp only [List.length_drop, List.length_take]; rfl)) ?_; (with_reducible refine (podestaref01_Field.calls k a1 t488 true _ A3.out).mono ?_); rintro e w6 ⟨rfl, hb⟩; refine ⟨_, rfl, ?_⟩; have n0_ := Aside0.mk (below_step (by repeat (first | (with_reducible first | exact HB.out | apply below_alloc | apply pw_below_drewN | apply below_drew1) | exact HB.out)) hb); clear HB; have HB := n0_; clear n0_; (try clear hb); (try clear hb2); (try clear hk); (try clear hi)))
      go_ret
      exact ⟨by first | rfl | (simp [errW_none, errW_some] <;> rfl) | (simp [*, errW_none, errW_some] <;> rfl), by repeat (first | (with_reducible first | exact HB.out | apply below_alloc | apply pw_below_drewN | apply below_drew1) | exact HB.out)⟩
    · replace c5 := Bool.eq_false_iff.mpr c5
      subst c5
      have H1 : (if a1.toList = ([117, 110, 105, 116] : List UInt8) then (some true) else (if a1.toList = ([112, 111, 114, 116] : List UInt8) then (some true) else (if a0.toList = ([114, 101, 109, 111, 118, 101, 100] : List UInt8) then (some (a1.toList == ([117, 110, 105, 116] : List UInt8))) else (some false)))) = some r := by rw [if_neg (show ¬ (false = true) by decide)] at H; exact H
      clear H
      have H := H1
      clear H1
      by_cases c7 : a1.toList = ([117, 110, 105, 116] : List UInt8)
      · rw [if_pos c7] at H
        have c7b0 : (a1.toList == ([117, 110, 105, 116] : List UInt8)) = true := beq_iff_eq.mpr c7
        have c7b1 : (a1.toList != ([117, 110, 105, 116] : List UInt8)) = false := bne_eq_false_iff_eq.mpr c7
        clear c7
        obtain rfl := Option.some.inj H
        go_enter Try.func16, Try.ntmps16
        go_wp2_with (first | ((with_reducible refine gate_callee (f := 30) rfl ?_); refine goesL_ (some 9) rfl rfl Try.func30 (by kernel_rfl) rfl #[.string a1] rfl (by (try simp only [List.map_toArray, List.map_cons, List.map_nil]); first | done | rfl | (simp only [List.length_drop, List.length_take]; rfl)) ?_; (with_reducible refine (podestaref01_Field.calls k a1 t488 false _ A3.out).mono ?_); rintro e w8 ⟨rfl, hb⟩; refine ⟨_, rfl, ?_⟩; have n0_ := Aside0.mk (below_step (by repeat (first | (with_reducible first | exact HB.out | apply below_alloc | apply pw_below_drewN | apply below_drew1) | exact HB.out)) hb); clear HB; have HB := n0_; clear n0_; (try clear hb); (try clear hb2); (try clear hk); (try clear hi)))
        go_ret
        exact ⟨by first | rfl | (simp [errW_none, errW_some] <;> rfl) | (simp [*, errW_none, errW_some] <;> rfl), by repeat (first | (with_reducible first | exact HB.out | apply below_alloc | apply pw_below_drewN | apply below_drew1) | exact HB.out)⟩
      · rw [if_neg c7] at H
        have c7b0 : (a1.toList == ([117, 110, 105, 116] : List UInt8)) = false := beq_eq_false_iff_ne.mpr c7
        have c7b1 : (a1.toList != ([117, 110, 105, 116] : List UInt8)) = true := bne_iff_ne.mpr c7
        by_cases c9 : a1.toList = ([112, 111, 114, 116] : List UInt8)
        · rw [if_pos c9] at H
          have c9b0 : (a1.toList == ([112, 111, 114, 116] : List UInt8)) = true := beq_iff_eq.mpr c9
          have c9b1 : (a1.toList != ([112, 111, 114, 116] : List UInt8)) = false := bne_eq_false_iff_eq.mpr c9
          clear c9
          obtain rfl := Option.some.inj H
          go_enter Try.func16, Try.ntmps16
          go_wp2_with (first | ((with_reducible refine gate_callee (f := 30) rfl ?_); refine goesL_ (some 9) rfl rfl Try.func30 (by kernel_rfl) rfl #[.string a1] rfl (by (try simp only [List.map_toArray, List.map_cons, List.map_nil]); first | done | rfl | (simp only [List.length_drop, List.length_take]; rfl)) ?_; (with_reducible refine (podestaref01_Field.calls k a1 t488 false _ A3.out).mono ?_); rintro e w10 ⟨rfl, hb⟩; refine ⟨_, rfl, ?_⟩; have n0_ := Aside0.mk (below_step (by repeat (first | (with_reducible first | exact HB.out | apply below_alloc | apply pw_below_drewN | apply below_drew1) | exact HB.out)) hb); clear HB; have HB := n0_; clear n0_; (try clear hb); (try clear hb2); (try clear hk); (try clear hi)))
          go_ret
          exact ⟨by first | rfl | (simp [errW_none, errW_some] <;> rfl) | (simp [*, errW_none, errW_some] <;> rfl), by repeat (first | (with_reducible first | exact HB.out | apply below_alloc | apply pw_below_drewN | apply below_drew1) | exact HB.out)⟩
        · rw [if_neg c9] at H
          have c9b0 : (a1.toList == ([112, 111, 114, 116] : List UInt8)) = false := beq_eq_false_iff_ne.mpr c9
          have c9b1 : (a1.toList != ([112, 111, 114, 116] : List UInt8)) = true := bne_iff_ne.mpr c9
          by_cases c11 : a0.toList = ([114, 101, 109, 111, 118, 101, 100] : List UInt8)
          · rw [if_pos c11] at H
            have c11b0 : (a0.toList == ([114, 101, 109, 111, 118, 101, 100] : List UInt8)) = true := beq_iff_eq.mpr c11
            have c11b1 : (a0.toList != ([114, 101, 109, 111, 118, 101, 100] : List UInt8)) = false := bne_eq_false_iff_eq.mpr c11
            clear c11
            obtain rfl := Option.some.inj H
            go_enter Try.func16, Try.ntmps16
            go_wp2_with (first | ((with_reducible refine gate_callee (f := 30) rfl ?_); refine goesL_ (some 9) rfl rfl Try.func30 (by kernel_rfl) rfl #[.string a1] rfl (by (try simp only [List.map_toArray, List.map_cons, List.map_nil]); first | done | rfl | (simp only [List.length_drop, List.length_take]; rfl)) ?_; (with_reducible refine (podestaref01_Field.calls k a1 t488 false _ A3.out).mono ?_); rintro e w12 ⟨rfl, hb⟩; refine ⟨_, rfl, ?_⟩; have n0_ := Aside0.mk (below_step (by repeat (first | (with_reducible first | exact HB.out | apply below_alloc | apply pw_below_drewN | apply below_drew1) | exact HB.out)) hb); clear HB; have HB := n0_; clear n0_; (try clear hb); (try clear hb2); (try clear hk); (try clear hi)))
            go_ret
            exact ⟨by first | rfl | (simp [errW_none, errW_some] <;> rfl) | (simp [*, errW_none, errW_some] <;> rfl), by repeat (first | (with_reducible first | exact HB.out | apply below_alloc | apply pw_below_drewN | apply below_drew1) | exact HB.out)⟩
          · rw [if_neg c11] at H
            have c11b0 : (a0.toList == ([114, 101, 109, 111, 118, 101, 100] : List UInt8)) = false := beq_eq_false_iff_ne.mpr c11
            have c11b1 : (a0.toList != ([114, 101, 109, 111, 118, 101, 100] : List UInt8)) = true := bne_iff_ne.mpr c11
            obtain rfl := Option.some.inj H
            go_enter Try.func16, Try.ntmps16
            go_wp2_with (first | ((with_reducible refine gate_callee (f := 30) rfl ?_); refine goesL_ (some 9) rfl rfl Try.func30 (by kernel_rfl) rfl #[.string a1] rfl (by (try simp only [List.map_toArray, List.map_cons, List.map_nil]); first | done | rfl | (simp only [List.length_drop, List.length_take]; rfl)) ?_; (with_reducible refine (podestaref01_Field.calls k a1 t488 false _ A3.out).mono ?_); rintro e w13 ⟨rfl, hb⟩; refine ⟨_, rfl, ?_⟩; have n0_ := Aside0.mk (below_step (by repeat (first | (with_reducible first | exact HB.out | apply below_alloc | apply pw_below_drewN | apply below_drew1) | exact HB.out)) hb); clear HB; have HB := n0_; clear n0_; (try clear hb); (try clear hb2); (try clear hk); (try clear hi)))
            go_ret
            exact ⟨by first | rfl | (simp [errW_none, errW_some] <;> rfl) | (simp [*, errW_none, errW_some] <;> rfl), by repeat (first | (with_reducible first | exact HB.out | apply below_alloc | apply pw_below_drewN | apply below_drew1) | exact HB.out)⟩
  · rw [if_neg c4] at H
    have c4b0 : (a0.toList == ([112, 97, 99, 107, 101, 116] : List UInt8)) = false := beq_eq_false_iff_ne.mpr c4
    have c4b1 : (a0.toList != ([112, 97, 99, 107, 101, 116] : List UInt8)) = true := bne_iff_ne.mpr c4
    by_cases c14 : a0.toList = ([114, 101, 109, 111, 118, 101, 100] : List UInt8)
    · rw [if_pos c14] at H
      have c14b0 : (a0.toList == ([114, 101, 109, 111, 118, 101, 100] : List UInt8)) = true := beq_iff_eq.mpr c14
      have c14b1 : (a0.toList != ([114, 101, 109, 111, 118, 101, 100] : List UInt8)) = false := bne_eq_false_iff_eq.mpr c14
      clear c14
      obtain rfl := Option.some.inj H
      go_enter Try.func16, Try.ntmps16
      go_wp2_with (first | ((with_reducible refine gate_callee (f := 30) rfl ?_); refine goesL_ (some 9) rfl rfl Try.func30 (by kernel_rfl) rfl #[.string a1] rfl (by (try simp only [List.map_toArray, List.map_cons, List.map_nil]); first | done | rfl | (simp only [List.length_drop, List.length_take]; rfl)) ?_; (with_reducible refine (podestaref01_Field.calls k a1 t488 t489 _ A3.out).mono ?_); rintro e w15 ⟨rfl, hb⟩; refine ⟨_, rfl, ?_⟩; have n0_ := Aside0.mk (below_step (by repeat (first | (with_reducible first | exact HB.out | apply below_alloc | apply pw_below_drewN | apply below_drew1) | exact HB.out)) hb); clear HB; have HB := n0_; clear n0_; (try clear hb); (try clear hb2); (try clear hk); (try clear hi)))
      go_ret
      exact ⟨by first | rfl | (simp [errW_none, errW_some] <;> rfl) | (simp [*, errW_none, errW_some] <;> rfl), by repeat (first | (with_reducible first | exact HB.out | apply below_alloc | apply pw_below_drewN | apply below_drew1) | exact HB.out)⟩
    · rw [if_neg c14] at H
      have c14b0 : (a0.toList == ([114, 101, 109, 111, 118, 101, 100] : List UInt8)) = false := beq_eq_false_iff_ne.mpr c14
      have c14b1 : (a0.toList != ([114, 101, 109, 111, 118, 101, 100] : List UInt8)) = true := bne_iff_ne.mpr c14
      obtain rfl := Option.some.inj H
      go_enter Try.func16, Try.ntmps16
      go_wp2_with (first | ((with_reducible refine gate_callee (f := 30) rfl ?_); refine goesL_ (some 9) rfl rfl Try.func30 (by kernel_rfl) rfl #[.string a1] rfl (by (try simp only [List.map_toArray, List.map_cons, List.map_nil]); first | done | rfl | (simp only [List.length_drop, List.length_take]; rfl)) ?_; (with_reducible refine (podestaref01_Field.calls k a1 t488 t489 _ A3.out).mono ?_); rintro e w16 ⟨rfl, hb⟩; refine ⟨_, rfl, ?_⟩; have n0_ := Aside0.mk (below_step (by repeat (first | (with_reducible first | exact HB.out | apply below_alloc | apply pw_below_drewN | apply below_drew1) | exact HB.out)) hb); clear HB; have HB := n0_; clear n0_; (try clear hb); (try clear hb2); (try clear hk); (try clear hi)))
      go_ret
      exact ⟨by first | rfl | (simp [errW_none, errW_some] <;> rfl) | (simp [*, errW_none, errW_some] <;> rfl), by repeat (first | (with_reducible first | exact HB.out | apply below_alloc | apply pw_below_drewN | apply below_drew1) | exact HB.out)⟩
end Go.Proofs.Ytdiadmlgeojefaa.A
namespace Go.Proofs.Ytdiadmlgeojefaa.A
open Go.RowKit Go.Proofs.YtdiadmlgeojefaaW.PrintWords Go.Proofs.YtdiadmlgeojefaaW.PrintLast Go.Proofs.YtdiadmlgeojefaaW.PrintMore
set_option linter.unusedVariables false
set_option linter.unusedSimpArgs false
def pairOf (n : Int) : Int × Bool := (max n 0, decide (n ≥ 0))
theorem fieldF_eq (name : ByteArray) : fieldF name = pairOf (idxF (eqN name) fldL 0) := rfl
theorem fld_step {k : Nat} {name : ByteArray} {i : Int} {nm : S65} {rest : List S65} (h0 : 0 ≤ i) (h1 : i < 12) (hn : podestaref01_Name.f i = some nm.f0) (h : podestaref01_Field.l0 k name (i + 1) = some (pairOf (idxF (eqN name) rest (i + 1)))) :
    podestaref01_Field.l0 (k + 1) name i = some (pairOf (idxF (eqN name) (nm :: rest) i)) := by
  have hw : wrap64 (i + 1) = i + 1 := IntWalk.wrap64_in _ ⟨by omega, by omega⟩
  simp only [podestaref01_Field.l0, if_pos h1, hn, Option.bind_some, hw, idxF, eqN, beq_iff_eq]
  split
  · simp only [pairOf, Option.some.injEq, Prod.mk.injEq]
    constructor
    · omega
    · simp; omega
  · exact h
theorem refField (name : ByteArray) : podestaref01_Field.f 13 name = some (fieldF name) := by
  unfold podestaref01_Field.f
  rw [fieldF_eq]
  refine fld_step (k := 12) (i := 0) (nm := ⟨⟨#[105, 110]⟩, 16⟩) (by decide) (by decide) (by kernel_rfl) ?_
  refine fld_step (k := 11) (i := 1) (nm := ⟨⟨#[101, 115, 114, 99]⟩, 48⟩) (by decide) (by decide) (by kernel_rfl) ?_
  refine fld_step (k := 10) (i := 2) (nm := ⟨⟨#[101, 100, 115, 116]⟩, 48⟩) (by decide) (by decide) (by kernel_rfl) ?_
  refine fld_step (k := 9) (i := 3) (nm := ⟨⟨#[101, 116, 121, 112, 101]⟩, 16⟩) (by decide) (by decide) (by kernel_rfl) ?_
  refine fld_step (k := 8) (i := 4) (nm := ⟨⟨#[118, 108, 97, 110]⟩, 12⟩) (by decide) (by decide) (by kernel_rfl) ?_
  refine fld_step (k := 7) (i := 5) (nm := ⟨⟨#[112, 99, 112]⟩, 4⟩) (by decide) (by decide) (by kernel_rfl) ?_
  refine fld_step (k := 6) (i := 6) (nm := ⟨⟨#[115, 114, 99]⟩, 32⟩) (by decide) (by decide) (by kernel_rfl) ?_
  refine fld_step (k := 5) (i := 7) (nm := ⟨⟨#[100, 115, 116]⟩, 32⟩) (by decide) (by decide) (by kernel_rfl) ?_
  refine fld_step (k := 4) (i := 8) (nm := ⟨⟨#[112, 114, 111, 116, 111]⟩, 8⟩) (by decide) (by decide) (by kernel_rfl) ?_
  refine fld_step (k := 3) (i := 9) (nm := ⟨⟨#[116, 111, 115]⟩, 8⟩) (by decide) (by decide) (by kernel_rfl) ?_
  refine fld_step (k := 2) (i := 10) (nm := ⟨⟨#[115, 112, 111, 114, 116]⟩, 12⟩) (by decide) (by decide) (by kernel_rfl) ?_
  refine fld_step (k := 1) (i := 11) (nm := ⟨⟨#[100, 112, 111, 114, 116]⟩, 12⟩) (by decide) (by decide) (by kernel_rfl) ?_
  rfl
theorem refKnown (on name : ByteArray) : podestaref15_Known.f 13 on name = some (knownF on name) := by
  unfold podestaref15_Known.f knownF
  rw [refField]
  simp only [Option.bind_some, beq_iff_eq]
  by_cases h1 : on.toList = [112, 97, 99, 107, 101, 116]
  · simp only [if_pos h1]
    cases (fieldF name).2 <;> simp
    have h2 : ¬ on.toList = [114, 101, 109, 111, 118, 101, 100] := by rw [h1]; decide
    simp only [if_neg h2]
    by_cases a : name.toList = [117, 110, 105, 116] <;> by_cases b : name.toList = [112, 111, 114, 116] <;> simp [a, b]
  · simp only [if_neg h1]
    split <;> rfl
def txt1 : ByteArray := ⟨#[111, 110, 32, 116, 105, 99, 107, 32, 123, 32, 120, 32, 61, 32, 49, 59, 32, 125]⟩
theorem txt1_ok : ∃ T, parse_ 1000 100 txt1 = some (T, 0, 0) ∧ checkF 100 T = some (14, 10) ∧ T.f3.length < 4611686018427387904 := ⟨nd 1 tk0 0 [nd 3 (tk [116, 105, 99, 107]) 0 [nd 4 (tk [120]) 0 [nd 18 tk0 1 [] 14] 10] 0] 0, by kernel_rfl, by kernel_rfl, by decide⟩
end Go.Proofs.Ytdiadmlgeojefaa.A
namespace Go.Proofs.Ytdiadmlgeojefaa.A
open Go.RowKit Go.Proofs.YtdiadmlgeojefaaW.PrintWords Go.Proofs.YtdiadmlgeojefaaW.PrintLast Go.Proofs.YtdiadmlgeojefaaW.PrintMore
set_option linter.unusedVariables false
set_option linter.unusedSimpArgs false
set_option maxHeartbeats 4000000 in
set_option maxRecDepth 100000 in
theorem answers17 (w : World) : Calls Try.prog 13 #[] w fun e w' => e = .returned (.bool true) ∧ Below w.heap.size w w' := by
  have HB := aK (Below.refl w.heap.size w)
  obtain ⟨T, h1, h2, h3⟩ := txt1_ok
  have H1 := aK h1
  have H2 := aK h2
  have H3 := aK h3
  have HKN := aK (show knownF ⟨#[112, 97, 99, 107, 101, 116]⟩ ⟨#[118, 108, 97, 110]⟩ = true by kernel_rfl)
  clear h1 h2 h3
  go_enter Try.func13, Try.ntmps13
  go_wp2_with (first
    | ((with_reducible refine gD 5 rfl ?_); go_must ((refine goesL_ (some 5) rfl rfl Try.func17 (by kernel_rfl) rfl #[.string ⟨#[111, 110, 32, 116, 105, 99, 107, 32, 123, 32, 120, 32, 61, 32, 49, 59, 32, 125]⟩] rfl (mpT rfl) ?_; refine (parse_calls (by decide) txt1 T 0 0 _ H1.out).mono ?_; rintro e w1 ⟨v, rfl, hv, hbel⟩; refine ⟨_, rfl, ?_⟩; obtain ⟨N, eN⟩ : ∃ n_, n_ = w1.heap.size := ⟨_, rfl⟩; have hv2 := Kd.V_mono (Kd.V_bound hv) (ok' := fun q => q < N) (fun q hq => by rw [eN]; exact hq.2); replace HB := aK (below_step HB.out hbel); have VT := aK hv2; have NN := aK (Nat.le_of_eq eN); clear hv hv2 hbel eN)))
    | ((with_reducible refine gD 1 rfl ?_); go_must ((refine ev_alloc29 rfl (N := 1) rfl rfl ?_; intro b1 hbn w1 hblk hbel; have GNb1 := aK (show N ≤ b1 by have := NN.out; omega); have GPb1 := aK (show w.heap.size ≤ b1 by have := HB.out.size; omega); replace HB := aK (below_step HB.out hbel); replace VT := aK (Kd.V_below VT.out hbel); replace NN := aK (Nat.le_trans NN.out hbel.size); have BXb1 := aK hblk; clear hblk hbel hbn)))
    | ((with_reducible refine gD 2 rfl ?_); go_must ((refine ev_alloc32 rfl (N := 2) rfl rfl ?_; intro b2 hbn w1 hblk hbel; have GNb2 := aK (show N ≤ b2 by have := NN.out; omega); have GPb2 := aK (show w.heap.size ≤ b2 by have := HB.out.size; omega); have LTb1b2 := aK (show b1 < b2 by have := blk_lt BXb1.out; omega); replace HB := aK (below_step HB.out hbel); replace BXb1 := Zc hbel BXb1; replace VT := aK (Kd.V_below VT.out hbel); replace NN := aK (Nat.le_trans NN.out hbel.size); have BXb2 := aK hblk; clear hblk hbel hbn)))
    | ((with_reducible refine gate_ (.store 29 (.tmp 1) (.tmp 6)) rfl ?_); go_must ((refine ev_store29 rfl rfl (.tmp 1) (.tmp 6) rfl (b := b1) (z := T) (v := v) rfl rfl BXb1.out (VK_one VT.out) ?_; intro w1 hblk hg hz; replace HB := aK (pw_below_grown HB.out _ HB.out.size hg (by intro k hk; injection hk with hk; have := GPb1.out; omega)); replace BXb1 := aK (hblk); replace BXb2 := Zh hg BXb2 LTb1b2; replace VT := aK (Kd.V_grown VT.out hg (fun q hq e => by injection e with e; have h9 : q < N := hq; have := GNb1.out; omega)); replace NN := aK (Nat.le_trans NN.out hg.size); clear hblk hg hz)))
    | ((with_reducible refine gate_ (.store 32 (.tmp 2) (.tmp 7)) rfl ?_); go_must ((refine ev_store32 rfl rfl (.tmp 2) (.tmp 7) rfl (b := b2) (e := 0) (f := 0) rfl rfl BXb2.out ?_; intro w1 hblk hg hz; replace HB := aK (pw_below_grown HB.out _ HB.out.size hg (by intro k hk; injection hk with hk; have := GPb2.out; omega)); replace BXb1 := Zg hg BXb1 LTb1b2; replace BXb2 := aK (hblk); replace VT := aK (Kd.V_grown VT.out hg (fun q hq e => by injection e with e; have h9 : q < N := hq; have := GNb2.out; omega)); replace NN := aK (Nat.le_trans NN.out hg.size); clear hblk hg hz)))
    | ((with_reducible refine gD 8 rfl ?_); go_must ((refine Mine.ev_load rfl (N := 8) rfl 29 (.tmp 1) rfl ⟨b1, 0, none⟩ rfl (nc T v) _ (Mine.blk_all BXb1.out) Try.underlying29 rfl info29s ?_)))
    | ((with_reducible refine gD 9 rfl ?_); go_must ((refine goesL_ (some 9) rfl rfl Try.func18 (by kernel_rfl) rfl #[.agg (nc T v).toArray] rfl (mpT rfl) ?_; refine (check_calls VT.out H3.out H2.out).mono ?_; rintro e w1 ⟨rfl, hbel⟩; refine ⟨_, rfl, ?_⟩; replace HB := aK (below_step HB.out hbel); replace BXb1 := Zc hbel BXb1; replace BXb2 := Zc hbel BXb2; replace VT := aK (Kd.V_below VT.out hbel); replace NN := aK (Nat.le_trans NN.out hbel.size); clear hbel)))
    | ((with_reducible refine gD 3 rfl ?_); go_must ((refine ev_alloc32 rfl (N := 3) rfl rfl ?_; intro b3 hbn w1 hblk hbel; have GNb3 := aK (show N ≤ b3 by have := NN.out; omega); have GPb3 := aK (show w.heap.size ≤ b3 by have := HB.out.size; omega); have LTb1b3 := aK (show b1 < b3 by have := blk_lt BXb1.out; omega); have LTb2b3 := aK (show b2 < b3 by have := blk_lt BXb2.out; omega); replace HB := aK (below_step HB.out hbel); replace BXb1 := Zc hbel BXb1; replace BXb2 := Zc hbel BXb2; replace VT := aK (Kd.V_below VT.out hbel); replace NN := aK (Nat.le_trans NN.out hbel.size); have BXb3 := aK hblk; clear hblk hbel hbn)))
    | ((with_reducible refine gate_ (.store 32 (.tmp 3) (.tmp 9)) rfl ?_); go_must ((refine ev_store32 rfl rfl (.tmp 3) (.tmp 9) rfl (b := b3) (e := 14) (f := 10) rfl rfl BXb3.out ?_; intro w1 hblk hg hz; replace HB := aK (pw_below_grown HB.out _ HB.out.size hg (by intro k hk; injection hk with hk; have := GPb3.out; omega)); replace BXb1 := Zg hg BXb1 LTb1b3; replace BXb2 := Zg hg BXb2 LTb2b3; replace BXb3 := aK (hblk); replace VT := aK (Kd.V_grown VT.out hg (fun q hq e => by injection e with e; have h9 : q < N := hq; have := GNb3.out; omega)); replace NN := aK (Nat.le_trans NN.out hg.size); clear hblk hg hz; have e1 : w1.cell? ⟨b3, 0, none⟩ = some (.int .i64 14) := (Mine.blk_cells BXb3.out 0).trans rfl; have e2 : w1.cell? ⟨b3, 1, none⟩ = some (.int .i64 10) := (Mine.blk_cells BXb3.out 1).trans rfl; have e3 : w1.cell? ⟨b2, 0, none⟩ = some (.int .i64 0) := (Mine.blk_cells BXb2.out 0).trans rfl)))
    | (go_at_call 14; refine (check_Events.calls evL _ rfl).mono ?_; rintro e w1 ⟨v0, rfl, hR0, hbel⟩; replace HB := aK (below_step HB.out hbel); replace BXb1 := Zc hbel BXb1; replace BXb2 := Zc hbel BXb2; replace BXb3 := Zc hbel BXb3; replace VT := aK (Kd.V_below VT.out hbel); replace NN := aK (Nat.le_trans NN.out hbel.size); clear hbel; obtain ⟨A0, c9, e0⟩ := Kd.V_slice (Kd.R_V (base' := 0) hR0); subst e0; clear hR0)
    | (go_at_call 15; refine (known_calls ⟨#[112, 97, 99, 107, 101, 116]⟩ ⟨#[118, 108, 97, 110]⟩ _).mono ?_; rintro e w1 ⟨rfl, hbel⟩; replace HB := aK (below_step HB.out hbel); replace BXb1 := Zc hbel BXb1; replace BXb2 := Zc hbel BXb2; replace BXb3 := Zc hbel BXb3; replace VT := aK (Kd.V_below VT.out hbel); replace NN := aK (Nat.le_trans NN.out hbel.size); clear hbel; rw [HKN.out]; go_frame))
  go_ret
  exact ⟨rfl, HB.out⟩
end Go.Proofs.Ytdiadmlgeojefaa.A
namespace Go.Proofs.Ytdiadmlgeojefaa.A
open Go.RowKit Go.Proofs.YtdiadmlgeojefaaW.PrintWords Go.Proofs.YtdiadmlgeojefaaW.PrintLast Go.Proofs.YtdiadmlgeojefaaW.PrintMore
set_option linter.unusedVariables false
set_option linter.unusedSimpArgs false
theorem str_cells {W : World} {base : Nat} {ok : Nat → Prop} {v : Value} {xs : List ByteArray} (h : Kd.R Kd.string 9 W base ok v xs) (hn : 0 < xs.length) : ∃ b c, v = .slice (some ⟨b, 0, none⟩) xs.length c ∧ xs.length ≤ c ∧ ∀ j s, xs[j]? = some s → W.cell? ⟨b, j, none⟩ = some (.string s) := by
  obtain ⟨A, c, e⟩ := Kd.R_slice h
  subst e
  obtain ⟨b, e, _, _⟩ := N_row (Kd.R_N h) hn
  subst e
  refine ⟨b, c, rfl, (Kd.R_reads' h).2.1, fun j s hj => ?_⟩
  have hlt := (List.getElem?_eq_some_iff.1 hj).1
  obtain ⟨ad, cs, e, hl, hK, hc⟩ := C_elem (Kd.R_reads' h).2.2 hlt
  injection e with e
  subst e
  have hs : xs[j] = s := (List.getElem?_eq_some_iff.1 hj).2
  rw [hs] at hK
  obtain rfl : cs = [.string s] := by simpa [Kd.string, Kd.scalar] using hK
  have := hc 0 _ rfl
  have e3 : (⟨b, 0, none⟩ : Addr).add (j * (Kd.string).sz) = ⟨b, j, none⟩ := by
    rw [show j * (Kd.string).sz = j from Nat.mul_one j]
    exact Mine.at_add b j
  rw [addr_zero, e3] at this
  exact this
set_option maxHeartbeats 4000000 in
set_option maxRecDepth 100000 in
theorem names_walk (on name : ByteArray) (w : World) : Calls Try.prog 3 #[.string on, .string name] w fun e w' => e = .returned (.bool true) ∧ Below w.heap.size w w' := by
  have HB := aK (Below.refl w.heap.size w)
  obtain ⟨kb, ekb⟩ : ∃ b_, b_ = knownF on name := ⟨_, rfl⟩
  have HK1 := aK (show ∀ w, Calls Try.prog 15 #[.string on, .string name] w fun e w' => e = .returned (.bool kb) ∧ Below w.heap.size w w' by rw [ekb]; exact fun w => known_calls on name w)
  have HK2 := aK (show ∀ w, Calls Try.prog 16 #[.string on, .string name] w fun e w' => e = .returned (.bool kb) ∧ Below w.heap.size w w' by rw [ekb]; exact fun w => podestaref15_Known.calls 13 on name _ w (refKnown on name))
  clear ekb
  go_enter Try.func3, Try.ntmps3
  go_wp2_with (first
    | ((with_reducible refine gD 14 rfl ?_); go_must ((refine goesL_ (some 14) rfl rfl Try.func13 (by kernel_rfl) rfl #[] rfl (mpT rfl) ?_; refine (answers17 _).mono ?_; rintro e w1 ⟨rfl, hbel⟩; refine ⟨_, rfl, ?_⟩; replace HB := aK (below_step HB.out hbel); clear hbel)))
    | ((with_reducible refine gD 15 rfl ?_); go_must ((refine goesL_ (some 15) rfl rfl Try.func14 (by kernel_rfl) rfl #[] rfl (mpT rfl) ?_; refine (check_Events.calls evL _ rfl).mono ?_; rintro e w1 ⟨v0, rfl, hR0, hbel⟩; refine ⟨_, rfl, ?_⟩; obtain ⟨eb, c9, e0, hle, hcs⟩ := str_cells hR0 (by decide); subst e0; have E0 := aK (hcs 0 _ rfl); have E1 := aK (hcs 1 _ rfl); have E2 := aK (hcs 2 _ rfl); clear hR0 hcs; replace HB := aK (below_step HB.out hbel); clear hbel)))
    | ((with_reducible refine gD 16 rfl ?_); go_must ((refine goesL_ (some 16) rfl rfl Try.func13 (by kernel_rfl) rfl #[] rfl (mpT rfl) ?_; refine (answers17 _).mono ?_; rintro e w1 ⟨rfl, hbel⟩; refine ⟨_, rfl, ?_⟩; replace HB := aK (below_step HB.out hbel); replace E0 := aK (pw_cell_below hbel E0.out); replace E1 := aK (pw_cell_below hbel E1.out); replace E2 := aK (pw_cell_below hbel E2.out); clear hbel)))
    | (go_at_call 15; refine (HK1.out _).mono ?_; rintro e w1 ⟨rfl, hbel⟩; replace HB := aK (below_step HB.out hbel); replace E0 := aK (pw_cell_below hbel E0.out); replace E1 := aK (pw_cell_below hbel E1.out); replace E2 := aK (pw_cell_below hbel E2.out); clear hbel)
    | (go_at_call 16; refine (HK2.out _).mono ?_; rintro e w1 ⟨rfl, hbel⟩; replace HB := aK (below_step HB.out hbel); replace E0 := aK (pw_cell_below hbel E0.out); replace E1 := aK (pw_cell_below hbel E1.out); replace E2 := aK (pw_cell_below hbel E2.out); clear hbel; have e0 := E0.out; have e1 := E1.out; have e2 := E2.out))
  all_goals
    go_ret
    exact ⟨rfl, HB.out⟩
end Go.Proofs.Ytdiadmlgeojefaa.A
namespace Go.Proofs.Ytdiadmlgeojefaa.A
open Go.RowKit Go.Proofs.YtdiadmlgeojefaaW.PrintWords Go.Proofs.YtdiadmlgeojefaaW.PrintLast Go.Proofs.YtdiadmlgeojefaaW.PrintMore
set_option linter.unusedVariables false
set_option linter.unusedSimpArgs false
def nmL : List ByteArray := [⟨#[117, 110, 105, 116]⟩, ⟨#[112, 111, 114, 116]⟩, ⟨#[118, 108, 97, 110]⟩, ⟨#[105, 110]⟩, ⟨#[120]⟩, ⟨#[122]⟩]
theorem ev_new {ops : Array Oper} {rest : List Oper} {o : Oper} {a : Act} {Q : Exit → Act → World → Prop} {W : World} (hgd : o.guard = none) {N : Tmp} (_hd : o.dst = some N) {v : Nat → Value} {ob : Obj} (hrun : (execOp a.eval o).run Try.prog W = .ok (.value (v W.heap.size)) (W.alloc ob))
    (h : ∀ g, g = W.heap.size → ∀ w1, w1.heap[g]? = some ob → Below W.heap.size W w1 → wpList Try.prog ops Q rest (a.put o.dst (v g)) w1) : wpList Try.prog ops Q (o :: rest) a W := by
  refine wpList_plain hgd fun K hK => ?_
  have hK' := hK _ _ (h W.heap.size rfl _ (heap_alloc_new W _) (below_alloc (Below.refl _ _) _))
  unfold Oper.wp
  simp only [hrun]
  exact hK'
section
variable {o : Oper} {a : Act} {x y : Operand}
theorem run_rem5 {m : Int} (ho : o.op = .binOp .rem 5 x (.const (.int .u8 m)) 5) (ht : o.type = 5) {n : Int} (hx : a.eval x = .int .u8 n) (hm : m = 3 ∨ m = 6 ∨ m = 8 ∨ m = 10) (h0 : 0 ≤ n) (h1 : n < 256) : ∀ w, (execOp a.eval o).run Try.prog w = .ok (.value (.int .u8 (n % m))) w := by
  intro w
  have hc : a.eval (.const (.int .u8 m)) = .int .u8 m := rfl
  generalize a.eval = ev at hx hc
  unfold execOp
  simp only [ho, ht, hx, hc]
  rcases hm with rfl | rfl | rfl | rfl <;> (go_simp; try exact Int.tmod_eq_emod_of_nonneg h0)
theorem run_index8 {t e : TypeId} {ad : Addr} {n c k : Nat} (ho : o.op = .indexAddr t x y) (hx : a.eval x = .slice (some ad) n c) (hy : a.eval y = .int .u8 (k : Int)) (hk : k < n) (ht : Try.prog.underlying t = some (.slice e)) (hi : (Try.prog.info? e).map (·.size) = some 1) : ∀ w, (execOp a.eval o).run Try.prog w = .ok (.value (.pointer (some (ad.add k)))) w := by
  intro w
  cases hq : Try.prog.info? e with
  | none => simp [hq] at hi
  | some i =>
    have hs : i.size = 1 := by simpa [hq] using hi
    unfold execOp
    simp [ho, hx, hy, Instr.indexAt, asIntOf, Sem.run_bind, run_underlying ht, sizeOf, typeInfo, hq, hs, hk]
end
structure scopes3Chk (ops : Array Oper) : Prop where
  f0 : anyB .any ops #[false, false, false, false, false, false, false, false, false, false, false, false] #[true, false, false, false, false, false, false, false, false, false, false, false] 0 = true
  f1 : anyB .any ops #[true, false, false, false, false, false, false, false, false, false, false, false] #[true, true, false, false, false, false, false, false, false, false, false, false] 1 = true
  f2 : anyB .any ops #[true, true, false, false, false, false, false, false, false, false, false, false] #[true, true, true, false, false, false, false, false, false, false, false, false] 2 = true
  f3 : anyB .any ops #[true, true, true, false, false, false, false, false, false, false, false, false] #[true, true, true, true, false, false, false, false, false, false, false, false] 3 = true
  f4 : takeB .any ops [] #[true, true, true, true, false, false, false, false, false, false, false, false] #[true, true, true, true, true, false, false, false, false, false, false, false] 4 = true
  f5 : anyB .any ops #[true, true, true, true, true, false, false, false, false, false, false, false] #[true, true, true, true, true, true, false, false, false, false, false, false] 5 = true
  f6 : anyB .any ops #[true, true, true, true, true, true, false, false, false, false, false, false] #[true, true, true, true, true, true, true, false, false, false, false, false] 6 = true
  f7 : anyB .any ops #[true, true, true, true, true, true, true, false, false, false, false, false] #[true, true, true, true, true, true, true, true, false, false, false, false] 7 = true
  f8 : anyB .any ops #[true, true, true, true, true, true, true, true, false, false, false, false] #[true, true, true, true, true, true, true, true, true, false, false, false] 8 = true
  f9 : takeB .any ops [] #[true, true, true, true, true, true, true, true, true, false, false, false] #[true, true, true, true, true, true, true, true, true, true, false, false] 9 = true
  f10 : anyB .any ops #[true, true, true, true, true, true, true, true, true, true, false, false] #[true, true, true, true, true, true, true, true, true, true, true, false] 10 = true
  f11 : anyB .any ops #[true, true, true, true, true, true, true, true, true, true, true, false] #[true, true, true, true, true, true, true, true, true, true, true, true] 11 = true
  f12 : (Region.ready .any ops #[true, true, true, true, true, true, true, true, true, true, true, true] == []) = true
set_option maxHeartbeats 1000000 in
theorem scopes3 {ops : Array Oper} {id : Nat} {Q : Exit → Act → World → Prop} {a : Act} {W : World} {be bn i j : Nat} {x0 x1 : Int} {e n : ByteArray} (he : W.cell? ⟨be, i, none⟩ = some (.string e)) (hn : W.cell? ⟨bn, j, none⟩ = some (.string n))
    (hx0 : 0 ≤ x0 ∧ x0 < 256) (hx1 : 0 ≤ x1 ∧ x1 < 256) (hi : x0 % 3 = (i : Int)) (hj : x1 % 6 = (j : Int))
    {o0 o1 o2 o3 o4 o5 o6 o7 o8 o9 o10 o11 : Oper} (hsize : ops.size = 12) (h0 : ops[0]? = some o0) (h1 : ops[1]? = some o1) (h2 : ops[2]? = some o2) (h3 : ops[3]? = some o3) (h4 : ops[4]? = some o4) (h5 : ops[5]? = some o5) (h6 : ops[6]? = some o6) (h7 : ops[7]? = some o7) (h8 : ops[8]? = some o8) (h9 : ops[9]? = some o9) (h10 : ops[10]? = some o10) (h11 : ops[11]? = some o11)
    (g0 : o0.guard = none ∧ o0.dst = some 15) (g1 : o1.guard = none ∧ o1.dst = some 16) (g2 : o2.guard = none ∧ o2.dst = some 17) (g3 : o3.guard = none ∧ o3.dst = some 18) (g4 : o4.guard = none ∧ o4.dst = some 19) (g5 : o5.guard = none ∧ o5.dst = some 20) (g6 : o6.guard = none ∧ o6.dst = some 21) (g7 : o7.guard = none ∧ o7.dst = some 22) (g8 : o8.guard = none ∧ o8.dst = some 23) (g9 : o9.guard = none ∧ o9.dst = some 24) (g10 : o10.guard = none ∧ o10.dst = some 7) (g11 : o11.guard = none ∧ o11.dst = some 8)
    (p0 : o0.op = .move (.tmp 5)) (p1 : o1.op = .move (.tmp 0)) (p2 : o2.op = .binOp .rem 5 (.tmp 16) (.const (.int .u8 3)) 5) (p3 : o3.op = .indexAddr 23 (.tmp 15) (.tmp 17)) (p4 : o4.op = .load 9 (.tmp 18)) (p5 : o5.op = .move (.tmp 6)) (p6 : o6.op = .move (.tmp 1)) (p7 : o7.op = .binOp .rem 5 (.tmp 21) (.const (.int .u8 6)) 5) (p8 : o8.op = .indexAddr 23 (.tmp 20) (.tmp 22)) (p9 : o9.op = .load 9 (.tmp 23)) (p10 : o10.op = .assign (.tmp 19)) (p11 : o11.op = .assign (.tmp 24))
    (t2 : o2.type = 5) (t7 : o7.type = 5)
    (hsz : a.tmps.size = 68) (v5 : a.eval (.tmp 5) = .slice (some ⟨be, 0, none⟩) 3 3) (v6 : a.eval (.tmp 6) = .slice (some ⟨bn, 0, none⟩) 6 6) (v0 : a.eval (.tmp 0) = .int .u8 x0) (v1 : a.eval (.tmp 1) = .int .u8 x1) (hc : scopes3Chk ops)
    (hQ : ∀ (d : Tmp) v c a w, Q (.panic c) (Act.put a (some d) v) w → Q (.panic c) a w)
    (hpost : ∀ W', W' = W.drew → Q .normal ((((((((((((a.put (some 15) (.slice (some ⟨be, 0, none⟩) 3 3)).put (some 16) (.int .u8 x0)).put (some 17) (.int .u8 (i : Int))).put (some 18) (.pointer (some ⟨be, i, none⟩))).put (some 19) (.string e)).put (some 20) (.slice (some ⟨bn, 0, none⟩) 6 6)).put (some 21) (.int .u8 x1)).put (some 22) (.int .u8 (j : Int))).put (some 23) (.pointer (some ⟨bn, j, none⟩))).put (some 24) (.string n)).put (some 7) (.string e)).put (some 8) (.string n)) W') :
    (Code.region id ops true).wp Try.prog Q a W := by
  refine start_ (n := 12) (S := fun w' => w'.cell? ⟨be, i, none⟩ = some (.string e) ∧ w'.cell? ⟨bn, j, none⟩ = some (.string n)) (ds := []) #[false, false, false, false, false, false, false, false, false, false, false, false] (by kernel_rfl) hsize rfl ⟨he, hn⟩ (fun hS2 => ?_)
  refine pure_ (i := 0) (N := some 15) (v := (.slice (some ⟨be, 0, none⟩) 3 3)) #[true, false, false, false, false, false, false, false, false, false, false, false] h0 g0.2 hc.f0 (fun c a w => by rw [g0.2]; exact hQ _ _ c a w) (Or.inl ⟨(by simp [Region.wanted, g0.1]), run_move p0 (by rw [v5])⟩) rfl ?_
  refine pure_ (i := 1) (N := some 16) (v := (.int .u8 x0)) #[true, true, false, false, false, false, false, false, false, false, false, false] h1 g1.2 hc.f1 (fun c a w => by rw [g1.2]; exact hQ _ _ c a w) (Or.inl ⟨(by simp [Region.wanted, g1.1]), run_move p1 (by rw [act_ne _ _ (by decide), v0])⟩) rfl ?_
  refine pure_ (i := 2) (N := some 17) (v := (.int .u8 (i : Int))) #[true, true, true, false, false, false, false, false, false, false, false, false] h2 g2.2 hc.f2 (fun c a w => by rw [g2.2]; exact hQ _ _ c a w) (Or.inl ⟨(by simp [Region.wanted, g2.1]), (fun w => (run_rem5 p2 t2 (by rw [act_same _ _ _ (by (try simp only [act_size]); rw [hsz]; decide)]) (.inl rfl) hx0.1 hx0.2 w).trans (by rw [hi]))⟩) rfl ?_
  refine pure_ (i := 3) (N := some 18) (v := (.pointer (some ⟨be, i, none⟩))) #[true, true, true, true, false, false, false, false, false, false, false, false] h3 g3.2 hc.f3 (fun c a w => by rw [g3.2]; exact hQ _ _ c a w) (Or.inl ⟨(by simp [Region.wanted, g3.1]), (fun w => (run_index8 p3 (by rw [act_ne _ _ (by decide), act_ne _ _ (by decide), act_same _ _ _ (by (try simp only [act_size]); rw [hsz]; decide)]) (by rw [act_same _ _ _ (by (try simp only [act_size]); rw [hsz]; decide)]) (by omega) Try.underlying23 info9s w).trans (by rw [Mine.at_add]))⟩) rfl ?_
  refine take_ (i := 4) (N := some 19) (v := (.string e)) #[true, true, true, true, true, false, false, false, false, false, false, false] h4 g4.2 hc.f4 (fun c a w => by rw [g4.2]; exact hQ _ _ c a w) (Or.inl ⟨(by simp [Region.wanted, g4.1]), fun w9 hw9 => run_loadT p4 (by rw [act_same _ _ _ (by (try simp only [act_size]); rw [hsz]; decide)]) hw9.1 Try.underlying9 rfl⟩) hS2 rfl ?_
  refine pure_ (i := 5) (N := some 20) (v := (.slice (some ⟨bn, 0, none⟩) 6 6)) #[true, true, true, true, true, true, false, false, false, false, false, false] h5 g5.2 hc.f5 (fun c a w => by rw [g5.2]; exact hQ _ _ c a w) (Or.inl ⟨(by simp [Region.wanted, g5.1]), run_move p5 (by rw [act_ne _ _ (by decide), act_ne _ _ (by decide), act_ne _ _ (by decide), act_ne _ _ (by decide), act_ne _ _ (by decide), v6])⟩) rfl ?_
  refine pure_ (i := 6) (N := some 21) (v := (.int .u8 x1)) #[true, true, true, true, true, true, true, false, false, false, false, false] h6 g6.2 hc.f6 (fun c a w => by rw [g6.2]; exact hQ _ _ c a w) (Or.inl ⟨(by simp [Region.wanted, g6.1]), run_move p6 (by rw [act_ne _ _ (by decide), act_ne _ _ (by decide), act_ne _ _ (by decide), act_ne _ _ (by decide), act_ne _ _ (by decide), act_ne _ _ (by decide), v1])⟩) rfl ?_
  refine pure_ (i := 7) (N := some 22) (v := (.int .u8 (j : Int))) #[true, true, true, true, true, true, true, true, false, false, false, false] h7 g7.2 hc.f7 (fun c a w => by rw [g7.2]; exact hQ _ _ c a w) (Or.inl ⟨(by simp [Region.wanted, g7.1]), (fun w => (run_rem5 p7 t7 (by rw [act_same _ _ _ (by (try simp only [act_size]); rw [hsz]; decide)]) (.inr (.inl rfl)) hx1.1 hx1.2 w).trans (by rw [hj]))⟩) rfl ?_
  refine pure_ (i := 8) (N := some 23) (v := (.pointer (some ⟨bn, j, none⟩))) #[true, true, true, true, true, true, true, true, true, false, false, false] h8 g8.2 hc.f8 (fun c a w => by rw [g8.2]; exact hQ _ _ c a w) (Or.inl ⟨(by simp [Region.wanted, g8.1]), (fun w => (run_index8 p8 (by rw [act_ne _ _ (by decide), act_ne _ _ (by decide), act_same _ _ _ (by (try simp only [act_size]); rw [hsz]; decide)]) (by rw [act_same _ _ _ (by (try simp only [act_size]); rw [hsz]; decide)]) (by omega) Try.underlying23 info9s w).trans (by rw [Mine.at_add]))⟩) rfl ?_
  refine take_ (i := 9) (N := some 24) (v := (.string n)) #[true, true, true, true, true, true, true, true, true, true, false, false] h9 g9.2 hc.f9 (fun c a w => by rw [g9.2]; exact hQ _ _ c a w) (Or.inl ⟨(by simp [Region.wanted, g9.1]), fun w9 hw9 => run_loadT p9 (by rw [act_same _ _ _ (by (try simp only [act_size]); rw [hsz]; decide)]) hw9.2 Try.underlying9 rfl⟩) hS2 rfl ?_
  refine pure_ (i := 10) (N := some 7) (v := (.string e)) #[true, true, true, true, true, true, true, true, true, true, true, false] h10 g10.2 hc.f10 (fun c a w => by rw [g10.2]; exact hQ _ _ c a w) (Or.inl ⟨(by simp [Region.wanted, g10.1]), run_assign p10 (by rw [act_ne _ _ (by decide), act_ne _ _ (by decide), act_ne _ _ (by decide), act_ne _ _ (by decide), act_ne _ _ (by decide), act_same _ _ _ (by (try simp only [act_size]); rw [hsz]; decide)])⟩) rfl ?_
  refine pure_ (i := 11) (N := some 8) (v := (.string n)) #[true, true, true, true, true, true, true, true, true, true, true, true] h11 g11.2 hc.f11 (fun c a w => by rw [g11.2]; exact hQ _ _ c a w) (Or.inl ⟨(by simp [Region.wanted, g11.1]), run_assign p11 (by rw [act_ne _ _ (by decide), act_same _ _ _ (by (try simp only [act_size]); rw [hsz]; decide)])⟩) rfl ?_
  refine (done_ hc.f12 ?_)
  exact hpost _ rfl
def scTxt (e n : ByteArray) : ByteArray := ((⟨#[111, 110, 32]⟩ ++ e) ++ ⟨#[32, 123, 32, 120, 32, 61, 32]⟩ ++ n) ++ ⟨#[59, 32, 125, 32, 118, 97, 114, 32, 120, 32, 61, 32, 49, 59]⟩
def mayB (e n : ByteArray) : Bool := knownF e n || n.toList == [120]
def ScOk (e n : ByteArray) : Prop := ∃ T f, parse_ 1000 100 (scTxt e n) = some (T, 0, 0) ∧ checkF 100 T = some f ∧ T.f3.length < 4611686018427387904 ∧ (f.1 == 0) = mayB e n ∧ (mayB e n = false → f = (14, 10 + (e.size : Int))) ∧ e.size ≤ 100 ∧ n.size ≤ 100
theorem sc_0_0 : ScOk ⟨#[112, 97, 99, 107, 101, 116]⟩ ⟨#[117, 110, 105, 116]⟩ := ⟨nd 1 tk0 0 [(nd 3 (tk [112, 97, 99, 107, 101, 116]) 0 [(nd 4 (tk [120]) 0 [(nd 19 (tk [117, 110, 105, 116]) 0 [] 16)] 12)] 0), (nd 2 (tk [120]) 1 [] 24)] 0, (0, 0), by kernel_rfl, by kernel_rfl, by decide, by kernel_rfl, fun h => absurd (h.symm.trans (show mayB ⟨#[112, 97, 99, 107, 101, 116]⟩ ⟨#[117, 110, 105, 116]⟩ = true by kernel_rfl)) (by decide), by decide, by decide⟩
theorem sc_0_1 : ScOk ⟨#[112, 97, 99, 107, 101, 116]⟩ ⟨#[112, 111, 114, 116]⟩ := ⟨nd 1 tk0 0 [(nd 3 (tk [112, 97, 99, 107, 101, 116]) 0 [(nd 4 (tk [120]) 0 [(nd 19 (tk [112, 111, 114, 116]) 0 [] 16)] 12)] 0), (nd 2 (tk [120]) 1 [] 24)] 0, (0, 0), by kernel_rfl, by kernel_rfl, by decide, by kernel_rfl, fun h => absurd (h.symm.trans (show mayB ⟨#[112, 97, 99, 107, 101, 116]⟩ ⟨#[112, 111, 114, 116]⟩ = true by kernel_rfl)) (by decide), by decide, by decide⟩
theorem sc_0_2 : ScOk ⟨#[112, 97, 99, 107, 101, 116]⟩ ⟨#[118, 108, 97, 110]⟩ := ⟨nd 1 tk0 0 [(nd 3 (tk [112, 97, 99, 107, 101, 116]) 0 [(nd 4 (tk [120]) 0 [(nd 19 (tk [118, 108, 97, 110]) 0 [] 16)] 12)] 0), (nd 2 (tk [120]) 1 [] 24)] 0, (0, 0), by kernel_rfl, by kernel_rfl, by decide, by kernel_rfl, fun h => absurd (h.symm.trans (show mayB ⟨#[112, 97, 99, 107, 101, 116]⟩ ⟨#[118, 108, 97, 110]⟩ = true by kernel_rfl)) (by decide), by decide, by decide⟩
theorem sc_0_3 : ScOk ⟨#[112, 97, 99, 107, 101, 116]⟩ ⟨#[105, 110]⟩ := ⟨nd 1 tk0 0 [(nd 3 (tk [112, 97, 99, 107, 101, 116]) 0 [(nd 4 (tk [120]) 0 [(nd 19 (tk [105, 110]) 0 [] 16)] 12)] 0), (nd 2 (tk [120]) 1 [] 22)] 0, (0, 0), by kernel_rfl, by kernel_rfl, by decide, by kernel_rfl, fun h => absurd (h.symm.trans (show mayB ⟨#[112, 97, 99, 107, 101, 116]⟩ ⟨#[105, 110]⟩ = true by kernel_rfl)) (by decide), by decide, by decide⟩
theorem sc_0_4 : ScOk ⟨#[112, 97, 99, 107, 101, 116]⟩ ⟨#[120]⟩ := ⟨nd 1 tk0 0 [(nd 3 (tk [112, 97, 99, 107, 101, 116]) 0 [(nd 4 (tk [120]) 0 [(nd 19 (tk [120]) 0 [] 16)] 12)] 0), (nd 2 (tk [120]) 1 [] 21)] 0, (0, 0), by kernel_rfl, by kernel_rfl, by decide, by kernel_rfl, fun h => absurd (h.symm.trans (show mayB ⟨#[112, 97, 99, 107, 101, 116]⟩ ⟨#[120]⟩ = true by kernel_rfl)) (by decide), by decide, by decide⟩
theorem sc_0_5 : ScOk ⟨#[112, 97, 99, 107, 101, 116]⟩ ⟨#[122]⟩ := ⟨nd 1 tk0 0 [(nd 3 (tk [112, 97, 99, 107, 101, 116]) 0 [(nd 4 (tk [120]) 0 [(nd 19 (tk [122]) 0 [] 16)] 12)] 0), (nd 2 (tk [120]) 1 [] 21)] 0, (14, 16), by kernel_rfl, by kernel_rfl, by decide, by kernel_rfl, fun h => rfl, by decide, by decide⟩
theorem sc_1_0 : ScOk ⟨#[114, 101, 109, 111, 118, 101, 100]⟩ ⟨#[117, 110, 105, 116]⟩ := ⟨nd 1 tk0 0 [(nd 3 (tk [114, 101, 109, 111, 118, 101, 100]) 0 [(nd 4 (tk [120]) 0 [(nd 19 (tk [117, 110, 105, 116]) 0 [] 17)] 13)] 0), (nd 2 (tk [120]) 1 [] 25)] 0, (0, 0), by kernel_rfl, by kernel_rfl, by decide, by kernel_rfl, fun h => absurd (h.symm.trans (show mayB ⟨#[114, 101, 109, 111, 118, 101, 100]⟩ ⟨#[117, 110, 105, 116]⟩ = true by kernel_rfl)) (by decide), by decide, by decide⟩
theorem sc_1_1 : ScOk ⟨#[114, 101, 109, 111, 118, 101, 100]⟩ ⟨#[112, 111, 114, 116]⟩ := ⟨nd 1 tk0 0 [(nd 3 (tk [114, 101, 109, 111, 118, 101, 100]) 0 [(nd 4 (tk [120]) 0 [(nd 19 (tk [112, 111, 114, 116]) 0 [] 17)] 13)] 0), (nd 2 (tk [120]) 1 [] 25)] 0, (14, 17), by kernel_rfl, by kernel_rfl, by decide, by kernel_rfl, fun h => rfl, by decide, by decide⟩
theorem sc_1_2 : ScOk ⟨#[114, 101, 109, 111, 118, 101, 100]⟩ ⟨#[118, 108, 97, 110]⟩ := ⟨nd 1 tk0 0 [(nd 3 (tk [114, 101, 109, 111, 118, 101, 100]) 0 [(nd 4 (tk [120]) 0 [(nd 19 (tk [118, 108, 97, 110]) 0 [] 17)] 13)] 0), (nd 2 (tk [120]) 1 [] 25)] 0, (14, 17), by kernel_rfl, by kernel_rfl, by decide, by kernel_rfl, fun h => rfl, by decide, by decide⟩
theorem sc_1_3 : ScOk ⟨#[114, 101, 109, 111, 118, 101, 100]⟩ ⟨#[105, 110]⟩ := ⟨nd 1 tk0 0 [(nd 3 (tk [114, 101, 109, 111, 118, 101, 100]) 0 [(nd 4 (tk [120]) 0 [(nd 19 (tk [105, 110]) 0 [] 17)] 13)] 0), (nd 2 (tk [120]) 1 [] 23)] 0, (14, 17), by kernel_rfl, by kernel_rfl, by decide, by kernel_rfl, fun h => rfl, by decide, by decide⟩
theorem sc_1_4 : ScOk ⟨#[114, 101, 109, 111, 118, 101, 100]⟩ ⟨#[120]⟩ := ⟨nd 1 tk0 0 [(nd 3 (tk [114, 101, 109, 111, 118, 101, 100]) 0 [(nd 4 (tk [120]) 0 [(nd 19 (tk [120]) 0 [] 17)] 13)] 0), (nd 2 (tk [120]) 1 [] 22)] 0, (0, 0), by kernel_rfl, by kernel_rfl, by decide, by kernel_rfl, fun h => absurd (h.symm.trans (show mayB ⟨#[114, 101, 109, 111, 118, 101, 100]⟩ ⟨#[120]⟩ = true by kernel_rfl)) (by decide), by decide, by decide⟩
theorem sc_1_5 : ScOk ⟨#[114, 101, 109, 111, 118, 101, 100]⟩ ⟨#[122]⟩ := ⟨nd 1 tk0 0 [(nd 3 (tk [114, 101, 109, 111, 118, 101, 100]) 0 [(nd 4 (tk [120]) 0 [(nd 19 (tk [122]) 0 [] 17)] 13)] 0), (nd 2 (tk [120]) 1 [] 22)] 0, (14, 17), by kernel_rfl, by kernel_rfl, by decide, by kernel_rfl, fun h => rfl, by decide, by decide⟩
theorem sc_2_0 : ScOk ⟨#[116, 105, 99, 107]⟩ ⟨#[117, 110, 105, 116]⟩ := ⟨nd 1 tk0 0 [(nd 3 (tk [116, 105, 99, 107]) 0 [(nd 4 (tk [120]) 0 [(nd 19 (tk [117, 110, 105, 116]) 0 [] 14)] 10)] 0), (nd 2 (tk [120]) 1 [] 22)] 0, (14, 14), by kernel_rfl, by kernel_rfl, by decide, by kernel_rfl, fun h => rfl, by decide, by decide⟩
theorem sc_2_1 : ScOk ⟨#[116, 105, 99, 107]⟩ ⟨#[112, 111, 114, 116]⟩ := ⟨nd 1 tk0 0 [(nd 3 (tk [116, 105, 99, 107]) 0 [(nd 4 (tk [120]) 0 [(nd 19 (tk [112, 111, 114, 116]) 0 [] 14)] 10)] 0), (nd 2 (tk [120]) 1 [] 22)] 0, (14, 14), by kernel_rfl, by kernel_rfl, by decide, by kernel_rfl, fun h => rfl, by decide, by decide⟩
theorem sc_2_2 : ScOk ⟨#[116, 105, 99, 107]⟩ ⟨#[118, 108, 97, 110]⟩ := ⟨nd 1 tk0 0 [(nd 3 (tk [116, 105, 99, 107]) 0 [(nd 4 (tk [120]) 0 [(nd 19 (tk [118, 108, 97, 110]) 0 [] 14)] 10)] 0), (nd 2 (tk [120]) 1 [] 22)] 0, (14, 14), by kernel_rfl, by kernel_rfl, by decide, by kernel_rfl, fun h => rfl, by decide, by decide⟩
theorem sc_2_3 : ScOk ⟨#[116, 105, 99, 107]⟩ ⟨#[105, 110]⟩ := ⟨nd 1 tk0 0 [(nd 3 (tk [116, 105, 99, 107]) 0 [(nd 4 (tk [120]) 0 [(nd 19 (tk [105, 110]) 0 [] 14)] 10)] 0), (nd 2 (tk [120]) 1 [] 20)] 0, (14, 14), by kernel_rfl, by kernel_rfl, by decide, by kernel_rfl, fun h => rfl, by decide, by decide⟩
theorem sc_2_4 : ScOk ⟨#[116, 105, 99, 107]⟩ ⟨#[120]⟩ := ⟨nd 1 tk0 0 [(nd 3 (tk [116, 105, 99, 107]) 0 [(nd 4 (tk [120]) 0 [(nd 19 (tk [120]) 0 [] 14)] 10)] 0), (nd 2 (tk [120]) 1 [] 19)] 0, (0, 0), by kernel_rfl, by kernel_rfl, by decide, by kernel_rfl, fun h => absurd (h.symm.trans (show mayB ⟨#[116, 105, 99, 107]⟩ ⟨#[120]⟩ = true by kernel_rfl)) (by decide), by decide, by decide⟩
theorem sc_2_5 : ScOk ⟨#[116, 105, 99, 107]⟩ ⟨#[122]⟩ := ⟨nd 1 tk0 0 [(nd 3 (tk [116, 105, 99, 107]) 0 [(nd 4 (tk [120]) 0 [(nd 19 (tk [122]) 0 [] 14)] 10)] 0), (nd 2 (tk [120]) 1 [] 19)] 0, (14, 14), by kernel_rfl, by kernel_rfl, by decide, by kernel_rfl, fun h => rfl, by decide, by decide⟩
theorem scopes_ok (i j : Nat) (hi : i < 3) (hj : j < 6) : ∃ e n, evL[i]? = some e ∧ nmL[j]? = some n ∧ ScOk e n := by
  match i, hi with
  | 0, _ =>
    match j, hj with
    | 0, _ => exact ⟨_, _, rfl, rfl, sc_0_0⟩
    | 1, _ => exact ⟨_, _, rfl, rfl, sc_0_1⟩
    | 2, _ => exact ⟨_, _, rfl, rfl, sc_0_2⟩
    | 3, _ => exact ⟨_, _, rfl, rfl, sc_0_3⟩
    | 4, _ => exact ⟨_, _, rfl, rfl, sc_0_4⟩
    | 5, _ => exact ⟨_, _, rfl, rfl, sc_0_5⟩
  | 1, _ =>
    match j, hj with
    | 0, _ => exact ⟨_, _, rfl, rfl, sc_1_0⟩
    | 1, _ => exact ⟨_, _, rfl, rfl, sc_1_1⟩
    | 2, _ => exact ⟨_, _, rfl, rfl, sc_1_2⟩
    | 3, _ => exact ⟨_, _, rfl, rfl, sc_1_3⟩
    | 4, _ => exact ⟨_, _, rfl, rfl, sc_1_4⟩
    | 5, _ => exact ⟨_, _, rfl, rfl, sc_1_5⟩
  | 2, _ =>
    match j, hj with
    | 0, _ => exact ⟨_, _, rfl, rfl, sc_2_0⟩
    | 1, _ => exact ⟨_, _, rfl, rfl, sc_2_1⟩
    | 2, _ => exact ⟨_, _, rfl, rfl, sc_2_2⟩
    | 3, _ => exact ⟨_, _, rfl, rfl, sc_2_3⟩
    | 4, _ => exact ⟨_, _, rfl, rfl, sc_2_4⟩
    | 5, _ => exact ⟨_, _, rfl, rfl, sc_2_5⟩
end Go.Proofs.Ytdiadmlgeojefaa.A
namespace Go.Proofs.Ytdiadmlgeojefaa.A
open Go.RowKit Go.Proofs.YtdiadmlgeojefaaW.PrintWords Go.Proofs.YtdiadmlgeojefaaW.PrintLast Go.Proofs.YtdiadmlgeojefaaW.PrintMore
set_option linter.unusedVariables false
set_option linter.unusedSimpArgs false
set_option maxHeartbeats 4000000 in
set_option maxRecDepth 100000 in
theorem scopes_walk (x0 x1 : Int) (hx0 : 0 ≤ x0 ∧ x0 < 256) (hx1 : 0 ≤ x1 ∧ x1 < 256) (w : World) : Calls Try.prog 5 #[.int .u8 x0, .int .u8 x1] w fun e w' => e = .returned (.bool true) ∧ Below w.heap.size w w' := by
  have HB := aK (Below.refl w.heap.size w)
  obtain ⟨i, hi⟩ : ∃ i : Nat, x0 % 3 = (i : Int) := ⟨(x0 % 3).toNat, by omega⟩
  obtain ⟨j, hj⟩ : ∃ i : Nat, x1 % 6 = (i : Int) := ⟨(x1 % 6).toNat, by omega⟩
  obtain ⟨en, nn, he, hn, T, ⟨fe, fa⟩, hp, hc, hl, h0, hm, hs, hsn⟩ := scopes_ok i j (by omega) (by omega)
  have X0 := aK hx0
  have X1 := aK hx1
  have EI := aK hi
  have EJ := aK hj
  have HP := aK hp
  have HCK := aK hc
  have HLN := aK hl
  have HE := aK he
  have HN := aK hn
  have hs64 : (en.size : Int) ≤ 100 := by omega
  have hn64 : (nn.size : Int) ≤ 100 := by omega
  obtain ⟨kb, ekb⟩ : ∃ b_, b_ = knownF en nn := ⟨_, rfl⟩
  have HK2 := aK (show ∀ w, Calls Try.prog 16 #[.string en, .string nn] w fun e w' => e = .returned (.bool kb) ∧ Below w.heap.size w w' by rw [ekb]; exact fun w => podestaref15_Known.calls 13 en nn _ w (refKnown en nn))
  unfold mayB at h0 hm
  rw [← ekb] at h0 hm
  clear hx0 hx1 hi hj hp hc hl he hn ekb hs hsn
  cases kb
  · rcases Bool.eq_false_or_eq_true (nn.toList == [120]) with cx | cx
    · rw [cx] at h0 hm
      have c0 : (fe == 0) = true := h0
      clear h0 hm
      go_enter Try.func5, Try.ntmps5
      go_wp2_with (first
        | ((with_reducible refine gD 13 rfl ?_); go_must ((refine ev_new rfl (N := 13) rfl (v := fun g => .slice (some ⟨g, 0, none⟩) 3 3) (ob := .cells (evL.map Value.string).toArray 9 (0, 0)) (by unfold execOp; first | (go_simp; done) | (go_simp; rfl)) ?_; intro be hbn w1 hblk hbel; have GPbe := aK (show w.heap.size ≤ be by have := HB.out.size; omega); replace HB := aK (below_step HB.out hbel); have BXbe := aK hblk; clear hblk hbel hbn)))
        | ((with_reducible refine gD 14 rfl ?_); go_must ((refine ev_new rfl (N := 14) rfl (v := fun g => .slice (some ⟨g, 0, none⟩) 6 6) (ob := .cells (nmL.map Value.string).toArray 9 (0, 0)) (by unfold execOp; first | (go_simp; done) | (go_simp; rfl)) ?_; intro bn hbn w1 hblk hbel; have GPbn := aK (show w.heap.size ≤ bn by have := HB.out.size; omega); have LTbebn := aK (show be < bn by have := blk_lt BXbe.out; omega); replace HB := aK (below_step HB.out hbel); replace BXbe := Zc hbel BXbe; have BXbn := aK hblk; clear hblk hbel hbn))))
      refine scopes3 (i := i) (j := j) (e := en) (n := nn) ((Mine.blk_cells BXbe.out i).trans (by rw [List.getElem?_map, HE.out]; rfl)) ((Mine.blk_cells BXbn.out j).trans (by rw [List.getElem?_map, HN.out]; rfl)) X0.out X1.out EI.out EJ.out rfl rfl rfl rfl rfl rfl rfl rfl rfl rfl rfl rfl rfl ⟨rfl, rfl⟩ ⟨rfl, rfl⟩ ⟨rfl, rfl⟩ ⟨rfl, rfl⟩ ⟨rfl, rfl⟩ ⟨rfl, rfl⟩ ⟨rfl, rfl⟩ ⟨rfl, rfl⟩ ⟨rfl, rfl⟩ ⟨rfl, rfl⟩ ⟨rfl, rfl⟩ ⟨rfl, rfl⟩ rfl rfl rfl rfl rfl rfl rfl rfl rfl rfl rfl rfl rfl rfl rfl rfl rfl rfl rfl (by constructor <;> kernel_rfl) (fun _ _ _ _ _ h => h) ?_
      intro w2 e2
      have hbel : Below w1.heap.size w1 w2 := by rw [e2]; exact below_drew (Below.refl _ _)
      clear e2
      clear BXbe BXbn
      replace HB := aK (below_step HB.out hbel)
      clear hbel
      simp only [Act.put, List.setIfInBounds_toArray, List.set_cons_zero, List.set_cons_succ]
      go_wp2_with (first
        | ((with_reducible refine gD 32 rfl ?_); go_must ((refine goesL_ (some 32) rfl rfl Try.func17 (by kernel_rfl) rfl #[.string (scTxt en nn)] rfl (mpT rfl) ?_; refine (parse_calls (by decide) (scTxt en nn) T 0 0 _ HP.out).mono ?_; rintro e w1 ⟨v, rfl, hv, hbel⟩; refine ⟨_, rfl, ?_⟩; obtain ⟨N, eN⟩ : ∃ n_, n_ = w1.heap.size := ⟨_, rfl⟩; have hv2 := Kd.V_mono (Kd.V_bound hv) (ok' := fun q => q < N) (fun q hq => by rw [eN]; exact hq.2); replace HB := aK (below_step HB.out hbel); have VT := aK hv2; have NN := aK (Nat.le_of_eq eN); clear hv hv2 hbel eN)))
        | ((with_reducible refine gD 9 rfl ?_); go_must ((refine ev_alloc29 rfl (N := 9) rfl rfl ?_; intro b1 hbn w1 hblk hbel; have GNb1 := aK (show N ≤ b1 by have := NN.out; omega); have GPb1 := aK (show w.heap.size ≤ b1 by have := HB.out.size; omega); replace HB := aK (below_step HB.out hbel); replace VT := aK (Kd.V_below VT.out hbel); replace NN := aK (Nat.le_trans NN.out hbel.size); have BXb1 := aK hblk; clear hblk hbel hbn)))
        | ((with_reducible refine gD 10 rfl ?_); go_must ((refine ev_alloc32 rfl (N := 10) rfl rfl ?_; intro b2 hbn w1 hblk hbel; have GNb2 := aK (show N ≤ b2 by have := NN.out; omega); have GPb2 := aK (show w.heap.size ≤ b2 by have := HB.out.size; omega); have LTb1b2 := aK (show b1 < b2 by have := blk_lt BXb1.out; omega); replace HB := aK (below_step HB.out hbel); replace BXb1 := Zc hbel BXb1; replace VT := aK (Kd.V_below VT.out hbel); replace NN := aK (Nat.le_trans NN.out hbel.size); have BXb2 := aK hblk; clear hblk hbel hbn)))
        | ((with_reducible refine gate_ (.store 29 (.tmp 9) (.tmp 33)) rfl ?_); go_must ((refine ev_store29 rfl rfl (.tmp 9) (.tmp 33) rfl (b := b1) (z := T) (v := v) rfl rfl BXb1.out (VK_one VT.out) ?_; intro w1 hblk hg hz; replace HB := aK (pw_below_grown HB.out _ HB.out.size hg (by intro k hk; injection hk with hk; have := GPb1.out; omega)); replace BXb1 := aK (hblk); replace BXb2 := Zh hg BXb2 LTb1b2; replace VT := aK (Kd.V_grown VT.out hg (fun q hq e => by injection e with e; have h9 : q < N := hq; have := GNb1.out; omega)); replace NN := aK (Nat.le_trans NN.out hg.size); clear hblk hg hz)))
        | ((with_reducible refine gate_ (.store 32 (.tmp 10) (.tmp 34)) rfl ?_); go_must ((refine ev_store32 rfl rfl (.tmp 10) (.tmp 34) rfl (b := b2) (e := 0) (f := 0) rfl rfl BXb2.out ?_; intro w1 hblk hg hz; replace HB := aK (pw_below_grown HB.out _ HB.out.size hg (by intro k hk; injection hk with hk; have := GPb2.out; omega)); replace BXb1 := Zg hg BXb1 LTb1b2; replace BXb2 := aK (hblk); replace VT := aK (Kd.V_grown VT.out hg (fun q hq e => by injection e with e; have h9 : q < N := hq; have := GNb2.out; omega)); replace NN := aK (Nat.le_trans NN.out hg.size); clear hblk hg hz)))
        | ((with_reducible refine gD 35 rfl ?_); go_must ((refine Mine.ev_load rfl (N := 35) rfl 29 (.tmp 9) rfl ⟨b1, 0, none⟩ rfl (nc T v) _ (Mine.blk_all BXb1.out) Try.underlying29 rfl info29s ?_)))
        | ((with_reducible refine gD 36 rfl ?_); go_must ((refine goesL_ (some 36) rfl rfl Try.func18 (by kernel_rfl) rfl #[.agg (nc T v).toArray] rfl (mpT rfl) ?_; refine (check_calls VT.out HLN.out HCK.out).mono ?_; rintro e w1 ⟨rfl, hbel⟩; refine ⟨_, rfl, ?_⟩; replace HB := aK (below_step HB.out hbel); replace BXb1 := Zc hbel BXb1; replace BXb2 := Zc hbel BXb2; replace VT := aK (Kd.V_below VT.out hbel); replace NN := aK (Nat.le_trans NN.out hbel.size); clear hbel)))
        | ((with_reducible refine gD 11 rfl ?_); go_must ((refine ev_alloc32 rfl (N := 11) rfl rfl ?_; intro b3 hbn w1 hblk hbel; have GNb3 := aK (show N ≤ b3 by have := NN.out; omega); have GPb3 := aK (show w.heap.size ≤ b3 by have := HB.out.size; omega); have LTb1b3 := aK (show b1 < b3 by have := blk_lt BXb1.out; omega); have LTb2b3 := aK (show b2 < b3 by have := blk_lt BXb2.out; omega); replace HB := aK (below_step HB.out hbel); replace BXb1 := Zc hbel BXb1; replace BXb2 := Zc hbel BXb2; replace VT := aK (Kd.V_below VT.out hbel); replace NN := aK (Nat.le_trans NN.out hbel.size); have BXb3 := aK hblk; clear hblk hbel hbn)))
        | ((with_reducible refine gate_ (.store 32 (.tmp 11) (.tmp 36)) rfl ?_); go_must ((refine ev_store32 rfl rfl (.tmp 11) (.tmp 36) rfl (b := b3) (e := fe) (f := fa) rfl rfl BXb3.out ?_; intro w1 hblk hg hz; replace HB := aK (pw_below_grown HB.out _ HB.out.size hg (by intro k hk; injection hk with hk; have := GPb3.out; omega)); replace BXb1 := Zg hg BXb1 LTb1b3; replace BXb2 := Zg hg BXb2 LTb2b3; replace BXb3 := aK (hblk); replace VT := aK (Kd.V_grown VT.out hg (fun q hq e => by injection e with e; have h9 : q < N := hq; have := GNb3.out; omega)); replace NN := aK (Nat.le_trans NN.out hg.size); clear hblk hg hz)))
        | ((with_reducible refine gD 39 rfl ?_); go_must ((refine goesL_ (some 39) rfl rfl Try.func16 (by kernel_rfl) rfl #[.string en, .string nn] rfl (mpT rfl) ?_; refine (HK2.out _).mono ?_; rintro e w1 ⟨rfl, hbel⟩; refine ⟨_, rfl, ?_⟩; replace HB := aK (below_step HB.out hbel); replace BXb1 := Zc hbel BXb1; replace BXb2 := Zc hbel BXb2; replace BXb3 := Zc hbel BXb3; replace VT := aK (Kd.V_below VT.out hbel); replace NN := aK (Nat.le_trans NN.out hbel.size); clear hbel)))
        | ((with_reducible refine gD 44 rfl ?_); go_must ((refine goesL_ (some 44) rfl rfl Try.func13 (by kernel_rfl) rfl #[] rfl (mpT rfl) ?_; refine (answers17 _).mono ?_; rintro e w1 ⟨rfl, hbel⟩; refine ⟨_, rfl, ?_⟩; replace HB := aK (below_step HB.out hbel); replace BXb1 := Zc hbel BXb1; replace BXb2 := Zc hbel BXb2; replace BXb3 := Zc hbel BXb3; replace VT := aK (Kd.V_below VT.out hbel); replace NN := aK (Nat.le_trans NN.out hbel.size); clear hbel; have e1 := (Mine.blk_cells BXb3.out 0).trans (show _ = some (Value.int .i64 (fe)) from rfl); have e2 := (Mine.blk_cells BXb3.out 1).trans (show _ = some (Value.int .i64 (fa)) from rfl); have e3 := (Mine.blk_cells BXb2.out 0).trans (show _ = some (Value.int .i64 0) from rfl)))))
      go_ret
      exact ⟨rfl, HB.out⟩
    · rw [cx] at h0 hm
      have c0 : (fe == 0) = false := h0
      obtain ⟨rfl, rfl⟩ : fe = 14 ∧ fa = 10 + (en.size : Int) := by simpa using hm rfl
      clear h0 hm c0
      go_enter Try.func5, Try.ntmps5
      go_wp2_with (first
        | ((with_reducible refine gD 13 rfl ?_); go_must ((refine ev_new rfl (N := 13) rfl (v := fun g => .slice (some ⟨g, 0, none⟩) 3 3) (ob := .cells (evL.map Value.string).toArray 9 (0, 0)) (by unfold execOp; first | (go_simp; done) | (go_simp; rfl)) ?_; intro be hbn w1 hblk hbel; have GPbe := aK (show w.heap.size ≤ be by have := HB.out.size; omega); replace HB := aK (below_step HB.out hbel); have BXbe := aK hblk; clear hblk hbel hbn)))
        | ((with_reducible refine gD 14 rfl ?_); go_must ((refine ev_new rfl (N := 14) rfl (v := fun g => .slice (some ⟨g, 0, none⟩) 6 6) (ob := .cells (nmL.map Value.string).toArray 9 (0, 0)) (by unfold execOp; first | (go_simp; done) | (go_simp; rfl)) ?_; intro bn hbn w1 hblk hbel; have GPbn := aK (show w.heap.size ≤ bn by have := HB.out.size; omega); have LTbebn := aK (show be < bn by have := blk_lt BXbe.out; omega); replace HB := aK (below_step HB.out hbel); replace BXbe := Zc hbel BXbe; have BXbn := aK hblk; clear hblk hbel hbn))))
      refine scopes3 (i := i) (j := j) (e := en) (n := nn) ((Mine.blk_cells BXbe.out i).trans (by rw [List.getElem?_map, HE.out]; rfl)) ((Mine.blk_cells BXbn.out j).trans (by rw [List.getElem?_map, HN.out]; rfl)) X0.out X1.out EI.out EJ.out rfl rfl rfl rfl rfl rfl rfl rfl rfl rfl rfl rfl rfl ⟨rfl, rfl⟩ ⟨rfl, rfl⟩ ⟨rfl, rfl⟩ ⟨rfl, rfl⟩ ⟨rfl, rfl⟩ ⟨rfl, rfl⟩ ⟨rfl, rfl⟩ ⟨rfl, rfl⟩ ⟨rfl, rfl⟩ ⟨rfl, rfl⟩ ⟨rfl, rfl⟩ ⟨rfl, rfl⟩ rfl rfl rfl rfl rfl rfl rfl rfl rfl rfl rfl rfl rfl rfl rfl rfl rfl rfl rfl (by constructor <;> kernel_rfl) (fun _ _ _ _ _ h => h) ?_
      intro w2 e2
      have hbel : Below w1.heap.size w1 w2 := by rw [e2]; exact below_drew (Below.refl _ _)
      clear e2
      clear BXbe BXbn
      replace HB := aK (below_step HB.out hbel)
      clear hbel
      simp only [Act.put, List.setIfInBounds_toArray, List.set_cons_zero, List.set_cons_succ]
      go_wp2_with (first
        | ((with_reducible refine gD 32 rfl ?_); go_must ((refine goesL_ (some 32) rfl rfl Try.func17 (by kernel_rfl) rfl #[.string (scTxt en nn)] rfl (mpT rfl) ?_; refine (parse_calls (by decide) (scTxt en nn) T 0 0 _ HP.out).mono ?_; rintro e w1 ⟨v, rfl, hv, hbel⟩; refine ⟨_, rfl, ?_⟩; obtain ⟨N, eN⟩ : ∃ n_, n_ = w1.heap.size := ⟨_, rfl⟩; have hv2 := Kd.V_mono (Kd.V_bound hv) (ok' := fun q => q < N) (fun q hq => by rw [eN]; exact hq.2); replace HB := aK (below_step HB.out hbel); have VT := aK hv2; have NN := aK (Nat.le_of_eq eN); clear hv hv2 hbel eN)))
        | ((with_reducible refine gD 9 rfl ?_); go_must ((refine ev_alloc29 rfl (N := 9) rfl rfl ?_; intro b1 hbn w1 hblk hbel; have GNb1 := aK (show N ≤ b1 by have := NN.out; omega); have GPb1 := aK (show w.heap.size ≤ b1 by have := HB.out.size; omega); replace HB := aK (below_step HB.out hbel); replace VT := aK (Kd.V_below VT.out hbel); replace NN := aK (Nat.le_trans NN.out hbel.size); have BXb1 := aK hblk; clear hblk hbel hbn)))
        | ((with_reducible refine gD 10 rfl ?_); go_must ((refine ev_alloc32 rfl (N := 10) rfl rfl ?_; intro b2 hbn w1 hblk hbel; have GNb2 := aK (show N ≤ b2 by have := NN.out; omega); have GPb2 := aK (show w.heap.size ≤ b2 by have := HB.out.size; omega); have LTb1b2 := aK (show b1 < b2 by have := blk_lt BXb1.out; omega); replace HB := aK (below_step HB.out hbel); replace BXb1 := Zc hbel BXb1; replace VT := aK (Kd.V_below VT.out hbel); replace NN := aK (Nat.le_trans NN.out hbel.size); have BXb2 := aK hblk; clear hblk hbel hbn)))
        | ((with_reducible refine gate_ (.store 29 (.tmp 9) (.tmp 33)) rfl ?_); go_must ((refine ev_store29 rfl rfl (.tmp 9) (.tmp 33) rfl (b := b1) (z := T) (v := v) rfl rfl BXb1.out (VK_one VT.out) ?_; intro w1 hblk hg hz; replace HB := aK (pw_below_grown HB.out _ HB.out.size hg (by intro k hk; injection hk with hk; have := GPb1.out; omega)); replace BXb1 := aK (hblk); replace BXb2 := Zh hg BXb2 LTb1b2; replace VT := aK (Kd.V_grown VT.out hg (fun q hq e => by injection e with e; have h9 : q < N := hq; have := GNb1.out; omega)); replace NN := aK (Nat.le_trans NN.out hg.size); clear hblk hg hz)))
        | ((with_reducible refine gate_ (.store 32 (.tmp 10) (.tmp 34)) rfl ?_); go_must ((refine ev_store32 rfl rfl (.tmp 10) (.tmp 34) rfl (b := b2) (e := 0) (f := 0) rfl rfl BXb2.out ?_; intro w1 hblk hg hz; replace HB := aK (pw_below_grown HB.out _ HB.out.size hg (by intro k hk; injection hk with hk; have := GPb2.out; omega)); replace BXb1 := Zg hg BXb1 LTb1b2; replace BXb2 := aK (hblk); replace VT := aK (Kd.V_grown VT.out hg (fun q hq e => by injection e with e; have h9 : q < N := hq; have := GNb2.out; omega)); replace NN := aK (Nat.le_trans NN.out hg.size); clear hblk hg hz)))
        | ((with_reducible refine gD 35 rfl ?_); go_must ((refine Mine.ev_load rfl (N := 35) rfl 29 (.tmp 9) rfl ⟨b1, 0, none⟩ rfl (nc T v) _ (Mine.blk_all BXb1.out) Try.underlying29 rfl info29s ?_)))
        | ((with_reducible refine gD 36 rfl ?_); go_must ((refine goesL_ (some 36) rfl rfl Try.func18 (by kernel_rfl) rfl #[.agg (nc T v).toArray] rfl (mpT rfl) ?_; refine (check_calls VT.out HLN.out HCK.out).mono ?_; rintro e w1 ⟨rfl, hbel⟩; refine ⟨_, rfl, ?_⟩; replace HB := aK (below_step HB.out hbel); replace BXb1 := Zc hbel BXb1; replace BXb2 := Zc hbel BXb2; replace VT := aK (Kd.V_below VT.out hbel); replace NN := aK (Nat.le_trans NN.out hbel.size); clear hbel)))
        | ((with_reducible refine gD 11 rfl ?_); go_must ((refine ev_alloc32 rfl (N := 11) rfl rfl ?_; intro b3 hbn w1 hblk hbel; have GNb3 := aK (show N ≤ b3 by have := NN.out; omega); have GPb3 := aK (show w.heap.size ≤ b3 by have := HB.out.size; omega); have LTb1b3 := aK (show b1 < b3 by have := blk_lt BXb1.out; omega); have LTb2b3 := aK (show b2 < b3 by have := blk_lt BXb2.out; omega); replace HB := aK (below_step HB.out hbel); replace BXb1 := Zc hbel BXb1; replace BXb2 := Zc hbel BXb2; replace VT := aK (Kd.V_below VT.out hbel); replace NN := aK (Nat.le_trans NN.out hbel.size); have BXb3 := aK hblk; clear hblk hbel hbn)))
        | ((with_reducible refine gate_ (.store 32 (.tmp 11) (.tmp 36)) rfl ?_); go_must ((refine ev_store32 rfl rfl (.tmp 11) (.tmp 36) rfl (b := b3) (e := 14) (f := (10 + (en.size : Int))) rfl rfl BXb3.out ?_; intro w1 hblk hg hz; replace HB := aK (pw_below_grown HB.out _ HB.out.size hg (by intro k hk; injection hk with hk; have := GPb3.out; omega)); replace BXb1 := Zg hg BXb1 LTb1b3; replace BXb2 := Zg hg BXb2 LTb2b3; replace BXb3 := aK (hblk); replace VT := aK (Kd.V_grown VT.out hg (fun q hq e => by injection e with e; have h9 : q < N := hq; have := GNb3.out; omega)); replace NN := aK (Nat.le_trans NN.out hg.size); clear hblk hg hz)))
        | ((with_reducible refine gD 39 rfl ?_); go_must ((refine goesL_ (some 39) rfl rfl Try.func16 (by kernel_rfl) rfl #[.string en, .string nn] rfl (mpT rfl) ?_; refine (HK2.out _).mono ?_; rintro e w1 ⟨rfl, hbel⟩; refine ⟨_, rfl, ?_⟩; replace HB := aK (below_step HB.out hbel); replace BXb1 := Zc hbel BXb1; replace BXb2 := Zc hbel BXb2; replace BXb3 := Zc hbel BXb3; replace VT := aK (Kd.V_below VT.out hbel); replace NN := aK (Nat.le_trans NN.out hbel.size); clear hbel)))
        | ((with_reducible refine gD 44 rfl ?_); go_must ((refine goesL_ (some 44) rfl rfl Try.func13 (by kernel_rfl) rfl #[] rfl (mpT rfl) ?_; refine (answers17 _).mono ?_; rintro e w1 ⟨rfl, hbel⟩; refine ⟨_, rfl, ?_⟩; replace HB := aK (below_step HB.out hbel); replace BXb1 := Zc hbel BXb1; replace BXb2 := Zc hbel BXb2; replace BXb3 := Zc hbel BXb3; replace VT := aK (Kd.V_below VT.out hbel); replace NN := aK (Nat.le_trans NN.out hbel.size); clear hbel; have e1 := (Mine.blk_cells BXb3.out 0).trans (show _ = some (Value.int .i64 (14)) from rfl); have e2 := (Mine.blk_cells BXb3.out 1).trans (show _ = some (Value.int .i64 ((10 + (en.size : Int)))) from rfl); have e3 := (Mine.blk_cells BXb2.out 0).trans (show _ = some (Value.int .i64 0) from rfl)))))
      go_ret
      exact ⟨rfl, HB.out⟩
  · have c0 : (fe == 0) = true := by simpa using h0
    clear h0 hm
    go_enter Try.func5, Try.ntmps5
    go_wp2_with (first
      | ((with_reducible refine gD 13 rfl ?_); go_must ((refine ev_new rfl (N := 13) rfl (v := fun g => .slice (some ⟨g, 0, none⟩) 3 3) (ob := .cells (evL.map Value.string).toArray 9 (0, 0)) (by unfold execOp; first | (go_simp; done) | (go_simp; rfl)) ?_; intro be hbn w1 hblk hbel; have GPbe := aK (show w.heap.size ≤ be by have := HB.out.size; omega); replace HB := aK (below_step HB.out hbel); have BXbe := aK hblk; clear hblk hbel hbn)))
      | ((with_reducible refine gD 14 rfl ?_); go_must ((refine ev_new rfl (N := 14) rfl (v := fun g => .slice (some ⟨g, 0, none⟩) 6 6) (ob := .cells (nmL.map Value.string).toArray 9 (0, 0)) (by unfold execOp; first | (go_simp; done) | (go_simp; rfl)) ?_; intro bn hbn w1 hblk hbel; have GPbn := aK (show w.heap.size ≤ bn by have := HB.out.size; omega); have LTbebn := aK (show be < bn by have := blk_lt BXbe.out; omega); replace HB := aK (below_step HB.out hbel); replace BXbe := Zc hbel BXbe; have BXbn := aK hblk; clear hblk hbel hbn))))
    refine scopes3 (i := i) (j := j) (e := en) (n := nn) ((Mine.blk_cells BXbe.out i).trans (by rw [List.getElem?_map, HE.out]; rfl)) ((Mine.blk_cells BXbn.out j).trans (by rw [List.getElem?_map, HN.out]; rfl)) X0.out X1.out EI.out EJ.out rfl rfl rfl rfl rfl rfl rfl rfl rfl rfl rfl rfl rfl ⟨rfl, rfl⟩ ⟨rfl, rfl⟩ ⟨rfl, rfl⟩ ⟨rfl, rfl⟩ ⟨rfl, rfl⟩ ⟨rfl, rfl⟩ ⟨rfl, rfl⟩ ⟨rfl, rfl⟩ ⟨rfl, rfl⟩ ⟨rfl, rfl⟩ ⟨rfl, rfl⟩ ⟨rfl, rfl⟩ rfl rfl rfl rfl rfl rfl rfl rfl rfl rfl rfl rfl rfl rfl rfl rfl rfl rfl rfl (by constructor <;> kernel_rfl) (fun _ _ _ _ _ h => h) ?_
    intro w2 e2
    have hbel : Below w1.heap.size w1 w2 := by rw [e2]; exact below_drew (Below.refl _ _)
    clear e2
    clear BXbe BXbn
    replace HB := aK (below_step HB.out hbel)
    clear hbel
    simp only [Act.put, List.setIfInBounds_toArray, List.set_cons_zero, List.set_cons_succ]
    go_wp2_with (first
      | ((with_reducible refine gD 32 rfl ?_); go_must ((refine goesL_ (some 32) rfl rfl Try.func17 (by kernel_rfl) rfl #[.string (scTxt en nn)] rfl (mpT rfl) ?_; refine (parse_calls (by decide) (scTxt en nn) T 0 0 _ HP.out).mono ?_; rintro e w1 ⟨v, rfl, hv, hbel⟩; refine ⟨_, rfl, ?_⟩; obtain ⟨N, eN⟩ : ∃ n_, n_ = w1.heap.size := ⟨_, rfl⟩; have hv2 := Kd.V_mono (Kd.V_bound hv) (ok' := fun q => q < N) (fun q hq => by rw [eN]; exact hq.2); replace HB := aK (below_step HB.out hbel); have VT := aK hv2; have NN := aK (Nat.le_of_eq eN); clear hv hv2 hbel eN)))
      | ((with_reducible refine gD 9 rfl ?_); go_must ((refine ev_alloc29 rfl (N := 9) rfl rfl ?_; intro b1 hbn w1 hblk hbel; have GNb1 := aK (show N ≤ b1 by have := NN.out; omega); have GPb1 := aK (show w.heap.size ≤ b1 by have := HB.out.size; omega); replace HB := aK (below_step HB.out hbel); replace VT := aK (Kd.V_below VT.out hbel); replace NN := aK (Nat.le_trans NN.out hbel.size); have BXb1 := aK hblk; clear hblk hbel hbn)))
      | ((with_reducible refine gD 10 rfl ?_); go_must ((refine ev_alloc32 rfl (N := 10) rfl rfl ?_; intro b2 hbn w1 hblk hbel; have GNb2 := aK (show N ≤ b2 by have := NN.out; omega); have GPb2 := aK (show w.heap.size ≤ b2 by have := HB.out.size; omega); have LTb1b2 := aK (show b1 < b2 by have := blk_lt BXb1.out; omega); replace HB := aK (below_step HB.out hbel); replace BXb1 := Zc hbel BXb1; replace VT := aK (Kd.V_below VT.out hbel); replace NN := aK (Nat.le_trans NN.out hbel.size); have BXb2 := aK hblk; clear hblk hbel hbn)))
      | ((with_reducible refine gate_ (.store 29 (.tmp 9) (.tmp 33)) rfl ?_); go_must ((refine ev_store29 rfl rfl (.tmp 9) (.tmp 33) rfl (b := b1) (z := T) (v := v) rfl rfl BXb1.out (VK_one VT.out) ?_; intro w1 hblk hg hz; replace HB := aK (pw_below_grown HB.out _ HB.out.size hg (by intro k hk; injection hk with hk; have := GPb1.out; omega)); replace BXb1 := aK (hblk); replace BXb2 := Zh hg BXb2 LTb1b2; replace VT := aK (Kd.V_grown VT.out hg (fun q hq e => by injection e with e; have h9 : q < N := hq; have := GNb1.out; omega)); replace NN := aK (Nat.le_trans NN.out hg.size); clear hblk hg hz)))
      | ((with_reducible refine gate_ (.store 32 (.tmp 10) (.tmp 34)) rfl ?_); go_must ((refine ev_store32 rfl rfl (.tmp 10) (.tmp 34) rfl (b := b2) (e := 0) (f := 0) rfl rfl BXb2.out ?_; intro w1 hblk hg hz; replace HB := aK (pw_below_grown HB.out _ HB.out.size hg (by intro k hk; injection hk with hk; have := GPb2.out; omega)); replace BXb1 := Zg hg BXb1 LTb1b2; replace BXb2 := aK (hblk); replace VT := aK (Kd.V_grown VT.out hg (fun q hq e => by injection e with e; have h9 : q < N := hq; have := GNb2.out; omega)); replace NN := aK (Nat.le_trans NN.out hg.size); clear hblk hg hz)))
      | ((with_reducible refine gD 35 rfl ?_); go_must ((refine Mine.ev_load rfl (N := 35) rfl 29 (.tmp 9) rfl ⟨b1, 0, none⟩ rfl (nc T v) _ (Mine.blk_all BXb1.out) Try.underlying29 rfl info29s ?_)))
      | ((with_reducible refine gD 36 rfl ?_); go_must ((refine goesL_ (some 36) rfl rfl Try.func18 (by kernel_rfl) rfl #[.agg (nc T v).toArray] rfl (mpT rfl) ?_; refine (check_calls VT.out HLN.out HCK.out).mono ?_; rintro e w1 ⟨rfl, hbel⟩; refine ⟨_, rfl, ?_⟩; replace HB := aK (below_step HB.out hbel); replace BXb1 := Zc hbel BXb1; replace BXb2 := Zc hbel BXb2; replace VT := aK (Kd.V_below VT.out hbel); replace NN := aK (Nat.le_trans NN.out hbel.size); clear hbel)))
      | ((with_reducible refine gD 11 rfl ?_); go_must ((refine ev_alloc32 rfl (N := 11) rfl rfl ?_; intro b3 hbn w1 hblk hbel; have GNb3 := aK (show N ≤ b3 by have := NN.out; omega); have GPb3 := aK (show w.heap.size ≤ b3 by have := HB.out.size; omega); have LTb1b3 := aK (show b1 < b3 by have := blk_lt BXb1.out; omega); have LTb2b3 := aK (show b2 < b3 by have := blk_lt BXb2.out; omega); replace HB := aK (below_step HB.out hbel); replace BXb1 := Zc hbel BXb1; replace BXb2 := Zc hbel BXb2; replace VT := aK (Kd.V_below VT.out hbel); replace NN := aK (Nat.le_trans NN.out hbel.size); have BXb3 := aK hblk; clear hblk hbel hbn)))
      | ((with_reducible refine gate_ (.store 32 (.tmp 11) (.tmp 36)) rfl ?_); go_must ((refine ev_store32 rfl rfl (.tmp 11) (.tmp 36) rfl (b := b3) (e := fe) (f := fa) rfl rfl BXb3.out ?_; intro w1 hblk hg hz; replace HB := aK (pw_below_grown HB.out _ HB.out.size hg (by intro k hk; injection hk with hk; have := GPb3.out; omega)); replace BXb1 := Zg hg BXb1 LTb1b3; replace BXb2 := Zg hg BXb2 LTb2b3; replace BXb3 := aK (hblk); replace VT := aK (Kd.V_grown VT.out hg (fun q hq e => by injection e with e; have h9 : q < N := hq; have := GNb3.out; omega)); replace NN := aK (Nat.le_trans NN.out hg.size); clear hblk hg hz)))
      | ((with_reducible refine gD 39 rfl ?_); go_must ((refine goesL_ (some 39) rfl rfl Try.func16 (by kernel_rfl) rfl #[.string en, .string nn] rfl (mpT rfl) ?_; refine (HK2.out _).mono ?_; rintro e w1 ⟨rfl, hbel⟩; refine ⟨_, rfl, ?_⟩; replace HB := aK (below_step HB.out hbel); replace BXb1 := Zc hbel BXb1; replace BXb2 := Zc hbel BXb2; replace BXb3 := Zc hbel BXb3; replace VT := aK (Kd.V_below VT.out hbel); replace NN := aK (Nat.le_trans NN.out hbel.size); clear hbel)))
      | ((with_reducible refine gD 44 rfl ?_); go_must ((refine goesL_ (some 44) rfl rfl Try.func13 (by kernel_rfl) rfl #[] rfl (mpT rfl) ?_; refine (answers17 _).mono ?_; rintro e w1 ⟨rfl, hbel⟩; refine ⟨_, rfl, ?_⟩; replace HB := aK (below_step HB.out hbel); replace BXb1 := Zc hbel BXb1; replace BXb2 := Zc hbel BXb2; replace BXb3 := Zc hbel BXb3; replace VT := aK (Kd.V_below VT.out hbel); replace NN := aK (Nat.le_trans NN.out hbel.size); clear hbel; have e1 := (Mine.blk_cells BXb3.out 0).trans (show _ = some (Value.int .i64 (fe)) from rfl); have e2 := (Mine.blk_cells BXb3.out 1).trans (show _ = some (Value.int .i64 (fa)) from rfl); have e3 := (Mine.blk_cells BXb2.out 0).trans (show _ = some (Value.int .i64 0) from rfl)))))
    go_ret
    exact ⟨rfl, HB.out⟩
end Go.Proofs.Ytdiadmlgeojefaa.A
