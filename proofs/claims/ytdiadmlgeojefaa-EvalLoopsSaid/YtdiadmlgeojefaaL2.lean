/- Laws and walks for EvalLoops: texts laid together by my own small program. -/
import Derived.Test.YtdiadmlgeojefaaL1
namespace Go.Proofs.Ytdiadmlgeojefaa.A
open Go.RowKit Go.Proofs.YtdiadmlgeojefaaW.PrintWords Go.Proofs.YtdiadmlgeojefaaW.PrintLast Go.Proofs.YtdiadmlgeojefaaW.PrintMore
set_option linter.unusedVariables false
set_option linter.unusedSimpArgs false
theorem run_load27 {o : Oper} {a : Act} {x : Operand} (ho : o.op = .load 27 x) {ad : Addr} {v : Value} (hx : a.eval x = .pointer (some ad)) {w : World} (hc : w.cell? ad = some v) : (execOp a.eval o).run Try.prog w = .ok (.value v) w := by
  unfold execOp
  simp only [ho, hx, Instr.loadAt, Instr.sureAddr, Sem.run_bind, Sem.run_pure, Result.andThen_ok, run_loadVar_cell w ad 27 v _ hc Try.underlying27 rfl]
structure app_AChk (ops : Array Oper) : Prop where
  f0 : anyB .any ops #[false, false, false, false, false, false, false, false, false, false, false] #[true, false, false, false, false, false, false, false, false, false, false] 0 = true
  f1 : takeB .any ops [8, 10] #[true, false, false, false, false, false, false, false, false, false, false] #[true, true, false, false, false, false, false, false, false, false, false] 1 = true
  f2 : anyB .any ops #[true, true, false, false, false, false, false, false, false, false, false] #[true, true, true, false, false, false, false, false, false, false, false] 2 = true
  f3 : anyB .any ops #[true, true, true, false, false, false, false, false, false, false, false] #[true, true, true, false, true, false, false, false, false, false, false] 4 = true
  c0 : (Region.ready .any ops #[true, true, true, false, true, false, false, false, false, false, false] == [3, 5] && #[true, true, true, false, true, false, false, false, false, false, false].setIfInBounds 3 true == #[true, true, true, true, true, false, false, false, false, false, false] && #[true, true, true, false, true, false, false, false, false, false, false].setIfInBounds 5 true == #[true, true, true, false, true, true, false, false, false, false, false]) = true
  c1 : readyB .any ops #[true, true, true, true, true, false, false, false, false, false, false] #[true, true, true, true, true, true, false, false, false, false, false] 5 = true
  c2 : readyB .any ops #[true, true, true, false, true, true, false, false, false, false, false] #[true, true, true, true, true, true, false, false, false, false, false] 3 = true
  c3 : readyB .any ops #[true, true, true, true, true, true, false, false, false, false, false] #[true, true, true, true, true, true, true, false, false, false, false] 6 = true
  c4 : anyB .any ops #[true, true, true, true, true, true, true, false, false, false, false] #[true, true, true, true, true, true, true, true, false, false, false] 7 = true
  c5 : anyB .any ops #[true, true, true, true, true, true, true, true, false, false, false] #[true, true, true, true, true, true, true, true, false, true, false] 9 = true
  c6 : (Region.ready .any ops #[true, true, true, true, true, true, true, true, false, true, false] == [8, 10] && #[true, true, true, true, true, true, true, true, false, true, false].setIfInBounds 8 true == #[true, true, true, true, true, true, true, true, true, true, false] && #[true, true, true, true, true, true, true, true, false, true, false].setIfInBounds 10 true == #[true, true, true, true, true, true, true, true, false, true, true]) = true
  c7 : readyB .any ops #[true, true, true, true, true, true, true, true, true, true, false] #[true, true, true, true, true, true, true, true, true, true, true] 10 = true
  c8 : readyB .any ops #[true, true, true, true, true, true, true, true, false, true, true] #[true, true, true, true, true, true, true, true, true, true, true] 8 = true
  c9 : (Region.ready .any ops #[true, true, true, true, true, true, true, true, true, true, true] == []) = true
set_option maxHeartbeats 1000000 in
theorem app_A {ops : Array Oper} {id : Nat} {Q : Exit → Act → World → Prop} {a : Act} {w0 W : World} {g b base : Nat} {ok : Nat → Prop} {L : Toks} {s s' : St} {n T : S29} {A : Option Addr} {c : Nat} (pre : AppPre w0 W g b base ok L s n (.slice A n.f3.length c))
    (d0 dv dm dl dc db da di df dn dx : Tmp) {o0 o1 o2 oc o4 ob oa oi os of_ ox : Oper}
    (hsize : ops.size = 11) (ho0 : ops[0]? = some o0) (ho1 : ops[1]? = some o1) (ho2 : ops[2]? = some o2) (hoc : ops[3]? = some oc) (ho4 : ops[4]? = some o4) (hob : ops[5]? = some ob) (hoa : ops[6]? = some oa) (hoi : ops[7]? = some oi) (hos : ops[8]? = some os) (hof_ : ops[9]? = some of_) (hox : ops[10]? = some ox)
    (go0 : o0.guard = none ∧ o0.dst = some d0) (go1 : o1.guard = none ∧ o1.dst = some dv) (go2 : o2.guard = none ∧ o2.dst = some dm) (goc : oc.guard = none ∧ oc.dst = some dc) (go4 : o4.guard = none ∧ o4.dst = some dl) (gob : ob.guard = none ∧ ob.dst = some db) (goa : oa.guard = none ∧ oa.dst = some da) (goi : oi.guard = none ∧ oi.dst = some di) (gos : os.guard = none ∧ os.dst = none) (gof_ : of_.guard = none ∧ of_.dst = some df) (gox : ox.guard = none ∧ ox.dst = none)
    (po0 : o0.op = .fieldAddr 29 (.tmp dn) 3) (po1 : o1.op = .load 27 (.tmp d0)) (po2 : o2.op = .move (.tmp dx)) (po4 : o4.op = .call { callee := .builtin .len, args := #[.tmp dv], argTypes := #[27] } ∧ o4.type = 3)
    {f : FuncId} {fn : Func} {aa : Array Operand} {ts : Array TypeId} (hf : Try.prog.funcs[f]? = some fn) (hname : (fn.name == "runtime.NumGoroutine") = false) (hb : fn.body.isSome = true) (args : Array Value)
    (poc : oc.op = .call { callee := .value (.func f), args := aa, argTypes := ts }) (hargs : ∀ a' : Act, a'.eval (.tmp dm) = eyeP g → aa.map a'.eval = args)
    (pob : ob.op = .buildSlice 27 1 #[(0, .const (.agg (nc z29 (.slice none 0 0)).toArray))]) (poa : oa.op = .call { callee := .builtin .append, args := #[.tmp dv, .tmp db], argTypes := #[27, 27] })
    (poi : oi.op = .indexAddr 27 (.tmp da) (.tmp dl)) (pos : os.op = .store 29 (.tmp di) (.tmp dc)) (pof : of_.op = .fieldAddr 29 (.tmp dn) 3) (pox : ox.op = .store 27 (.tmp df) (.tmp da))
    (sz : Nat) (hsz : a.tmps.size = sz) (hlt : ∀ d ∈ [d0, dv, dm, dl, dc, db, da, di, df], d < sz) (hnd : List.Nodup [dn, dx, d0, dv, dm, dl, dc, db, da, di, df])
    (hdn : a.eval (.tmp dn) = .pointer (some ⟨b, 0, none⟩)) (hdx : a.eval (.tmp dx) = eyeP g) (hc : app_AChk ops)
    (hQ : ∀ (d : Tmp) v c a w, Q (.panic c) (Act.put a (some d) v) w → Q (.panic c) a w) (hcall : ∀ W1, EyeAt w0 W1 g L s → Calls Try.prog f args W1 (NodePost w0 W1 g L T s'))
    (hpost : ∀ vT vz v1 p1 W', AppPost w0 W g b base ok L s' n T (.slice A n.f3.length c) v1 W' → Q .normal (((((((((a.put (some d0) (.pointer (some ⟨b, 3, none⟩))).put (some dv) (.slice A n.f3.length c)).put (some dm) (eyeP g)).put (some dl) (.int .i64 n.f3.length)).put (some dc) vT).put (some db) vz).put (some da) v1).put (some di) p1).put (some df) (.pointer (some ⟨b, 3, none⟩))) W') :
    (Code.region id ops true).wp Try.prog Q a W := by
  simp only [List.nodup_cons, List.mem_cons, List.not_mem_nil, or_false, not_or, List.nodup_nil, not_false_eq_true, and_true] at hnd
  simp only [List.mem_cons, List.not_mem_nil, or_false, forall_eq_or_imp, forall_eq] at hlt
  obtain ⟨⟨e_dn_dx, e_dn_d0, e_dn_dv, e_dn_dm, e_dn_dl, e_dn_dc, e_dn_db, e_dn_da, e_dn_di, e_dn_df⟩, ⟨e_dx_d0, e_dx_dv, e_dx_dm, e_dx_dl, e_dx_dc, e_dx_db, e_dx_da, e_dx_di, e_dx_df⟩, ⟨e_d0_dv, e_d0_dm, e_d0_dl, e_d0_dc, e_d0_db, e_d0_da, e_d0_di, e_d0_df⟩, ⟨e_dv_dm, e_dv_dl, e_dv_dc, e_dv_db, e_dv_da, e_dv_di, e_dv_df⟩, ⟨e_dm_dl, e_dm_dc, e_dm_db, e_dm_da, e_dm_di, e_dm_df⟩, ⟨e_dl_dc, e_dl_db, e_dl_da, e_dl_di, e_dl_df⟩, ⟨e_dc_db, e_dc_da, e_dc_di, e_dc_df⟩, ⟨e_db_da, e_db_di, e_db_df⟩, ⟨e_da_di, e_da_df⟩, e_di_df⟩ := hnd
  obtain ⟨s_d0, s_dv, s_dm, s_dl, s_dc, s_db, s_da, s_di, s_df⟩ := hlt
  have preD : AppPre w0 W.drew g b base ok L s n (.slice A n.f3.length c) := ⟨⟨pre.eye.1.drew, below_drew pre.eye.2⟩, pre.box, Kd.N_drew pre.row, pre.ne, pre.okg, pre.fresh, pre.base, pre.lo, pre.len⟩
  have hS : W.drew.cell? ⟨b, 3, none⟩ = some (.slice A n.f3.length c) := (Mine.blk_cells preD.box 3).trans rfl
  refine start_ (n := 11) (S := fun w' => w'.cell? ⟨b, 3, none⟩ = some (.slice A n.f3.length c)) (ds := [8, 10]) #[false, false, false, false, false, false, false, false, false, false, false] (by kernel_rfl) hsize rfl hS (fun hS2 => ?_)
  refine pure_ (i := 0) (N := some d0) (v := (.pointer (some ⟨b, 3, none⟩))) #[true, false, false, false, false, false, false, false, false, false, false] ho0 go0.2 hc.f0 (fun c a w => by rw [go0.2]; exact hQ _ _ c a w) (Or.inl ⟨by simp [Region.wanted, go0.1], run_field29 po0 ?_⟩) rfl ?_
  · rw [hdn]
  refine take_ (i := 1) (N := some dv) (v := (.slice A n.f3.length c)) #[true, true, false, false, false, false, false, false, false, false, false] ho1 go1.2 hc.f1 (fun c a w => by rw [go1.2]; exact hQ _ _ c a w) (Or.inl ⟨by simp [Region.wanted, go1.1], fun w9 hw9 => run_load27 po1 ?_ hw9⟩) hS2 rfl ?_
  · rw [act_same _ _ _ (by (try simp only [act_size]); rw [hsz]; exact s_d0)]
  refine pure_ (i := 2) (N := some dm) (v := (eyeP g)) #[true, true, true, false, false, false, false, false, false, false, false] ho2 go2.2 hc.f2 (fun c a w => by rw [go2.2]; exact hQ _ _ c a w) (Or.inl ⟨by simp [Region.wanted, go2.1], run_move po2 ?_⟩) rfl ?_
  · rw [act_ne _ _ (Ne.symm e_dx_dv), act_ne _ _ (Ne.symm e_dx_d0), hdx]
  refine pure_ (i := 4) (N := some dl) (v := (.int .i64 n.f3.length)) #[true, true, true, false, true, false, false, false, false, false, false] ho4 go4.2 hc.f3 (fun c a w => by rw [go4.2]; exact hQ _ _ c a w) (Or.inl ⟨by simp [Region.wanted, go4.1], run_len (A := A) (c := c) po4.1 po4.2 ?_⟩) rfl ?_
  · rw [act_ne _ _ (Ne.symm e_dv_dm), act_same _ _ _ (by (try simp only [act_size]); rw [hsz]; exact s_dv)]
  refine app_core (fuel := 0) preD 3 5 6 7 8 9 10 oc ob oa oi os of_ ox dc db da di df dv dl dn #[true, true, true, true, true, false, false, false, false, false, false] #[true, true, true, false, true, true, false, false, false, false, false] #[true, true, true, true, true, true, false, false, false, false, false] #[true, true, true, true, true, true, true, false, false, false, false] #[true, true, true, true, true, true, true, true, false, false, false] #[true, true, true, true, true, true, true, true, false, true, false] #[true, true, true, true, true, true, true, true, true, true, false] #[true, true, true, true, true, true, true, true, false, true, true] #[true, true, true, true, true, true, true, true, true, true, true] #[true, true, true, false, true, false, false, false, false, false, false]
    hoc hob hoa hoi hos hof_ hox goc gob goa goi gos gof_ gox hf hname hb args poc ?_ ?_ pob poa poi pos pof pox ?_ ?_ ?_ ?_ ?_ hc.c0 hc.c1 hc.c2 hc.c3 hc.c4 hc.c5 hc.c6 hc.c7 hc.c8 hc.c9 ⟨by decide, by decide, by decide⟩ hQ hcall (fun vT vz v1 p1 W' h => hpost vT vz v1 p1 W' h)
  · exact hargs _ (by rw [act_ne _ _ (Ne.symm e_dm_dl), act_same _ _ _ (by (try simp only [act_size]); rw [hsz]; exact s_dm)])
  · exact fun vz => hargs _ (by rw [act_ne _ _ (Ne.symm e_dm_db), act_ne _ _ (Ne.symm e_dm_dl), act_same _ _ _ (by (try simp only [act_size]); rw [hsz]; exact s_dm)])
  · simp only [act_size]; rw [hsz]; exact ⟨s_dc, s_db, s_da, s_di, s_df⟩
  · exact ⟨⟨e_dc_db, e_dc_da, e_dc_di, e_dc_df, e_db_da, e_db_di, e_db_df, e_da_di, e_da_df, e_di_df⟩, ⟨(Ne.symm e_dv_dc), (Ne.symm e_dv_db)⟩, ⟨(Ne.symm e_dl_dc), (Ne.symm e_dl_db), (Ne.symm e_dl_da)⟩, ⟨(Ne.symm e_dn_dc), (Ne.symm e_dn_db), (Ne.symm e_dn_da), (Ne.symm e_dn_di)⟩⟩
  · rw [act_ne _ _ (Ne.symm e_dv_dl), act_ne _ _ (Ne.symm e_dv_dm), act_same _ _ _ (by (try simp only [act_size]); rw [hsz]; exact s_dv)]
  · rw [act_same _ _ _ (by (try simp only [act_size]); rw [hsz]; exact s_dl)]
  · rw [act_ne _ _ (Ne.symm e_dn_dl), act_ne _ _ (Ne.symm e_dn_dm), act_ne _ _ (Ne.symm e_dn_dv), act_ne _ _ (Ne.symm e_dn_d0), hdn]
structure app_BChk (ops : Array Oper) : Prop where
  f0 : anyB .any ops #[false, false, false, false, false, false, false, false, false, false, false, false] #[true, false, false, false, false, false, false, false, false, false, false, false] 0 = true
  f1 : takeB .any ops [9, 11] #[true, false, false, false, false, false, false, false, false, false, false, false] #[true, true, false, false, false, false, false, false, false, false, false, false] 1 = true
  f2 : anyB .any ops #[true, true, false, false, false, false, false, false, false, false, false, false] #[true, true, true, false, false, false, false, false, false, false, false, false] 2 = true
  f3 : anyB .any ops #[true, true, true, false, false, false, false, false, false, false, false, false] #[true, true, true, true, false, false, false, false, false, false, false, false] 3 = true
  f4 : anyB .any ops #[true, true, true, true, false, false, false, false, false, false, false, false] #[true, true, true, true, false, true, false, false, false, false, false, false] 5 = true
  c0 : (Region.ready .any ops #[true, true, true, true, false, true, false, false, false, false, false, false] == [4, 6] && #[true, true, true, true, false, true, false, false, false, false, false, false].setIfInBounds 4 true == #[true, true, true, true, true, true, false, false, false, false, false, false] && #[true, true, true, true, false, true, false, false, false, false, false, false].setIfInBounds 6 true == #[true, true, true, true, false, true, true, false, false, false, false, false]) = true
  c1 : readyB .any ops #[true, true, true, true, true, true, false, false, false, false, false, false] #[true, true, true, true, true, true, true, false, false, false, false, false] 6 = true
  c2 : readyB .any ops #[true, true, true, true, false, true, true, false, false, false, false, false] #[true, true, true, true, true, true, true, false, false, false, false, false] 4 = true
  c3 : readyB .any ops #[true, true, true, true, true, true, true, false, false, false, false, false] #[true, true, true, true, true, true, true, true, false, false, false, false] 7 = true
  c4 : anyB .any ops #[true, true, true, true, true, true, true, true, false, false, false, false] #[true, true, true, true, true, true, true, true, true, false, false, false] 8 = true
  c5 : anyB .any ops #[true, true, true, true, true, true, true, true, true, false, false, false] #[true, true, true, true, true, true, true, true, true, false, true, false] 10 = true
  c6 : (Region.ready .any ops #[true, true, true, true, true, true, true, true, true, false, true, false] == [9, 11] && #[true, true, true, true, true, true, true, true, true, false, true, false].setIfInBounds 9 true == #[true, true, true, true, true, true, true, true, true, true, true, false] && #[true, true, true, true, true, true, true, true, true, false, true, false].setIfInBounds 11 true == #[true, true, true, true, true, true, true, true, true, false, true, true]) = true
  c7 : readyB .any ops #[true, true, true, true, true, true, true, true, true, true, true, false] #[true, true, true, true, true, true, true, true, true, true, true, true] 11 = true
  c8 : readyB .any ops #[true, true, true, true, true, true, true, true, true, false, true, true] #[true, true, true, true, true, true, true, true, true, true, true, true] 9 = true
  c9 : (Region.ready .any ops #[true, true, true, true, true, true, true, true, true, true, true, true] == []) = true
set_option maxHeartbeats 1000000 in
theorem app_B {ops : Array Oper} {id : Nat} {Q : Exit → Act → World → Prop} {a : Act} {w0 W : World} {g b base : Nat} {ok : Nat → Prop} {L : Toks} {s s' : St} {n T : S29} {A : Option Addr} {c : Nat} (pre : AppPre w0 W g b base ok L s n (.slice A n.f3.length c))
    (d0 dv dm dm2 dl dc db da di df dn dx dy : Tmp) {o0 o1 o2 o3 oc o5 ob oa oi os of_ ox : Oper}
    (hsize : ops.size = 12) (ho0 : ops[0]? = some o0) (ho1 : ops[1]? = some o1) (ho2 : ops[2]? = some o2) (ho3 : ops[3]? = some o3) (hoc : ops[4]? = some oc) (ho5 : ops[5]? = some o5) (hob : ops[6]? = some ob) (hoa : ops[7]? = some oa) (hoi : ops[8]? = some oi) (hos : ops[9]? = some os) (hof_ : ops[10]? = some of_) (hox : ops[11]? = some ox)
    (go0 : o0.guard = none ∧ o0.dst = some d0) (go1 : o1.guard = none ∧ o1.dst = some dv) (go2 : o2.guard = none ∧ o2.dst = some dm) (go3 : o3.guard = none ∧ o3.dst = some dm2) (goc : oc.guard = none ∧ oc.dst = some dc) (go5 : o5.guard = none ∧ o5.dst = some dl) (gob : ob.guard = none ∧ ob.dst = some db) (goa : oa.guard = none ∧ oa.dst = some da) (goi : oi.guard = none ∧ oi.dst = some di) (gos : os.guard = none ∧ os.dst = none) (gof_ : of_.guard = none ∧ of_.dst = some df) (gox : ox.guard = none ∧ ox.dst = none)
    (po0 : o0.op = .fieldAddr 29 (.tmp dn) 3) (po1 : o1.op = .load 27 (.tmp d0)) (po2 : o2.op = .move (.tmp dx)) (po3 : o3.op = .move (.tmp dy)) (po5 : o5.op = .call { callee := .builtin .len, args := #[.tmp dv], argTypes := #[27] } ∧ o5.type = 3)
    {f : FuncId} {fn : Func} {aa : Array Operand} {ts : Array TypeId} (hf : Try.prog.funcs[f]? = some fn) (hname : (fn.name == "runtime.NumGoroutine") = false) (hb : fn.body.isSome = true) (args : Array Value) (vy : Value)
    (poc : oc.op = .call { callee := .value (.func f), args := aa, argTypes := ts }) (hargs : ∀ a' : Act, a'.eval (.tmp dm) = eyeP g → a'.eval (.tmp dm2) = vy → aa.map a'.eval = args)
    (pob : ob.op = .buildSlice 27 1 #[(0, .const (.agg (nc z29 (.slice none 0 0)).toArray))]) (poa : oa.op = .call { callee := .builtin .append, args := #[.tmp dv, .tmp db], argTypes := #[27, 27] })
    (poi : oi.op = .indexAddr 27 (.tmp da) (.tmp dl)) (pos : os.op = .store 29 (.tmp di) (.tmp dc)) (pof : of_.op = .fieldAddr 29 (.tmp dn) 3) (pox : ox.op = .store 27 (.tmp df) (.tmp da))
    (sz : Nat) (hsz : a.tmps.size = sz) (hlt : ∀ d ∈ [d0, dv, dm, dm2, dl, dc, db, da, di, df], d < sz) (hnd : List.Nodup [dn, dx, dy, d0, dv, dm, dm2, dl, dc, db, da, di, df])
    (hdn : a.eval (.tmp dn) = .pointer (some ⟨b, 0, none⟩)) (hdx : a.eval (.tmp dx) = eyeP g) (hdy : a.eval (.tmp dy) = vy) (hc : app_BChk ops)
    (hQ : ∀ (d : Tmp) v c a w, Q (.panic c) (Act.put a (some d) v) w → Q (.panic c) a w) (hcall : ∀ W1, EyeAt w0 W1 g L s → Calls Try.prog f args W1 (NodePost w0 W1 g L T s'))
    (hpost : ∀ vT vz v1 p1 W', AppPost w0 W g b base ok L s' n T (.slice A n.f3.length c) v1 W' → Q .normal ((((((((((a.put (some d0) (.pointer (some ⟨b, 3, none⟩))).put (some dv) (.slice A n.f3.length c)).put (some dm) (eyeP g)).put (some dm2) vy).put (some dl) (.int .i64 n.f3.length)).put (some dc) vT).put (some db) vz).put (some da) v1).put (some di) p1).put (some df) (.pointer (some ⟨b, 3, none⟩))) W') :
    (Code.region id ops true).wp Try.prog Q a W := by
  simp only [List.nodup_cons, List.mem_cons, List.not_mem_nil, or_false, not_or, List.nodup_nil, not_false_eq_true, and_true] at hnd
  simp only [List.mem_cons, List.not_mem_nil, or_false, forall_eq_or_imp, forall_eq] at hlt
  obtain ⟨⟨e_dn_dx, e_dn_dy, e_dn_d0, e_dn_dv, e_dn_dm, e_dn_dm2, e_dn_dl, e_dn_dc, e_dn_db, e_dn_da, e_dn_di, e_dn_df⟩, ⟨e_dx_dy, e_dx_d0, e_dx_dv, e_dx_dm, e_dx_dm2, e_dx_dl, e_dx_dc, e_dx_db, e_dx_da, e_dx_di, e_dx_df⟩, ⟨e_dy_d0, e_dy_dv, e_dy_dm, e_dy_dm2, e_dy_dl, e_dy_dc, e_dy_db, e_dy_da, e_dy_di, e_dy_df⟩, ⟨e_d0_dv, e_d0_dm, e_d0_dm2, e_d0_dl, e_d0_dc, e_d0_db, e_d0_da, e_d0_di, e_d0_df⟩, ⟨e_dv_dm, e_dv_dm2, e_dv_dl, e_dv_dc, e_dv_db, e_dv_da, e_dv_di, e_dv_df⟩, ⟨e_dm_dm2, e_dm_dl, e_dm_dc, e_dm_db, e_dm_da, e_dm_di, e_dm_df⟩, ⟨e_dm2_dl, e_dm2_dc, e_dm2_db, e_dm2_da, e_dm2_di, e_dm2_df⟩, ⟨e_dl_dc, e_dl_db, e_dl_da, e_dl_di, e_dl_df⟩, ⟨e_dc_db, e_dc_da, e_dc_di, e_dc_df⟩, ⟨e_db_da, e_db_di, e_db_df⟩, ⟨e_da_di, e_da_df⟩, e_di_df⟩ := hnd
  obtain ⟨s_d0, s_dv, s_dm, s_dm2, s_dl, s_dc, s_db, s_da, s_di, s_df⟩ := hlt
  have preD : AppPre w0 W.drew g b base ok L s n (.slice A n.f3.length c) := ⟨⟨pre.eye.1.drew, below_drew pre.eye.2⟩, pre.box, Kd.N_drew pre.row, pre.ne, pre.okg, pre.fresh, pre.base, pre.lo, pre.len⟩
  have hS : W.drew.cell? ⟨b, 3, none⟩ = some (.slice A n.f3.length c) := (Mine.blk_cells preD.box 3).trans rfl
  refine start_ (n := 12) (S := fun w' => w'.cell? ⟨b, 3, none⟩ = some (.slice A n.f3.length c)) (ds := [9, 11]) #[false, false, false, false, false, false, false, false, false, false, false, false] (by kernel_rfl) hsize rfl hS (fun hS2 => ?_)
  refine pure_ (i := 0) (N := some d0) (v := (.pointer (some ⟨b, 3, none⟩))) #[true, false, false, false, false, false, false, false, false, false, false, false] ho0 go0.2 hc.f0 (fun c a w => by rw [go0.2]; exact hQ _ _ c a w) (Or.inl ⟨by simp [Region.wanted, go0.1], run_field29 po0 ?_⟩) rfl ?_
  · rw [hdn]
  refine take_ (i := 1) (N := some dv) (v := (.slice A n.f3.length c)) #[true, true, false, false, false, false, false, false, false, false, false, false] ho1 go1.2 hc.f1 (fun c a w => by rw [go1.2]; exact hQ _ _ c a w) (Or.inl ⟨by simp [Region.wanted, go1.1], fun w9 hw9 => run_load27 po1 ?_ hw9⟩) hS2 rfl ?_
  · rw [act_same _ _ _ (by (try simp only [act_size]); rw [hsz]; exact s_d0)]
  refine pure_ (i := 2) (N := some dm) (v := (eyeP g)) #[true, true, true, false, false, false, false, false, false, false, false, false] ho2 go2.2 hc.f2 (fun c a w => by rw [go2.2]; exact hQ _ _ c a w) (Or.inl ⟨by simp [Region.wanted, go2.1], run_move po2 ?_⟩) rfl ?_
  · rw [act_ne _ _ (Ne.symm e_dx_dv), act_ne _ _ (Ne.symm e_dx_d0), hdx]
  refine pure_ (i := 3) (N := some dm2) (v := vy) #[true, true, true, true, false, false, false, false, false, false, false, false] ho3 go3.2 hc.f3 (fun c a w => by rw [go3.2]; exact hQ _ _ c a w) (Or.inl ⟨by simp [Region.wanted, go3.1], run_move po3 ?_⟩) rfl ?_
  · rw [act_ne _ _ (Ne.symm e_dy_dm), act_ne _ _ (Ne.symm e_dy_dv), act_ne _ _ (Ne.symm e_dy_d0), hdy]
  refine pure_ (i := 5) (N := some dl) (v := (.int .i64 n.f3.length)) #[true, true, true, true, false, true, false, false, false, false, false, false] ho5 go5.2 hc.f4 (fun c a w => by rw [go5.2]; exact hQ _ _ c a w) (Or.inl ⟨by simp [Region.wanted, go5.1], run_len (A := A) (c := c) po5.1 po5.2 ?_⟩) rfl ?_
  · rw [act_ne _ _ (Ne.symm e_dv_dm2), act_ne _ _ (Ne.symm e_dv_dm), act_same _ _ _ (by (try simp only [act_size]); rw [hsz]; exact s_dv)]
  refine app_core (fuel := 0) preD 4 6 7 8 9 10 11 oc ob oa oi os of_ ox dc db da di df dv dl dn #[true, true, true, true, true, true, false, false, false, false, false, false] #[true, true, true, true, false, true, true, false, false, false, false, false] #[true, true, true, true, true, true, true, false, false, false, false, false] #[true, true, true, true, true, true, true, true, false, false, false, false] #[true, true, true, true, true, true, true, true, true, false, false, false] #[true, true, true, true, true, true, true, true, true, false, true, false] #[true, true, true, true, true, true, true, true, true, true, true, false] #[true, true, true, true, true, true, true, true, true, false, true, true] #[true, true, true, true, true, true, true, true, true, true, true, true] #[true, true, true, true, false, true, false, false, false, false, false, false]
    hoc hob hoa hoi hos hof_ hox goc gob goa goi gos gof_ gox hf hname hb args poc ?_ ?_ pob poa poi pos pof pox ?_ ?_ ?_ ?_ ?_ hc.c0 hc.c1 hc.c2 hc.c3 hc.c4 hc.c5 hc.c6 hc.c7 hc.c8 hc.c9 ⟨by decide, by decide, by decide⟩ hQ hcall (fun vT vz v1 p1 W' h => hpost vT vz v1 p1 W' h)
  · exact hargs _ (by rw [act_ne _ _ (Ne.symm e_dm_dl), act_ne _ _ (Ne.symm e_dm_dm2), act_same _ _ _ (by (try simp only [act_size]); rw [hsz]; exact s_dm)]) (by rw [act_ne _ _ (Ne.symm e_dm2_dl), act_same _ _ _ (by (try simp only [act_size]); rw [hsz]; exact s_dm2)])
  · exact fun vz => hargs _ (by rw [act_ne _ _ (Ne.symm e_dm_db), act_ne _ _ (Ne.symm e_dm_dl), act_ne _ _ (Ne.symm e_dm_dm2), act_same _ _ _ (by (try simp only [act_size]); rw [hsz]; exact s_dm)]) (by rw [act_ne _ _ (Ne.symm e_dm2_db), act_ne _ _ (Ne.symm e_dm2_dl), act_same _ _ _ (by (try simp only [act_size]); rw [hsz]; exact s_dm2)])
  · simp only [act_size]; rw [hsz]; exact ⟨s_dc, s_db, s_da, s_di, s_df⟩
  · exact ⟨⟨e_dc_db, e_dc_da, e_dc_di, e_dc_df, e_db_da, e_db_di, e_db_df, e_da_di, e_da_df, e_di_df⟩, ⟨(Ne.symm e_dv_dc), (Ne.symm e_dv_db)⟩, ⟨(Ne.symm e_dl_dc), (Ne.symm e_dl_db), (Ne.symm e_dl_da)⟩, ⟨(Ne.symm e_dn_dc), (Ne.symm e_dn_db), (Ne.symm e_dn_da), (Ne.symm e_dn_di)⟩⟩
  · rw [act_ne _ _ (Ne.symm e_dv_dl), act_ne _ _ (Ne.symm e_dv_dm2), act_ne _ _ (Ne.symm e_dv_dm), act_same _ _ _ (by (try simp only [act_size]); rw [hsz]; exact s_dv)]
  · rw [act_same _ _ _ (by (try simp only [act_size]); rw [hsz]; exact s_dl)]
  · rw [act_ne _ _ (Ne.symm e_dn_dl), act_ne _ _ (Ne.symm e_dn_dm2), act_ne _ _ (Ne.symm e_dn_dm), act_ne _ _ (Ne.symm e_dn_dv), act_ne _ _ (Ne.symm e_dn_d0), hdn]
structure app_CChk (ops : Array Oper) : Prop where
  f0 : anyB .any ops #[false, false, false, false, false, false, false, false, false, false, false, false, false, false] #[true, false, false, false, false, false, false, false, false, false, false, false, false, false] 0 = true
  f1 : anyB .any ops #[true, false, false, false, false, false, false, false, false, false, false, false, false, false] #[true, true, false, false, false, false, false, false, false, false, false, false, false, false] 1 = true
  f2 : anyB .any ops #[true, true, false, false, false, false, false, false, false, false, false, false, false, false] #[true, true, true, false, false, false, false, false, false, false, false, false, false, false] 2 = true
  f3 : takeB .any ops [10, 13] #[true, true, true, false, false, false, false, false, false, false, false, false, false, false] #[true, true, true, true, false, false, false, false, false, false, false, false, false, false] 3 = true
  f4 : anyB .any ops #[true, true, true, true, false, false, false, false, false, false, false, false, false, false] #[true, true, true, true, true, false, false, false, false, false, false, false, false, false] 4 = true
  f5 : anyB .any ops #[true, true, true, true, true, false, false, false, false, false, false, false, false, false] #[true, true, true, true, true, false, true, false, false, false, false, false, false, false] 6 = true
  c0 : (Region.ready .any ops #[true, true, true, true, true, false, true, false, false, false, false, false, false, false] == [5, 7] && #[true, true, true, true, true, false, true, false, false, false, false, false, false, false].setIfInBounds 5 true == #[true, true, true, true, true, true, true, false, false, false, false, false, false, false] && #[true, true, true, true, true, false, true, false, false, false, false, false, false, false].setIfInBounds 7 true == #[true, true, true, true, true, false, true, true, false, false, false, false, false, false]) = true
  c1 : readyB .any ops #[true, true, true, true, true, true, true, false, false, false, false, false, false, false] #[true, true, true, true, true, true, true, true, false, false, false, false, false, false] 7 = true
  c2 : readyB .any ops #[true, true, true, true, true, false, true, true, false, false, false, false, false, false] #[true, true, true, true, true, true, true, true, false, false, false, false, false, false] 5 = true
  c3 : readyB .any ops #[true, true, true, true, true, true, true, true, false, false, false, false, false, false] #[true, true, true, true, true, true, true, true, true, false, false, false, false, false] 8 = true
  c4 : anyB .any ops #[true, true, true, true, true, true, true, true, true, false, false, false, false, false] #[true, true, true, true, true, true, true, true, true, true, false, false, false, false] 9 = true
  c5 : anyB .any ops #[true, true, true, true, true, true, true, true, true, true, false, false, false, false] #[true, true, true, true, true, true, true, true, true, true, false, true, false, false] 11 = true
  c6 : anyB .any ops #[true, true, true, true, true, true, true, true, true, true, false, true, false, false] #[true, true, true, true, true, true, true, true, true, true, false, true, true, false] 12 = true
  c7 : (Region.ready .any ops #[true, true, true, true, true, true, true, true, true, true, false, true, true, false] == [10, 13] && #[true, true, true, true, true, true, true, true, true, true, false, true, true, false].setIfInBounds 10 true == #[true, true, true, true, true, true, true, true, true, true, true, true, true, false] && #[true, true, true, true, true, true, true, true, true, true, false, true, true, false].setIfInBounds 13 true == #[true, true, true, true, true, true, true, true, true, true, false, true, true, true]) = true
  c8 : readyB .any ops #[true, true, true, true, true, true, true, true, true, true, true, true, true, false] #[true, true, true, true, true, true, true, true, true, true, true, true, true, true] 13 = true
  c9 : readyB .any ops #[true, true, true, true, true, true, true, true, true, true, false, true, true, true] #[true, true, true, true, true, true, true, true, true, true, true, true, true, true] 10 = true
  c10 : (Region.ready .any ops #[true, true, true, true, true, true, true, true, true, true, true, true, true, true] == []) = true
set_option maxHeartbeats 1000000 in
theorem app_C {ops : Array Oper} {id : Nat} {Q : Exit → Act → World → Prop} {a : Act} {w0 W : World} {g b base : Nat} {ok : Nat → Prop} {L : Toks} {s s' : St} {n T : S29} {A : Option Addr} {c : Nat} (pre : AppPre w0 W g b base ok L s n (.slice A n.f3.length c))
    (dk0 d1 d0 dv dm dl dc db da di dk df dn dx : Tmp) {o0 o1 o2 o3 o4 oc o6 ob oa oi os ok_ of_ ox : Oper}
    (hsize : ops.size = 14) (ho0 : ops[0]? = some o0) (ho1 : ops[1]? = some o1) (ho2 : ops[2]? = some o2) (ho3 : ops[3]? = some o3) (ho4 : ops[4]? = some o4) (hoc : ops[5]? = some oc) (ho6 : ops[6]? = some o6) (hob : ops[7]? = some ob) (hoa : ops[8]? = some oa) (hoi : ops[9]? = some oi) (hos : ops[10]? = some os) (hok_ : ops[11]? = some ok_) (hof_ : ops[12]? = some of_) (hox : ops[13]? = some ox)
    (go0 : o0.guard = none ∧ o0.dst = some dk0) (go1 : o1.guard = none ∧ o1.dst = some d1) (go2 : o2.guard = none ∧ o2.dst = some d0) (go3 : o3.guard = none ∧ o3.dst = some dv) (go4 : o4.guard = none ∧ o4.dst = some dm) (goc : oc.guard = none ∧ oc.dst = some dc) (go6 : o6.guard = none ∧ o6.dst = some dl) (gob : ob.guard = none ∧ ob.dst = some db) (goa : oa.guard = none ∧ oa.dst = some da) (goi : oi.guard = none ∧ oi.dst = some di) (gos : os.guard = none ∧ os.dst = none) (gok_ : ok_.guard = none ∧ ok_.dst = some dk) (gof_ : of_.guard = none ∧ of_.dst = some df) (gox : ox.guard = none ∧ ox.dst = none)
    (po0 : o0.op = .move (.tmp dn)) (po1 : o1.op = .nilCheck (.tmp dk0)) (po2 : o2.op = .fieldAddr 29 (.tmp d1) 3) (po3 : o3.op = .load 27 (.tmp d0)) (po4 : o4.op = .move (.tmp dx)) (po6 : o6.op = .call { callee := .builtin .len, args := #[.tmp dv], argTypes := #[27] } ∧ o6.type = 3)
    {f : FuncId} {fn : Func} {aa : Array Operand} {ts : Array TypeId} (hf : Try.prog.funcs[f]? = some fn) (hname : (fn.name == "runtime.NumGoroutine") = false) (hb : fn.body.isSome = true) (args : Array Value)
    (poc : oc.op = .call { callee := .value (.func f), args := aa, argTypes := ts }) (hargs : ∀ a' : Act, a'.eval (.tmp dm) = eyeP g → aa.map a'.eval = args)
    (pob : ob.op = .buildSlice 27 1 #[(0, .const (.agg (nc z29 (.slice none 0 0)).toArray))]) (poa : oa.op = .call { callee := .builtin .append, args := #[.tmp dv, .tmp db], argTypes := #[27, 27] })
    (poi : oi.op = .indexAddr 27 (.tmp da) (.tmp dl)) (pos : os.op = .store 29 (.tmp di) (.tmp dc)) (pok : ok_.op = .nilCheck (.tmp dk0)) (pof : of_.op = .fieldAddr 29 (.tmp dk) 3) (pox : ox.op = .store 27 (.tmp df) (.tmp da))
    (sz : Nat) (hsz : a.tmps.size = sz) (hlt : ∀ d ∈ [dk0, d1, d0, dv, dm, dl, dc, db, da, di, dk, df], d < sz) (hnd : List.Nodup [dn, dx, dk0, d1, d0, dv, dm, dl, dc, db, da, di, dk, df])
    (hdn : a.eval (.tmp dn) = .pointer (some ⟨b, 0, none⟩)) (hdx : a.eval (.tmp dx) = eyeP g) (hc : app_CChk ops)
    (hQ : ∀ (d : Tmp) v c a w, Q (.panic c) (Act.put a (some d) v) w → Q (.panic c) a w) (hcall : ∀ W1, EyeAt w0 W1 g L s → Calls Try.prog f args W1 (NodePost w0 W1 g L T s'))
    (hpost : ∀ vT vz v1 p1 W', AppPost w0 W g b base ok L s' n T (.slice A n.f3.length c) v1 W' → Q .normal ((((((((((((a.put (some dk0) (.pointer (some ⟨b, 0, none⟩))).put (some d1) (.pointer (some ⟨b, 0, none⟩))).put (some d0) (.pointer (some ⟨b, 3, none⟩))).put (some dv) (.slice A n.f3.length c)).put (some dm) (eyeP g)).put (some dl) (.int .i64 n.f3.length)).put (some dc) vT).put (some db) vz).put (some da) v1).put (some di) p1).put (some dk) (.pointer (some ⟨b, 0, none⟩))).put (some df) (.pointer (some ⟨b, 3, none⟩))) W') :
    (Code.region id ops true).wp Try.prog Q a W := by
  simp only [List.nodup_cons, List.mem_cons, List.not_mem_nil, or_false, not_or, List.nodup_nil, not_false_eq_true, and_true] at hnd
  simp only [List.mem_cons, List.not_mem_nil, or_false, forall_eq_or_imp, forall_eq] at hlt
  obtain ⟨⟨e_dn_dx, e_dn_dk0, e_dn_d1, e_dn_d0, e_dn_dv, e_dn_dm, e_dn_dl, e_dn_dc, e_dn_db, e_dn_da, e_dn_di, e_dn_dk, e_dn_df⟩, ⟨e_dx_dk0, e_dx_d1, e_dx_d0, e_dx_dv, e_dx_dm, e_dx_dl, e_dx_dc, e_dx_db, e_dx_da, e_dx_di, e_dx_dk, e_dx_df⟩, ⟨e_dk0_d1, e_dk0_d0, e_dk0_dv, e_dk0_dm, e_dk0_dl, e_dk0_dc, e_dk0_db, e_dk0_da, e_dk0_di, e_dk0_dk, e_dk0_df⟩, ⟨e_d1_d0, e_d1_dv, e_d1_dm, e_d1_dl, e_d1_dc, e_d1_db, e_d1_da, e_d1_di, e_d1_dk, e_d1_df⟩, ⟨e_d0_dv, e_d0_dm, e_d0_dl, e_d0_dc, e_d0_db, e_d0_da, e_d0_di, e_d0_dk, e_d0_df⟩, ⟨e_dv_dm, e_dv_dl, e_dv_dc, e_dv_db, e_dv_da, e_dv_di, e_dv_dk, e_dv_df⟩, ⟨e_dm_dl, e_dm_dc, e_dm_db, e_dm_da, e_dm_di, e_dm_dk, e_dm_df⟩, ⟨e_dl_dc, e_dl_db, e_dl_da, e_dl_di, e_dl_dk, e_dl_df⟩, ⟨e_dc_db, e_dc_da, e_dc_di, e_dc_dk, e_dc_df⟩, ⟨e_db_da, e_db_di, e_db_dk, e_db_df⟩, ⟨e_da_di, e_da_dk, e_da_df⟩, ⟨e_di_dk, e_di_df⟩, e_dk_df⟩ := hnd
  obtain ⟨s_dk0, s_d1, s_d0, s_dv, s_dm, s_dl, s_dc, s_db, s_da, s_di, s_dk, s_df⟩ := hlt
  have preD : AppPre w0 W.drew g b base ok L s n (.slice A n.f3.length c) := ⟨⟨pre.eye.1.drew, below_drew pre.eye.2⟩, pre.box, Kd.N_drew pre.row, pre.ne, pre.okg, pre.fresh, pre.base, pre.lo, pre.len⟩
  have hS : W.drew.cell? ⟨b, 3, none⟩ = some (.slice A n.f3.length c) := (Mine.blk_cells preD.box 3).trans rfl
  refine start_ (n := 14) (S := fun w' => w'.cell? ⟨b, 3, none⟩ = some (.slice A n.f3.length c)) (ds := [10, 13]) #[false, false, false, false, false, false, false, false, false, false, false, false, false, false] (by kernel_rfl) hsize rfl hS (fun hS2 => ?_)
  refine pure_ (i := 0) (N := some dk0) (v := (.pointer (some ⟨b, 0, none⟩))) #[true, false, false, false, false, false, false, false, false, false, false, false, false, false] ho0 go0.2 hc.f0 (fun c a w => by rw [go0.2]; exact hQ _ _ c a w) (Or.inl ⟨by simp [Region.wanted, go0.1], run_move po0 ?_⟩) rfl ?_
  · rw [hdn]
  refine pure_ (i := 1) (N := some d1) (v := (.pointer (some ⟨b, 0, none⟩))) #[true, true, false, false, false, false, false, false, false, false, false, false, false, false] ho1 go1.2 hc.f1 (fun c a w => by rw [go1.2]; exact hQ _ _ c a w) (Or.inl ⟨by simp [Region.wanted, go1.1], run_nil po1 ?_⟩) rfl ?_
  · rw [act_same _ _ _ (by (try simp only [act_size]); rw [hsz]; exact s_dk0)]
  refine pure_ (i := 2) (N := some d0) (v := (.pointer (some ⟨b, 3, none⟩))) #[true, true, true, false, false, false, false, false, false, false, false, false, false, false] ho2 go2.2 hc.f2 (fun c a w => by rw [go2.2]; exact hQ _ _ c a w) (Or.inl ⟨by simp [Region.wanted, go2.1], run_field29 po2 ?_⟩) rfl ?_
  · rw [act_same _ _ _ (by (try simp only [act_size]); rw [hsz]; exact s_d1)]
  refine take_ (i := 3) (N := some dv) (v := (.slice A n.f3.length c)) #[true, true, true, true, false, false, false, false, false, false, false, false, false, false] ho3 go3.2 hc.f3 (fun c a w => by rw [go3.2]; exact hQ _ _ c a w) (Or.inl ⟨by simp [Region.wanted, go3.1], fun w9 hw9 => run_load27 po3 ?_ hw9⟩) hS2 rfl ?_
  · rw [act_same _ _ _ (by (try simp only [act_size]); rw [hsz]; exact s_d0)]
  refine pure_ (i := 4) (N := some dm) (v := (eyeP g)) #[true, true, true, true, true, false, false, false, false, false, false, false, false, false] ho4 go4.2 hc.f4 (fun c a w => by rw [go4.2]; exact hQ _ _ c a w) (Or.inl ⟨by simp [Region.wanted, go4.1], run_move po4 ?_⟩) rfl ?_
  · rw [act_ne _ _ (Ne.symm e_dx_dv), act_ne _ _ (Ne.symm e_dx_d0), act_ne _ _ (Ne.symm e_dx_d1), act_ne _ _ (Ne.symm e_dx_dk0), hdx]
  refine pure_ (i := 6) (N := some dl) (v := (.int .i64 n.f3.length)) #[true, true, true, true, true, false, true, false, false, false, false, false, false, false] ho6 go6.2 hc.f5 (fun c a w => by rw [go6.2]; exact hQ _ _ c a w) (Or.inl ⟨by simp [Region.wanted, go6.1], run_len (A := A) (c := c) po6.1 po6.2 ?_⟩) rfl ?_
  · rw [act_ne _ _ (Ne.symm e_dv_dm), act_same _ _ _ (by (try simp only [act_size]); rw [hsz]; exact s_dv)]
  refine app_coreC (fuel := 0) preD 5 7 8 9 10 11 12 13 oc ob oa oi os ok_ of_ ox dc db da di dk df dv dl dk0 #[true, true, true, true, true, true, true, false, false, false, false, false, false, false] #[true, true, true, true, true, false, true, true, false, false, false, false, false, false] #[true, true, true, true, true, true, true, true, false, false, false, false, false, false] #[true, true, true, true, true, true, true, true, true, false, false, false, false, false] #[true, true, true, true, true, true, true, true, true, true, false, false, false, false] #[true, true, true, true, true, true, true, true, true, true, false, true, false, false] #[true, true, true, true, true, true, true, true, true, true, false, true, true, false] #[true, true, true, true, true, true, true, true, true, true, true, true, true, false] #[true, true, true, true, true, true, true, true, true, true, false, true, true, true] #[true, true, true, true, true, true, true, true, true, true, true, true, true, true] #[true, true, true, true, true, false, true, false, false, false, false, false, false, false]
    hoc hob hoa hoi hos hok_ hof_ hox goc gob goa goi gos gok_ gof_ gox hf hname hb args poc ?_ ?_ pob poa poi pos pok pof pox ?_ ?_ ?_ ?_ ?_ hc.c0 hc.c1 hc.c2 hc.c3 hc.c4 hc.c5 hc.c6 hc.c7 hc.c8 hc.c9 hc.c10 ⟨by decide, by decide, by decide⟩ hQ hcall (fun vT vz v1 p1 W' h => hpost vT vz v1 p1 W' h)
  · exact hargs _ (by rw [act_ne _ _ (Ne.symm e_dm_dl), act_same _ _ _ (by (try simp only [act_size]); rw [hsz]; exact s_dm)])
  · exact fun vz => hargs _ (by rw [act_ne _ _ (Ne.symm e_dm_db), act_ne _ _ (Ne.symm e_dm_dl), act_same _ _ _ (by (try simp only [act_size]); rw [hsz]; exact s_dm)])
  · simp only [act_size]; rw [hsz]; exact ⟨s_dc, s_db, s_da, s_di, s_df, s_dk⟩
  · exact ⟨⟨e_dc_db, e_dc_da, e_dc_di, e_dc_df, e_db_da, e_db_di, e_db_df, e_da_di, e_da_df, e_di_df⟩, ⟨(Ne.symm e_dv_dc), (Ne.symm e_dv_db)⟩, ⟨(Ne.symm e_dl_dc), (Ne.symm e_dl_db), (Ne.symm e_dl_da)⟩, ⟨(Ne.symm e_dk0_dc), (Ne.symm e_dk0_db), (Ne.symm e_dk0_da), (Ne.symm e_dk0_di)⟩, ⟨e_dc_dk, e_db_dk, e_da_dk, e_di_dk, (Ne.symm e_dk_df)⟩⟩
  · rw [act_ne _ _ (Ne.symm e_dv_dl), act_ne _ _ (Ne.symm e_dv_dm), act_same _ _ _ (by (try simp only [act_size]); rw [hsz]; exact s_dv)]
  · rw [act_same _ _ _ (by (try simp only [act_size]); rw [hsz]; exact s_dl)]
  · rw [act_ne _ _ (Ne.symm e_dk0_dl), act_ne _ _ (Ne.symm e_dk0_dm), act_ne _ _ (Ne.symm e_dk0_dv), act_ne _ _ (Ne.symm e_dk0_d0), act_ne _ _ (Ne.symm e_dk0_d1), act_same _ _ _ (by (try simp only [act_size]); rw [hsz]; exact s_dk0)]
end Go.Proofs.Ytdiadmlgeojefaa.A
namespace Go.Proofs.Ytdiadmlgeojefaa.A
open Go.RowKit Go.Proofs.YtdiadmlgeojefaaW.PrintWords Go.Proofs.YtdiadmlgeojefaaW.PrintLast Go.Proofs.YtdiadmlgeojefaaW.PrintMore
set_option linter.unusedVariables false
set_option linter.unusedSimpArgs false
theorem rel_keep {g b : Nat} {w W W1 : World} (h : RelG g b none w W) (hk : KeepBut W W1 g none) : RelG g b none w W1 :=
  ⟨Nat.le_trans h.1 hk.1, fun i hi h1 h2 h3 => (hk.2 i (Nat.lt_of_lt_of_le hi h.1) h1 (by simp)).trans (h.2 i hi h1 h2 h3)⟩
theorem rel_chain {g b : Nat} {row : Option Nat} {w W W1 : World} (h : RelG g b none w W) (h2 : RelG g b row W W1) (hr : ∀ q, row = some q → w.heap.size ≤ q) : RelG g b none w W1 :=
  ⟨Nat.le_trans h.1 h2.1, fun i hi h1 h3 h4 => (h2.2 i (Nat.lt_of_lt_of_le hi h.1) h1 h3 (fun e => by have := hr i e.symm; omega)).trans (h.2 i hi h1 h3 h4)⟩
theorem keep_chain {g b : Nat} {row : Option Nat} {w W W1 : World} (h : KeepBut w W g none) (h2 : RelG g b row W W1) (hb : w.heap.size ≤ b) (hr : ∀ q, row = some q → w.heap.size ≤ q) : KeepBut w W1 g none :=
  ⟨Nat.le_trans h.1 h2.1, fun i hi h1 h3 => (h2.2 i (Nat.lt_of_lt_of_le hi h.1) h1 (by omega) (fun e => by have := hr i e.symm; omega)).trans (h.2 i hi h1 h3)⟩
def RestPost (w0 w : World) (g b : Nat) (L : Toks) (T : S29) (s : St) (e : Ending) (w' : World) : Prop :=
  ∃ v, e = .returned (.tuple #[]) ∧ EyeAt w0 w' g L s ∧ w'.heap[b]? = some (.cells (nc T v).toArray 29 (0, 0)) ∧ Kd.N k29 29 w' w.heap.size (fun q => w.heap.size ≤ q) v T.f3 ∧ RelG g b none w w'
set_option maxHeartbeats 4000000 in
set_option maxRecDepth 100000 in
theorem rest_shows {k : Nat} {L : Toks} {rec : Rec} (hR : Shows L rec) (f0 : Int) (f1 : ByteArray) (f2 : Int) (f4 : Int) (acts : Bool) (s : St) (T : S29) (s' : St) (h : rest_ L rec (nd f0 f1 f2 [] f4) acts s = some (T, s'))
    (w0 w : World) (g b : Nat) (hE : EyeAt w0 w g L s) (hb : w.heap[b]? = some (.cells (nc (nd f0 f1 f2 [] f4) (.slice none 0 0)).toArray 29 (0, 0))) (hne : b ≠ g) (hlo : w0.heap.size ≤ b) :
    Calls Try.prog 81 #[eyeP g, .pointer (some ⟨b, 0, none⟩), .bool acts] w (RestPost w0 w g b L T s') := by
  have HE := aK hE
  have GL := aK hE.lt
  have BXb := aK hb
  have BLT := aK (blk_lt hb)
  have NEG := aK hne
  have BLO := aK hlo
  have HR := aK (show RelG g b none w w from ⟨Nat.le_refl _, fun _ _ _ _ _ => rfl⟩)
  have NR := aK (Kd.N_nil k29 29 w w.heap.size (fun q => w.heap.size ≤ q))
  clear hE hb hne hlo
  obtain ⟨⟨T1, s1⟩, h1, h⟩ := Option.bind_eq_some_iff.1 h
  obtain ⟨⟨T2, s2⟩, h2, h⟩ := Option.bind_eq_some_iff.1 h
  obtain ⟨⟨d, s3⟩, h3, h⟩ := Option.bind_eq_some_iff.1 h
  obtain ⟨⟨x, s4⟩, hx, h⟩ := Option.bind_eq_some_iff.1 h
  obtain ⟨⟨y, s5⟩, hy, h⟩ := Option.bind_eq_some_iff.1 h
  obtain ⟨s6, h6, h⟩ := Option.bind_eq_some_iff.1 h
  simp only [Option.some.injEq, Prod.mk.injEq] at h
  obtain ⟨rfl, rfl⟩ := h
  cases d
  · simp only [Bool.false_eq_true, if_false, Option.some.injEq, Prod.mk.injEq] at hx
    obtain ⟨rfl, rfl⟩ := hx
    cases acts
    · simp only [Bool.false_eq_true, if_false, Option.some.injEq, Prod.mk.injEq] at hy
      obtain ⟨rfl, rfl⟩ := hy
      go_enter Try.func81, Try.ntmps81
      go_wp2
      refine app_C (A := none) (c := 0) (base := w.heap.size) (ok := fun q => w.heap.size ≤ q) ⟨HE.out, BXb.out, NR.out, NEG.out, fun q hq => by have h9 : w.heap.size ≤ q := hq; have := GL.out; have := BLT.out; have := HE.out.ge; exact ⟨by omega, by omega, by omega⟩, fun q hq => Nat.le_trans HR.out.1 hq, HR.out.1, BLO.out, by simp⟩ 6 7 8 9 10 12 11 13 14 15 16 17 1 0 rfl rfl rfl rfl rfl rfl rfl rfl rfl rfl rfl rfl rfl rfl rfl ⟨rfl, rfl⟩ ⟨rfl, rfl⟩ ⟨rfl, rfl⟩ ⟨rfl, rfl⟩ ⟨rfl, rfl⟩ ⟨rfl, rfl⟩ ⟨rfl, rfl⟩ ⟨rfl, rfl⟩ ⟨rfl, rfl⟩ ⟨rfl, rfl⟩ ⟨rfl, rfl⟩ ⟨rfl, rfl⟩ ⟨rfl, rfl⟩ ⟨rfl, rfl⟩ rfl rfl rfl rfl rfl ⟨rfl, rfl⟩ Try.func77 (by kernel_rfl) rfl #[eyeP g, .bool true] rfl (fun a' h => by simp only [List.map_toArray, List.map_cons, List.map_nil, h] <;> rfl) rfl rfl rfl rfl rfl rfl rfl 62 rfl (by decide) (by decide) rfl rfl (by constructor <;> kernel_rfl) (fun _ _ _ _ _ h => h) (fun W1 hE1 => hR.2.2.1 _ _ _ _ h1 w0 W1 g hE1) ?_
      intro vT vz v1 p1 W1 hp
      obtain ⟨hE9, hB9, hN9, hR9⟩ := hp
      simp only [Act.put, List.setIfInBounds_toArray, List.set_cons_zero, List.set_cons_succ]
      have n1 := aK (rel_chain HR.out hR9 (fun q h => NR.out.1 q h))
      clear HE HR BXb NR hR9
      have HE := aK hE9
      have BXb := aK hB9
      have NR := aK hN9
      have HR := n1
      clear n1 hE9 hB9 hN9
      go_wp2
      obtain ⟨A1, c1, e1⟩ := Kd.N_slice NR.out
      subst e1
      refine app_C (A := A1) (c := c1) (base := w.heap.size) (ok := fun q => w.heap.size ≤ q) ⟨HE.out, BXb.out, NR.out, NEG.out, fun q hq => by have h9 : w.heap.size ≤ q := hq; have := GL.out; have := BLT.out; have := HE.out.ge; exact ⟨by omega, by omega, by omega⟩, fun q hq => Nat.le_trans HR.out.1 hq, HR.out.1, BLO.out, by simp⟩ 18 19 20 21 22 24 23 25 26 27 28 29 1 0 rfl rfl rfl rfl rfl rfl rfl rfl rfl rfl rfl rfl rfl rfl rfl ⟨rfl, rfl⟩ ⟨rfl, rfl⟩ ⟨rfl, rfl⟩ ⟨rfl, rfl⟩ ⟨rfl, rfl⟩ ⟨rfl, rfl⟩ ⟨rfl, rfl⟩ ⟨rfl, rfl⟩ ⟨rfl, rfl⟩ ⟨rfl, rfl⟩ ⟨rfl, rfl⟩ ⟨rfl, rfl⟩ ⟨rfl, rfl⟩ ⟨rfl, rfl⟩ rfl rfl rfl rfl rfl ⟨rfl, rfl⟩ Try.func78 (by kernel_rfl) rfl #[eyeP g] rfl (fun a' h => by simp only [List.map_toArray, List.map_cons, List.map_nil, h] <;> rfl) rfl rfl rfl rfl rfl rfl rfl 62 rfl (by decide) (by decide) rfl rfl (by constructor <;> kernel_rfl) (fun _ _ _ _ _ h => h) (fun W1 hE1 => hR.2.2.2.1 _ _ _ h2 w0 W1 g hE1) ?_
      intro vT vz v1 p1 W1 hp
      obtain ⟨hE9, hB9, hN9, hR9⟩ := hp
      simp only [Act.put, List.setIfInBounds_toArray, List.set_cons_zero, List.set_cons_succ]
      have n1 := aK (rel_chain HR.out hR9 (fun q h => NR.out.1 q h))
      clear HE HR BXb NR hR9
      have HE := aK hE9
      have BXb := aK hB9
      have NR := aK hN9
      have HR := n1
      clear n1 hE9 hB9 hN9
      go_wp2_with (first
        | ((with_reducible refine gD 31 rfl ?_); go_must ((refine goesL_ (some 31) rfl rfl Try.func33 (by kernel_rfl) rfl #[eyeP g, .string ⟨#[112, 114, 105, 111]⟩] rfl (mpT rfl) ?_; refine (eEat_calls h3 HE.out).mono ?_; rintro e w1 ⟨rfl, he, hk⟩; refine ⟨_, rfl, ?_⟩; replace HE := aK (he); replace HR := aK (rel_keep HR.out hk); replace BXb := aK (keep_blk hk BXb.out NEG.out); replace NR := aK (Kd.N_keep NR.out hk (fun q hq e => by have h9 : w.heap.size ≤ q := hq; have := GL.out; omega)); clear he hk)))
        | ((with_reducible refine gD 61 rfl ?_); go_must ((refine goesL_ (some 61) rfl rfl Try.func35 (by kernel_rfl) rfl #[eyeP g, .string ⟨#[59]⟩] rfl (mpT rfl) ?_; refine (eMust_calls h6 HE.out).mono ?_; rintro e w1 ⟨rfl, he, hk⟩; refine ⟨_, rfl, ?_⟩; replace HE := aK (he); replace HR := aK (rel_keep HR.out hk); replace BXb := aK (keep_blk hk BXb.out NEG.out); replace NR := aK (Kd.N_keep NR.out hk (fun q hq e => by have h9 : w.heap.size ≤ q := hq; have := GL.out; omega)); clear he hk))))
      first | go_end0 | ((try simp only [Exit.inBlock, Exit.then]); refine bodyPost_ret (results_none rfl _ _ _) rfl ?_)
      exact ⟨v1, rfl, HE.out, BXb.out, NR.out, HR.out⟩
    · simp only [if_true] at hy
      obtain ⟨⟨T4, s7⟩, h5, hy⟩ := Option.bind_eq_some_iff.1 hy
      simp only [Option.some.injEq, Prod.mk.injEq] at hy
      obtain ⟨rfl, rfl⟩ := hy
      go_enter Try.func81, Try.ntmps81
      go_wp2
      refine app_C (A := none) (c := 0) (base := w.heap.size) (ok := fun q => w.heap.size ≤ q) ⟨HE.out, BXb.out, NR.out, NEG.out, fun q hq => by have h9 : w.heap.size ≤ q := hq; have := GL.out; have := BLT.out; have := HE.out.ge; exact ⟨by omega, by omega, by omega⟩, fun q hq => Nat.le_trans HR.out.1 hq, HR.out.1, BLO.out, by simp⟩ 6 7 8 9 10 12 11 13 14 15 16 17 1 0 rfl rfl rfl rfl rfl rfl rfl rfl rfl rfl rfl rfl rfl rfl rfl ⟨rfl, rfl⟩ ⟨rfl, rfl⟩ ⟨rfl, rfl⟩ ⟨rfl, rfl⟩ ⟨rfl, rfl⟩ ⟨rfl, rfl⟩ ⟨rfl, rfl⟩ ⟨rfl, rfl⟩ ⟨rfl, rfl⟩ ⟨rfl, rfl⟩ ⟨rfl, rfl⟩ ⟨rfl, rfl⟩ ⟨rfl, rfl⟩ ⟨rfl, rfl⟩ rfl rfl rfl rfl rfl ⟨rfl, rfl⟩ Try.func77 (by kernel_rfl) rfl #[eyeP g, .bool true] rfl (fun a' h => by simp only [List.map_toArray, List.map_cons, List.map_nil, h] <;> rfl) rfl rfl rfl rfl rfl rfl rfl 62 rfl (by decide) (by decide) rfl rfl (by constructor <;> kernel_rfl) (fun _ _ _ _ _ h => h) (fun W1 hE1 => hR.2.2.1 _ _ _ _ h1 w0 W1 g hE1) ?_
      intro vT vz v1 p1 W1 hp
      obtain ⟨hE9, hB9, hN9, hR9⟩ := hp
      simp only [Act.put, List.setIfInBounds_toArray, List.set_cons_zero, List.set_cons_succ]
      have n1 := aK (rel_chain HR.out hR9 (fun q h => NR.out.1 q h))
      clear HE HR BXb NR hR9
      have HE := aK hE9
      have BXb := aK hB9
      have NR := aK hN9
      have HR := n1
      clear n1 hE9 hB9 hN9
      go_wp2
      obtain ⟨A1, c1, e1⟩ := Kd.N_slice NR.out
      subst e1
      refine app_C (A := A1) (c := c1) (base := w.heap.size) (ok := fun q => w.heap.size ≤ q) ⟨HE.out, BXb.out, NR.out, NEG.out, fun q hq => by have h9 : w.heap.size ≤ q := hq; have := GL.out; have := BLT.out; have := HE.out.ge; exact ⟨by omega, by omega, by omega⟩, fun q hq => Nat.le_trans HR.out.1 hq, HR.out.1, BLO.out, by simp⟩ 18 19 20 21 22 24 23 25 26 27 28 29 1 0 rfl rfl rfl rfl rfl rfl rfl rfl rfl rfl rfl rfl rfl rfl rfl ⟨rfl, rfl⟩ ⟨rfl, rfl⟩ ⟨rfl, rfl⟩ ⟨rfl, rfl⟩ ⟨rfl, rfl⟩ ⟨rfl, rfl⟩ ⟨rfl, rfl⟩ ⟨rfl, rfl⟩ ⟨rfl, rfl⟩ ⟨rfl, rfl⟩ ⟨rfl, rfl⟩ ⟨rfl, rfl⟩ ⟨rfl, rfl⟩ ⟨rfl, rfl⟩ rfl rfl rfl rfl rfl ⟨rfl, rfl⟩ Try.func78 (by kernel_rfl) rfl #[eyeP g] rfl (fun a' h => by simp only [List.map_toArray, List.map_cons, List.map_nil, h] <;> rfl) rfl rfl rfl rfl rfl rfl rfl 62 rfl (by decide) (by decide) rfl rfl (by constructor <;> kernel_rfl) (fun _ _ _ _ _ h => h) (fun W1 hE1 => hR.2.2.2.1 _ _ _ h2 w0 W1 g hE1) ?_
      intro vT vz v1 p1 W1 hp
      obtain ⟨hE9, hB9, hN9, hR9⟩ := hp
      simp only [Act.put, List.setIfInBounds_toArray, List.set_cons_zero, List.set_cons_succ]
      have n1 := aK (rel_chain HR.out hR9 (fun q h => NR.out.1 q h))
      clear HE HR BXb NR hR9
      have HE := aK hE9
      have BXb := aK hB9
      have NR := aK hN9
      have HR := n1
      clear n1 hE9 hB9 hN9
      go_wp2_with (first
        | ((with_reducible refine gD 31 rfl ?_); go_must ((refine goesL_ (some 31) rfl rfl Try.func33 (by kernel_rfl) rfl #[eyeP g, .string ⟨#[112, 114, 105, 111]⟩] rfl (mpT rfl) ?_; refine (eEat_calls h3 HE.out).mono ?_; rintro e w1 ⟨rfl, he, hk⟩; refine ⟨_, rfl, ?_⟩; replace HE := aK (he); replace HR := aK (rel_keep HR.out hk); replace BXb := aK (keep_blk hk BXb.out NEG.out); replace NR := aK (Kd.N_keep NR.out hk (fun q hq e => by have h9 : w.heap.size ≤ q := hq; have := GL.out; omega)); clear he hk))))
      obtain ⟨A1, c1, e1⟩ := Kd.N_slice NR.out
      subst e1
      refine app_C (A := A1) (c := c1) (base := w.heap.size) (ok := fun q => w.heap.size ≤ q) ⟨HE.out, BXb.out, NR.out, NEG.out, fun q hq => by have h9 : w.heap.size ≤ q := hq; have := GL.out; have := BLT.out; have := HE.out.ge; exact ⟨by omega, by omega, by omega⟩, fun q hq => Nat.le_trans HR.out.1 hq, HR.out.1, BLO.out, by simp⟩ 48 49 50 51 52 54 53 55 56 57 58 59 1 0 rfl rfl rfl rfl rfl rfl rfl rfl rfl rfl rfl rfl rfl rfl rfl ⟨rfl, rfl⟩ ⟨rfl, rfl⟩ ⟨rfl, rfl⟩ ⟨rfl, rfl⟩ ⟨rfl, rfl⟩ ⟨rfl, rfl⟩ ⟨rfl, rfl⟩ ⟨rfl, rfl⟩ ⟨rfl, rfl⟩ ⟨rfl, rfl⟩ ⟨rfl, rfl⟩ ⟨rfl, rfl⟩ ⟨rfl, rfl⟩ ⟨rfl, rfl⟩ rfl rfl rfl rfl rfl ⟨rfl, rfl⟩ Try.func80 (by kernel_rfl) rfl #[eyeP g] rfl (fun a' h => by simp only [List.map_toArray, List.map_cons, List.map_nil, h] <;> rfl) rfl rfl rfl rfl rfl rfl rfl 62 rfl (by decide) (by decide) rfl rfl (by constructor <;> kernel_rfl) (fun _ _ _ _ _ h => h) (fun W1 hE1 => hR.2.2.2.2.1 _ _ _ h5 w0 W1 g hE1) ?_
      intro vT vz v1 p1 W1 hp
      obtain ⟨hE9, hB9, hN9, hR9⟩ := hp
      simp only [Act.put, List.setIfInBounds_toArray, List.set_cons_zero, List.set_cons_succ]
      have n1 := aK (rel_chain HR.out hR9 (fun q h => NR.out.1 q h))
      clear HE HR BXb NR hR9
      have HE := aK hE9
      have BXb := aK hB9
      have NR := aK hN9
      have HR := n1
      clear n1 hE9 hB9 hN9
      go_wp2_with (first
        | ((with_reducible refine gD 61 rfl ?_); go_must ((refine goesL_ (some 61) rfl rfl Try.func35 (by kernel_rfl) rfl #[eyeP g, .string ⟨#[59]⟩] rfl (mpT rfl) ?_; refine (eMust_calls h6 HE.out).mono ?_; rintro e w1 ⟨rfl, he, hk⟩; refine ⟨_, rfl, ?_⟩; replace HE := aK (he); replace HR := aK (rel_keep HR.out hk); replace BXb := aK (keep_blk hk BXb.out NEG.out); replace NR := aK (Kd.N_keep NR.out hk (fun q hq e => by have h9 : w.heap.size ≤ q := hq; have := GL.out; omega)); clear he hk))))
      first | go_end0 | ((try simp only [Exit.inBlock, Exit.then]); refine bodyPost_ret (results_none rfl _ _ _) rfl ?_)
      exact ⟨v1, rfl, HE.out, BXb.out, NR.out, HR.out⟩
  · simp only [if_true] at hx
    obtain ⟨⟨T3, s8⟩, h4, hx⟩ := Option.bind_eq_some_iff.1 hx
    simp only [Option.some.injEq, Prod.mk.injEq] at hx
    obtain ⟨rfl, rfl⟩ := hx
    cases acts
    · simp only [Bool.false_eq_true, if_false, Option.some.injEq, Prod.mk.injEq] at hy
      obtain ⟨rfl, rfl⟩ := hy
      go_enter Try.func81, Try.ntmps81
      go_wp2
      refine app_C (A := none) (c := 0) (base := w.heap.size) (ok := fun q => w.heap.size ≤ q) ⟨HE.out, BXb.out, NR.out, NEG.out, fun q hq => by have h9 : w.heap.size ≤ q := hq; have := GL.out; have := BLT.out; have := HE.out.ge; exact ⟨by omega, by omega, by omega⟩, fun q hq => Nat.le_trans HR.out.1 hq, HR.out.1, BLO.out, by simp⟩ 6 7 8 9 10 12 11 13 14 15 16 17 1 0 rfl rfl rfl rfl rfl rfl rfl rfl rfl rfl rfl rfl rfl rfl rfl ⟨rfl, rfl⟩ ⟨rfl, rfl⟩ ⟨rfl, rfl⟩ ⟨rfl, rfl⟩ ⟨rfl, rfl⟩ ⟨rfl, rfl⟩ ⟨rfl, rfl⟩ ⟨rfl, rfl⟩ ⟨rfl, rfl⟩ ⟨rfl, rfl⟩ ⟨rfl, rfl⟩ ⟨rfl, rfl⟩ ⟨rfl, rfl⟩ ⟨rfl, rfl⟩ rfl rfl rfl rfl rfl ⟨rfl, rfl⟩ Try.func77 (by kernel_rfl) rfl #[eyeP g, .bool true] rfl (fun a' h => by simp only [List.map_toArray, List.map_cons, List.map_nil, h] <;> rfl) rfl rfl rfl rfl rfl rfl rfl 62 rfl (by decide) (by decide) rfl rfl (by constructor <;> kernel_rfl) (fun _ _ _ _ _ h => h) (fun W1 hE1 => hR.2.2.1 _ _ _ _ h1 w0 W1 g hE1) ?_
      intro vT vz v1 p1 W1 hp
      obtain ⟨hE9, hB9, hN9, hR9⟩ := hp
      simp only [Act.put, List.setIfInBounds_toArray, List.set_cons_zero, List.set_cons_succ]
      have n1 := aK (rel_chain HR.out hR9 (fun q h => NR.out.1 q h))
      clear HE HR BXb NR hR9
      have HE := aK hE9
      have BXb := aK hB9
      have NR := aK hN9
      have HR := n1
      clear n1 hE9 hB9 hN9
      go_wp2
      obtain ⟨A1, c1, e1⟩ := Kd.N_slice NR.out
      subst e1
      refine app_C (A := A1) (c := c1) (base := w.heap.size) (ok := fun q => w.heap.size ≤ q) ⟨HE.out, BXb.out, NR.out, NEG.out, fun q hq => by have h9 : w.heap.size ≤ q := hq; have := GL.out; have := BLT.out; have := HE.out.ge; exact ⟨by omega, by omega, by omega⟩, fun q hq => Nat.le_trans HR.out.1 hq, HR.out.1, BLO.out, by simp⟩ 18 19 20 21 22 24 23 25 26 27 28 29 1 0 rfl rfl rfl rfl rfl rfl rfl rfl rfl rfl rfl rfl rfl rfl rfl ⟨rfl, rfl⟩ ⟨rfl, rfl⟩ ⟨rfl, rfl⟩ ⟨rfl, rfl⟩ ⟨rfl, rfl⟩ ⟨rfl, rfl⟩ ⟨rfl, rfl⟩ ⟨rfl, rfl⟩ ⟨rfl, rfl⟩ ⟨rfl, rfl⟩ ⟨rfl, rfl⟩ ⟨rfl, rfl⟩ ⟨rfl, rfl⟩ ⟨rfl, rfl⟩ rfl rfl rfl rfl rfl ⟨rfl, rfl⟩ Try.func78 (by kernel_rfl) rfl #[eyeP g] rfl (fun a' h => by simp only [List.map_toArray, List.map_cons, List.map_nil, h] <;> rfl) rfl rfl rfl rfl rfl rfl rfl 62 rfl (by decide) (by decide) rfl rfl (by constructor <;> kernel_rfl) (fun _ _ _ _ _ h => h) (fun W1 hE1 => hR.2.2.2.1 _ _ _ h2 w0 W1 g hE1) ?_
      intro vT vz v1 p1 W1 hp
      obtain ⟨hE9, hB9, hN9, hR9⟩ := hp
      simp only [Act.put, List.setIfInBounds_toArray, List.set_cons_zero, List.set_cons_succ]
      have n1 := aK (rel_chain HR.out hR9 (fun q h => NR.out.1 q h))
      clear HE HR BXb NR hR9
      have HE := aK hE9
      have BXb := aK hB9
      have NR := aK hN9
      have HR := n1
      clear n1 hE9 hB9 hN9
      go_wp2_with (first
        | ((with_reducible refine gD 31 rfl ?_); go_must ((refine goesL_ (some 31) rfl rfl Try.func33 (by kernel_rfl) rfl #[eyeP g, .string ⟨#[112, 114, 105, 111]⟩] rfl (mpT rfl) ?_; refine (eEat_calls h3 HE.out).mono ?_; rintro e w1 ⟨rfl, he, hk⟩; refine ⟨_, rfl, ?_⟩; replace HE := aK (he); replace HR := aK (rel_keep HR.out hk); replace BXb := aK (keep_blk hk BXb.out NEG.out); replace NR := aK (Kd.N_keep NR.out hk (fun q hq e => by have h9 : w.heap.size ≤ q := hq; have := GL.out; omega)); clear he hk)))
        | ((with_reducible refine gate_ (.store 3 (.tmp 34) (.const (.int .i64 1))) rfl ?_); go_must ((refine ev_field29 rfl rfl 3 (.tmp 34) (.const (.int .i64 1)) rfl (b := b) 2 (.int .i64 1) rfl rfl BXb.out (by omega) rfl rfl (by kernel_rfl) (nd f0 f1 1 [T1, T2] f4) (v1) rfl ?_; intro w1 hblk hg hz; replace HE := aK (HE.out.grown hg NEG.out BLO.out); replace HR := aK (RelG.grown HR.out hg (.inr (.inl rfl))); replace BXb := aK (hblk); replace NR := aK (Kd.N_grown NR.out hg (fun q hq e => by injection e with e; have h9 : w.heap.size ≤ q := hq; have := BLT.out; omega)); clear hblk hg hz))))
      obtain ⟨A1, c1, e1⟩ := Kd.N_slice NR.out
      subst e1
      refine app_C (A := A1) (c := c1) (base := w.heap.size) (ok := fun q => w.heap.size ≤ q) ⟨HE.out, BXb.out, NR.out, NEG.out, fun q hq => by have h9 : w.heap.size ≤ q := hq; have := GL.out; have := BLT.out; have := HE.out.ge; exact ⟨by omega, by omega, by omega⟩, fun q hq => Nat.le_trans HR.out.1 hq, HR.out.1, BLO.out, by simp⟩ 35 36 37 38 39 41 40 42 43 44 45 46 1 0 rfl rfl rfl rfl rfl rfl rfl rfl rfl rfl rfl rfl rfl rfl rfl ⟨rfl, rfl⟩ ⟨rfl, rfl⟩ ⟨rfl, rfl⟩ ⟨rfl, rfl⟩ ⟨rfl, rfl⟩ ⟨rfl, rfl⟩ ⟨rfl, rfl⟩ ⟨rfl, rfl⟩ ⟨rfl, rfl⟩ ⟨rfl, rfl⟩ ⟨rfl, rfl⟩ ⟨rfl, rfl⟩ ⟨rfl, rfl⟩ ⟨rfl, rfl⟩ rfl rfl rfl rfl rfl ⟨rfl, rfl⟩ Try.func77 (by kernel_rfl) rfl #[eyeP g, .bool true] rfl (fun a' h => by simp only [List.map_toArray, List.map_cons, List.map_nil, h] <;> rfl) rfl rfl rfl rfl rfl rfl rfl 62 rfl (by decide) (by decide) rfl rfl (by constructor <;> kernel_rfl) (fun _ _ _ _ _ h => h) (fun W1 hE1 => hR.2.2.1 _ _ _ _ h4 w0 W1 g hE1) ?_
      intro vT vz v1 p1 W1 hp
      obtain ⟨hE9, hB9, hN9, hR9⟩ := hp
      simp only [Act.put, List.setIfInBounds_toArray, List.set_cons_zero, List.set_cons_succ]
      have n1 := aK (rel_chain HR.out hR9 (fun q h => NR.out.1 q h))
      clear HE HR BXb NR hR9
      have HE := aK hE9
      have BXb := aK hB9
      have NR := aK hN9
      have HR := n1
      clear n1 hE9 hB9 hN9
      go_wp2_with (first
        | ((with_reducible refine gD 61 rfl ?_); go_must ((refine goesL_ (some 61) rfl rfl Try.func35 (by kernel_rfl) rfl #[eyeP g, .string ⟨#[59]⟩] rfl (mpT rfl) ?_; refine (eMust_calls h6 HE.out).mono ?_; rintro e w1 ⟨rfl, he, hk⟩; refine ⟨_, rfl, ?_⟩; replace HE := aK (he); replace HR := aK (rel_keep HR.out hk); replace BXb := aK (keep_blk hk BXb.out NEG.out); replace NR := aK (Kd.N_keep NR.out hk (fun q hq e => by have h9 : w.heap.size ≤ q := hq; have := GL.out; omega)); clear he hk))))
      first | go_end0 | ((try simp only [Exit.inBlock, Exit.then]); refine bodyPost_ret (results_none rfl _ _ _) rfl ?_)
      exact ⟨v1, rfl, HE.out, BXb.out, NR.out, HR.out⟩
    · simp only [if_true] at hy
      obtain ⟨⟨T4, s7⟩, h5, hy⟩ := Option.bind_eq_some_iff.1 hy
      simp only [Option.some.injEq, Prod.mk.injEq] at hy
      obtain ⟨rfl, rfl⟩ := hy
      go_enter Try.func81, Try.ntmps81
      go_wp2
      refine app_C (A := none) (c := 0) (base := w.heap.size) (ok := fun q => w.heap.size ≤ q) ⟨HE.out, BXb.out, NR.out, NEG.out, fun q hq => by have h9 : w.heap.size ≤ q := hq; have := GL.out; have := BLT.out; have := HE.out.ge; exact ⟨by omega, by omega, by omega⟩, fun q hq => Nat.le_trans HR.out.1 hq, HR.out.1, BLO.out, by simp⟩ 6 7 8 9 10 12 11 13 14 15 16 17 1 0 rfl rfl rfl rfl rfl rfl rfl rfl rfl rfl rfl rfl rfl rfl rfl ⟨rfl, rfl⟩ ⟨rfl, rfl⟩ ⟨rfl, rfl⟩ ⟨rfl, rfl⟩ ⟨rfl, rfl⟩ ⟨rfl, rfl⟩ ⟨rfl, rfl⟩ ⟨rfl, rfl⟩ ⟨rfl, rfl⟩ ⟨rfl, rfl⟩ ⟨rfl, rfl⟩ ⟨rfl, rfl⟩ ⟨rfl, rfl⟩ ⟨rfl, rfl⟩ rfl rfl rfl rfl rfl ⟨rfl, rfl⟩ Try.func77 (by kernel_rfl) rfl #[eyeP g, .bool true] rfl (fun a' h => by simp only [List.map_toArray, List.map_cons, List.map_nil, h] <;> rfl) rfl rfl rfl rfl rfl rfl rfl 62 rfl (by decide) (by decide) rfl rfl (by constructor <;> kernel_rfl) (fun _ _ _ _ _ h => h) (fun W1 hE1 => hR.2.2.1 _ _ _ _ h1 w0 W1 g hE1) ?_
      intro vT vz v1 p1 W1 hp
      obtain ⟨hE9, hB9, hN9, hR9⟩ := hp
      simp only [Act.put, List.setIfInBounds_toArray, List.set_cons_zero, List.set_cons_succ]
      have n1 := aK (rel_chain HR.out hR9 (fun q h => NR.out.1 q h))
      clear HE HR BXb NR hR9
      have HE := aK hE9
      have BXb := aK hB9
      have NR := aK hN9
      have HR := n1
      clear n1 hE9 hB9 hN9
      go_wp2
      obtain ⟨A1, c1, e1⟩ := Kd.N_slice NR.out
      subst e1
      refine app_C (A := A1) (c := c1) (base := w.heap.size) (ok := fun q => w.heap.size ≤ q) ⟨HE.out, BXb.out, NR.out, NEG.out, fun q hq => by have h9 : w.heap.size ≤ q := hq; have := GL.out; have := BLT.out; have := HE.out.ge; exact ⟨by omega, by omega, by omega⟩, fun q hq => Nat.le_trans HR.out.1 hq, HR.out.1, BLO.out, by simp⟩ 18 19 20 21 22 24 23 25 26 27 28 29 1 0 rfl rfl rfl rfl rfl rfl rfl rfl rfl rfl rfl rfl rfl rfl rfl ⟨rfl, rfl⟩ ⟨rfl, rfl⟩ ⟨rfl, rfl⟩ ⟨rfl, rfl⟩ ⟨rfl, rfl⟩ ⟨rfl, rfl⟩ ⟨rfl, rfl⟩ ⟨rfl, rfl⟩ ⟨rfl, rfl⟩ ⟨rfl, rfl⟩ ⟨rfl, rfl⟩ ⟨rfl, rfl⟩ ⟨rfl, rfl⟩ ⟨rfl, rfl⟩ rfl rfl rfl rfl rfl ⟨rfl, rfl⟩ Try.func78 (by kernel_rfl) rfl #[eyeP g] rfl (fun a' h => by simp only [List.map_toArray, List.map_cons, List.map_nil, h] <;> rfl) rfl rfl rfl rfl rfl rfl rfl 62 rfl (by decide) (by decide) rfl rfl (by constructor <;> kernel_rfl) (fun _ _ _ _ _ h => h) (fun W1 hE1 => hR.2.2.2.1 _ _ _ h2 w0 W1 g hE1) ?_
      intro vT vz v1 p1 W1 hp
      obtain ⟨hE9, hB9, hN9, hR9⟩ := hp
      simp only [Act.put, List.setIfInBounds_toArray, List.set_cons_zero, List.set_cons_succ]
      have n1 := aK (rel_chain HR.out hR9 (fun q h => NR.out.1 q h))
      clear HE HR BXb NR hR9
      have HE := aK hE9
      have BXb := aK hB9
      have NR := aK hN9
      have HR := n1
      clear n1 hE9 hB9 hN9
      go_wp2_with (first
        | ((with_reducible refine gD 31 rfl ?_); go_must ((refine goesL_ (some 31) rfl rfl Try.func33 (by kernel_rfl) rfl #[eyeP g, .string ⟨#[112, 114, 105, 111]⟩] rfl (mpT rfl) ?_; refine (eEat_calls h3 HE.out).mono ?_; rintro e w1 ⟨rfl, he, hk⟩; refine ⟨_, rfl, ?_⟩; replace HE := aK (he); replace HR := aK (rel_keep HR.out hk); replace BXb := aK (keep_blk hk BXb.out NEG.out); replace NR := aK (Kd.N_keep NR.out hk (fun q hq e => by have h9 : w.heap.size ≤ q := hq; have := GL.out; omega)); clear he hk)))
        | ((with_reducible refine gate_ (.store 3 (.tmp 34) (.const (.int .i64 1))) rfl ?_); go_must ((refine ev_field29 rfl rfl 3 (.tmp 34) (.const (.int .i64 1)) rfl (b := b) 2 (.int .i64 1) rfl rfl BXb.out (by omega) rfl rfl (by kernel_rfl) (nd f0 f1 1 [T1, T2] f4) (v1) rfl ?_; intro w1 hblk hg hz; replace HE := aK (HE.out.grown hg NEG.out BLO.out); replace HR := aK (RelG.grown HR.out hg (.inr (.inl rfl))); replace BXb := aK (hblk); replace NR := aK (Kd.N_grown NR.out hg (fun q hq e => by injection e with e; have h9 : w.heap.size ≤ q := hq; have := BLT.out; omega)); clear hblk hg hz))))
      obtain ⟨A1, c1, e1⟩ := Kd.N_slice NR.out
      subst e1
      refine app_C (A := A1) (c := c1) (base := w.heap.size) (ok := fun q => w.heap.size ≤ q) ⟨HE.out, BXb.out, NR.out, NEG.out, fun q hq => by have h9 : w.heap.size ≤ q := hq; have := GL.out; have := BLT.out; have := HE.out.ge; exact ⟨by omega, by omega, by omega⟩, fun q hq => Nat.le_trans HR.out.1 hq, HR.out.1, BLO.out, by simp⟩ 35 36 37 38 39 41 40 42 43 44 45 46 1 0 rfl rfl rfl rfl rfl rfl rfl rfl rfl rfl rfl rfl rfl rfl rfl ⟨rfl, rfl⟩ ⟨rfl, rfl⟩ ⟨rfl, rfl⟩ ⟨rfl, rfl⟩ ⟨rfl, rfl⟩ ⟨rfl, rfl⟩ ⟨rfl, rfl⟩ ⟨rfl, rfl⟩ ⟨rfl, rfl⟩ ⟨rfl, rfl⟩ ⟨rfl, rfl⟩ ⟨rfl, rfl⟩ ⟨rfl, rfl⟩ ⟨rfl, rfl⟩ rfl rfl rfl rfl rfl ⟨rfl, rfl⟩ Try.func77 (by kernel_rfl) rfl #[eyeP g, .bool true] rfl (fun a' h => by simp only [List.map_toArray, List.map_cons, List.map_nil, h] <;> rfl) rfl rfl rfl rfl rfl rfl rfl 62 rfl (by decide) (by decide) rfl rfl (by constructor <;> kernel_rfl) (fun _ _ _ _ _ h => h) (fun W1 hE1 => hR.2.2.1 _ _ _ _ h4 w0 W1 g hE1) ?_
      intro vT vz v1 p1 W1 hp
      obtain ⟨hE9, hB9, hN9, hR9⟩ := hp
      simp only [Act.put, List.setIfInBounds_toArray, List.set_cons_zero, List.set_cons_succ]
      have n1 := aK (rel_chain HR.out hR9 (fun q h => NR.out.1 q h))
      clear HE HR BXb NR hR9
      have HE := aK hE9
      have BXb := aK hB9
      have NR := aK hN9
      have HR := n1
      clear n1 hE9 hB9 hN9
      go_wp2
      obtain ⟨A1, c1, e1⟩ := Kd.N_slice NR.out
      subst e1
      refine app_C (A := A1) (c := c1) (base := w.heap.size) (ok := fun q => w.heap.size ≤ q) ⟨HE.out, BXb.out, NR.out, NEG.out, fun q hq => by have h9 : w.heap.size ≤ q := hq; have := GL.out; have := BLT.out; have := HE.out.ge; exact ⟨by omega, by omega, by omega⟩, fun q hq => Nat.le_trans HR.out.1 hq, HR.out.1, BLO.out, by simp⟩ 48 49 50 51 52 54 53 55 56 57 58 59 1 0 rfl rfl rfl rfl rfl rfl rfl rfl rfl rfl rfl rfl rfl rfl rfl ⟨rfl, rfl⟩ ⟨rfl, rfl⟩ ⟨rfl, rfl⟩ ⟨rfl, rfl⟩ ⟨rfl, rfl⟩ ⟨rfl, rfl⟩ ⟨rfl, rfl⟩ ⟨rfl, rfl⟩ ⟨rfl, rfl⟩ ⟨rfl, rfl⟩ ⟨rfl, rfl⟩ ⟨rfl, rfl⟩ ⟨rfl, rfl⟩ ⟨rfl, rfl⟩ rfl rfl rfl rfl rfl ⟨rfl, rfl⟩ Try.func80 (by kernel_rfl) rfl #[eyeP g] rfl (fun a' h => by simp only [List.map_toArray, List.map_cons, List.map_nil, h] <;> rfl) rfl rfl rfl rfl rfl rfl rfl 62 rfl (by decide) (by decide) rfl rfl (by constructor <;> kernel_rfl) (fun _ _ _ _ _ h => h) (fun W1 hE1 => hR.2.2.2.2.1 _ _ _ h5 w0 W1 g hE1) ?_
      intro vT vz v1 p1 W1 hp
      obtain ⟨hE9, hB9, hN9, hR9⟩ := hp
      simp only [Act.put, List.setIfInBounds_toArray, List.set_cons_zero, List.set_cons_succ]
      have n1 := aK (rel_chain HR.out hR9 (fun q h => NR.out.1 q h))
      clear HE HR BXb NR hR9
      have HE := aK hE9
      have BXb := aK hB9
      have NR := aK hN9
      have HR := n1
      clear n1 hE9 hB9 hN9
      go_wp2_with (first
        | ((with_reducible refine gD 61 rfl ?_); go_must ((refine goesL_ (some 61) rfl rfl Try.func35 (by kernel_rfl) rfl #[eyeP g, .string ⟨#[59]⟩] rfl (mpT rfl) ?_; refine (eMust_calls h6 HE.out).mono ?_; rintro e w1 ⟨rfl, he, hk⟩; refine ⟨_, rfl, ?_⟩; replace HE := aK (he); replace HR := aK (rel_keep HR.out hk); replace BXb := aK (keep_blk hk BXb.out NEG.out); replace NR := aK (Kd.N_keep NR.out hk (fun q hq e => by have h9 : w.heap.size ≤ q := hq; have := GL.out; omega)); clear he hk))))
      first | go_end0 | ((try simp only [Exit.inBlock, Exit.then]); refine bodyPost_ret (results_none rfl _ _ _) rfl ?_)
      exact ⟨v1, rfl, HE.out, BXb.out, NR.out, HR.out⟩
end Go.Proofs.Ytdiadmlgeojefaa.A
namespace Go.Proofs.Ytdiadmlgeojefaa.A
open Go.RowKit Go.Proofs.YtdiadmlgeojefaaW.PrintWords Go.Proofs.YtdiadmlgeojefaaW.PrintLast Go.Proofs.YtdiadmlgeojefaaW.PrintMore
set_option linter.unusedVariables false
set_option linter.unusedSimpArgs false
set_option maxHeartbeats 4000000 in
set_option maxRecDepth 100000 in
theorem stmt_shows {k : Nat} {L : Toks} {rec : Rec} (hR : Shows L rec) (hrest : ∀ n b s T s', rec (.rest n b) s = some (T, s') → ∃ rec2, Shows L rec2 ∧ rest_ L rec2 n b s = some (T, s')) (s : St) (T : S29) (s' : St) (h : stmt_ k L rec s = some (T, s')) : Gives 61 [] L s T s' := by
  intro w0 w g hE
  show Calls Try.prog 61 #[eyeP g] w _
  have HE := aK hE
  have GL := aK hE.lt
  have HK := aK (KeepBut.refl w g none)
  clear hE
  obtain ⟨⟨d, s1⟩, hd, h⟩ := Option.bind_eq_some_iff.1 h
  cases d
  · simp only [Bool.false_eq_true, if_false, Option.some.injEq, Prod.mk.injEq] at h
    obtain ⟨rfl, rfl⟩ := h
    go_enter Try.func61, Try.ntmps61
    go_wp2_with (first
      | ((with_reducible refine gD 2 rfl ?_); go_must ((refine ev_alloc29 rfl (N := 2) rfl rfl ?_; intro b1 hbn w1 hblk hbel; have GBb1 := aK (show w.heap.size ≤ b1 by have := HK.out.1; omega); replace HE := Zf HE hbel; replace HK := Zw HK hbel; have BXb1 := aK hblk; clear hblk hbel hbn)))
      | ((with_reducible refine gD 6 rfl ?_); go_must ((refine goesL_ (some 6) rfl rfl Try.func76 (by kernel_rfl) rfl #[eyeP g] rfl (mpT rfl) ?_; refine (eDown_calls hd HE.out).mono ?_; rintro e w1 ⟨rfl, he, hk⟩; refine ⟨_, rfl, ?_⟩; replace HE := aK (he); replace HK := Zk HK hk; replace BXb1 := Zb hk BXb1 GBb1 GL; clear he hk)))
      | ((with_reducible refine gate_ (.store 29 (.tmp 2) (.tmp 8)) rfl ?_); go_must ((refine ev_store29 rfl rfl (.tmp 2) (.tmp 8) rfl (b := b1) (z := z29) (v := (.slice none 0 0)) rfl rfl BXb1.out rfl ?_; intro w1 hblk hg hz; replace HE := Ze HE hg GBb1 GL; replace HK := Zx HK hg GBb1; replace BXb1 := aK (hblk); clear hblk hg hz))))
    refine bodyPost_ret (results_cell_row rfl _ _ b1 29 (nc z29 (.slice none 0 0)).toArray _ _ rfl BXb1.out Try.underlying29 rfl info29s) rfl ?_
    exact ⟨(.slice none 0 0), rfl, Kd.V_nil _ _ _ _ _, HE.out, HK.out⟩
  · simp only [if_true] at h
    obtain ⟨⟨at_, s2⟩, hat, h⟩ := Option.bind_eq_some_iff.1 h
    obtain ⟨⟨T1, s9⟩, h0, h⟩ := Option.bind_eq_some_iff.1 h
    simp only [Option.some.injEq, Prod.mk.injEq] at h
    obtain ⟨rfl, rfl⟩ := h
    have h := h0
    clear h0
    simp only [stmt1] at h
    obtain ⟨⟨tx, s3⟩, hsee, h⟩ := Option.bind_eq_some_iff.1 h
    simp only at h
    by_cases c1 : tx.toList = [123]
    · rw [if_pos c1] at h
      have c2 : (tx.toList == [123]) = true := beq_iff_eq.2 c1
      clear c1
      go_enter Try.func61, Try.ntmps61
      go_wp2_with (first
        | ((with_reducible refine gD 2 rfl ?_); go_must ((refine ev_alloc29 rfl (N := 2) rfl rfl ?_; intro b1 hbn w1 hblk hbel; have GBb1 := aK (show w.heap.size ≤ b1 by have := HK.out.1; omega); replace HE := Zf HE hbel; replace HK := Zw HK hbel; have BXb1 := aK hblk; clear hblk hbel hbn)))
        | ((with_reducible refine gD 6 rfl ?_); go_must ((refine goesL_ (some 6) rfl rfl Try.func76 (by kernel_rfl) rfl #[eyeP g] rfl (mpT rfl) ?_; refine (eDown_calls hd HE.out).mono ?_; rintro e w1 ⟨rfl, he, hk⟩; refine ⟨_, rfl, ?_⟩; replace HE := aK (he); replace HK := Zk HK hk; replace BXb1 := Zb hk BXb1 GBb1 GL; clear he hk)))
        | ((with_reducible refine gD 10 rfl ?_); go_must ((refine goesL_ (some 10) rfl rfl Try.func32 (by kernel_rfl) rfl #[eyeP g] rfl (mpT rfl) ?_; refine (eAt_calls hat HE.out).mono ?_; rintro e w1 ⟨rfl, he, hk⟩; refine ⟨_, rfl, ?_⟩; replace HE := aK (he); replace HK := Zk HK hk; replace BXb1 := Zb hk BXb1 GBb1 GL; clear he hk)))
        | ((with_reducible refine gD 4 rfl ?_); go_must ((refine ev_alloc29 rfl (N := 4) rfl rfl ?_; intro b2 hbn w1 hblk hbel; have GBb2 := aK (show w.heap.size ≤ b2 by have := HK.out.1; omega); have LTb1b2 := aK (show b1 < b2 by have := blk_lt BXb1.out; omega); replace HE := Zf HE hbel; replace HK := Zw HK hbel; replace BXb1 := Zc hbel BXb1; have BXb2 := aK hblk; clear hblk hbel hbn)))
        | ((with_reducible refine gate_ (.store 29 (.tmp 4) (.tmp 12)) rfl ?_); go_must ((refine ev_store29 rfl rfl (.tmp 4) (.tmp 12) rfl (b := b2) (z := nd 0 tk0 0 [] at_) (v := (.slice none 0 0)) rfl rfl BXb2.out rfl ?_; intro w1 hblk hg hz; replace HE := Ze HE hg GBb2 GL; replace HK := Zx HK hg GBb2; replace BXb1 := Zg hg BXb1 LTb1b2; replace BXb2 := aK (hblk); clear hblk hg hz)))
        | ((with_reducible refine gD 32 rfl ?_); go_must ((refine goesL_ (some 32) rfl rfl Try.func57 (by kernel_rfl) rfl #[eyeP g] rfl (mpT rfl) ?_; refine (eSee_calls hsee HE.out).mono ?_; rintro e w1 ⟨rfl, he, hk⟩; refine ⟨_, rfl, ?_⟩; replace HE := aK (he); replace HK := Zk HK hk; replace BXb1 := Zb hk BXb1 GBb1 GL; replace BXb2 := Zb hk BXb2 GBb2 GL; clear he hk)))
        | ((with_reducible refine gD 35 rfl ?_); go_must ((refine goesL_ (some 35) rfl rfl Try.func37 (by kernel_rfl) rfl #[eyeP g] rfl (mpT rfl) ?_; refine (hR.2.2.2.2.2.1 _ _ _ h _ _ _ HE.out).mono ?_; rintro e w1 ⟨v1, rfl, hv, he, hk⟩; refine ⟨_, rfl, ?_⟩; have hv2 := Kd.V_mono hv (ok' := fun q => w.heap.size ≤ q ∧ q ≠ b2 ∧ q ≠ b1) (fun q hq => by have h8 := hq; have h9 := HK.out.1; have h7b1 := blk_lt BXb1.out; have h7b2 := blk_lt BXb2.out; refine ⟨?_, ?_, ?_⟩ <;> omega); clear hv; replace HE := aK (he); replace HK := Zk HK hk; replace BXb1 := Zb hk BXb1 GBb1 GL; replace BXb2 := Zb hk BXb2 GBb2 GL; have VV := aK hv2; clear he hk hv2)))
        | ((with_reducible refine gate_ (.store 29 (.tmp 4) (.tmp 35)) rfl ?_); go_must ((refine ev_store29 rfl rfl (.tmp 4) (.tmp 35) rfl (b := b2) (z := T1) (v := v1) rfl rfl BXb2.out (VK_one VV.out) ?_; intro w1 hblk hg hz; replace HE := Ze HE hg GBb2 GL; replace HK := Zx HK hg GBb2; replace BXb1 := Zg hg BXb1 LTb1b2; replace BXb2 := aK (hblk); replace VV := aK (Kd.V_grown VV.out hg (fun q hq e => by injection e with e; exact hq.2.1 e)); clear hblk hg hz)))
        | ((with_reducible refine gD 179 rfl ?_); go_must ((refine ev_cell rfl (N := 179) rfl 3 (.tmp 178) rfl ⟨g, 3, none⟩ rfl _ _ HE.out.c3 Try.underlying3 rfl ?_)))
        | ((with_reducible refine gate_ (.store 3 (.tmp 182) (.tmp 180)) rfl ?_); go_must ((refine ev_eye3 rfl rfl (.tmp 182) (.tmp 180) rfl (_) rfl rfl HE.out ?_; intro w1 he hg hz; replace HE := aK (he); replace HK := aK (keep_grown HK.out hg (.inr rfl)); replace BXb1 := aK (grown_blk hg BXb1.out (by have := GBb1.out; have := GL.out; omega)); replace BXb2 := aK (grown_blk hg BXb2.out (by have := GBb2.out; have := GL.out; omega)); replace VV := aK (Kd.V_grown VV.out hg (fun q hq e => by injection e with e; have h9 : w.heap.size ≤ q := hq.1; have := GL.out; omega)); clear he hg hz)))
        | ((with_reducible refine gD 183 rfl ?_); go_must ((refine ev_load29 rfl (N := 183) rfl (.tmp 4) rfl (b := b2) rfl BXb2.out ?_)))
        | ((with_reducible refine gate_ (.store 29 (.tmp 2) (.tmp 183)) rfl ?_); go_must ((refine ev_store29 rfl rfl (.tmp 2) (.tmp 183) rfl (b := b1) (z := T1) (v := v1) rfl rfl BXb1.out (VK_one VV.out) ?_; intro w1 hblk hg hz; replace HE := Ze HE hg GBb1 GL; replace HK := Zx HK hg GBb1; replace BXb1 := aK (hblk); replace BXb2 := Zh hg BXb2 LTb1b2; replace VV := aK (Kd.V_grown VV.out hg (fun q hq e => by injection e with e; exact hq.2.2 e)); clear hblk hg hz))))
      refine bodyPost_ret (results_cell_row rfl _ _ b1 29 (nc (T1) v1).toArray _ _ rfl BXb1.out Try.underlying29 rfl info29s) rfl ?_
      exact ⟨v1, rfl, Kd.V_mono VV.out (fun q hq => hq.1), HE.out, HK.out⟩
    rw [if_neg c1] at h
    have c2 : (tx.toList == [123]) = false := beq_eq_false_iff_ne.2 c1
    clear c1
    obtain ⟨⟨x1, t1⟩, i1, h⟩ := Option.bind_eq_some_iff.1 h
    cases x1
    rotate_left
    · simp only [if_true] at h
      obtain ⟨⟨r1, u1⟩, h1, h⟩ := Option.bind_eq_some_iff.1 h
      obtain ⟨⟨r2, u2⟩, h2, h⟩ := Option.bind_eq_some_iff.1 h
      obtain ⟨⟨x2, u3⟩, h3, h⟩ := Option.bind_eq_some_iff.1 h
      cases x2
      · simp only [Bool.false_eq_true, if_false, Option.some.injEq, Prod.mk.injEq] at h
        obtain ⟨rfl, rfl⟩ := h
        go_enter Try.func61, Try.ntmps61
        go_wp2_with (first
          | ((with_reducible refine gD 2 rfl ?_); go_must ((refine ev_alloc29 rfl (N := 2) rfl rfl ?_; intro b1 hbn w1 hblk hbel; have GBb1 := aK (show w.heap.size ≤ b1 by have := HK.out.1; omega); replace HE := Zf HE hbel; replace HK := Zw HK hbel; have BXb1 := aK hblk; clear hblk hbel hbn)))
          | ((with_reducible refine gD 6 rfl ?_); go_must ((refine goesL_ (some 6) rfl rfl Try.func76 (by kernel_rfl) rfl #[eyeP g] rfl (mpT rfl) ?_; refine (eDown_calls hd HE.out).mono ?_; rintro e w1 ⟨rfl, he, hk⟩; refine ⟨_, rfl, ?_⟩; replace HE := aK (he); replace HK := Zk HK hk; replace BXb1 := Zb hk BXb1 GBb1 GL; clear he hk)))
          | ((with_reducible refine gD 10 rfl ?_); go_must ((refine goesL_ (some 10) rfl rfl Try.func32 (by kernel_rfl) rfl #[eyeP g] rfl (mpT rfl) ?_; refine (eAt_calls hat HE.out).mono ?_; rintro e w1 ⟨rfl, he, hk⟩; refine ⟨_, rfl, ?_⟩; replace HE := aK (he); replace HK := Zk HK hk; replace BXb1 := Zb hk BXb1 GBb1 GL; clear he hk)))
          | ((with_reducible refine gD 4 rfl ?_); go_must ((refine ev_alloc29 rfl (N := 4) rfl rfl ?_; intro b2 hbn w1 hblk hbel; have GBb2 := aK (show w.heap.size ≤ b2 by have := HK.out.1; omega); have LTb1b2 := aK (show b1 < b2 by have := blk_lt BXb1.out; omega); replace HE := Zf HE hbel; replace HK := Zw HK hbel; replace BXb1 := Zc hbel BXb1; have BXb2 := aK hblk; clear hblk hbel hbn)))
          | ((with_reducible refine gate_ (.store 29 (.tmp 4) (.tmp 12)) rfl ?_); go_must ((refine ev_store29 rfl rfl (.tmp 4) (.tmp 12) rfl (b := b2) (z := nd 0 tk0 0 [] at_) (v := (.slice none 0 0)) rfl rfl BXb2.out rfl ?_; intro w1 hblk hg hz; replace HE := Ze HE hg GBb2 GL; replace HK := Zx HK hg GBb2; replace BXb1 := Zg hg BXb1 LTb1b2; replace BXb2 := aK (hblk); clear hblk hg hz)))
          | ((with_reducible refine gD 32 rfl ?_); go_must ((refine goesL_ (some 32) rfl rfl Try.func57 (by kernel_rfl) rfl #[eyeP g] rfl (mpT rfl) ?_; refine (eSee_calls hsee HE.out).mono ?_; rintro e w1 ⟨rfl, he, hk⟩; refine ⟨_, rfl, ?_⟩; replace HE := aK (he); replace HK := Zk HK hk; replace BXb1 := Zb hk BXb1 GBb1 GL; replace BXb2 := Zb hk BXb2 GBb2 GL; clear he hk)))
          | ((with_reducible refine gD 38 rfl ?_); go_must ((refine goesL_ (some 38) rfl rfl Try.func33 (by kernel_rfl) rfl #[eyeP g, .string ⟨#[105, 102]⟩] rfl (mpT rfl) ?_; refine (eEat_calls i1 HE.out).mono ?_; rintro e w1 ⟨rfl, he, hk⟩; refine ⟨_, rfl, ?_⟩; replace HE := aK (he); replace HK := Zk HK hk; replace BXb1 := Zb hk BXb1 GBb1 GL; replace BXb2 := Zb hk BXb2 GBb2 GL; clear he hk)))
          | ((with_reducible refine gate_ (.store 3 (.tmp 39) (.const (.int .i64 5))) rfl ?_); go_must ((refine ev_field29 rfl rfl 3 (.tmp 39) (.const (.int .i64 5)) rfl (b := b2) 0 (.int .i64 5) rfl rfl BXb2.out (by omega) rfl rfl (by kernel_rfl) (nd 5 tk0 0 [] at_) ((.slice none 0 0)) rfl ?_; intro w1 hblk hg hz; replace HE := Ze HE hg GBb2 GL; replace HK := Zx HK hg GBb2; replace BXb1 := Zg hg BXb1 LTb1b2; replace BXb2 := aK (hblk); clear hblk hg hz))))
        refine app_A (A := none) (c := 0) (base := w.heap.size) (ok := fun q => w.heap.size ≤ q ∧ q ≠ b2 ∧ q ≠ b1) ⟨HE.out, BXb2.out, Kd.N_nil k29 29 _ w.heap.size (fun q => w.heap.size ≤ q ∧ q ≠ b2 ∧ q ≠ b1), by have := GBb2.out; have := GL.out; omega, fun q hq => by have h9 : w.heap.size ≤ q := hq.1; have := GL.out; have := HE.out.ge; exact ⟨by omega, hq.2.1, by omega⟩, fun q hq => by have h9 := HK.out.1; have h7 := blk_lt BXb1.out; have h8 := blk_lt BXb2.out; exact ⟨by omega, by omega, by omega⟩, HK.out.1, by have := GBb2.out; have := GL.out; have := HE.out.ge; omega, by simp⟩ 40 41 42 44 43 45 46 47 48 4 0 rfl rfl rfl rfl rfl rfl rfl rfl rfl rfl rfl rfl ⟨rfl, rfl⟩ ⟨rfl, rfl⟩ ⟨rfl, rfl⟩ ⟨rfl, rfl⟩ ⟨rfl, rfl⟩ ⟨rfl, rfl⟩ ⟨rfl, rfl⟩ ⟨rfl, rfl⟩ ⟨rfl, rfl⟩ ⟨rfl, rfl⟩ ⟨rfl, rfl⟩ rfl rfl rfl ⟨rfl, rfl⟩ Try.func77 (by kernel_rfl) rfl #[eyeP g, .bool true] rfl (fun a' h => by simp only [List.map_toArray, List.map_cons, List.map_nil, h] <;> rfl) rfl rfl rfl rfl rfl rfl 184 rfl (by decide) (by decide) rfl rfl (by constructor <;> kernel_rfl) (fun _ _ _ _ _ h => h) (fun W1 hE1 => hR.2.2.1 _ _ _ _ h1 w0 W1 g hE1) ?_
        intro vT vz v1 p1 W1 hp
        obtain ⟨hE9, hB9, hN9, hR9⟩ := hp
        simp only [Act.put, List.setIfInBounds_toArray, List.set_cons_zero, List.set_cons_succ]
        have n1 := aK (keep_chain HK.out hR9 GBb2.out (fun q h => by cases h))
        have n2 := aK ((hR9.2 b1 (blk_lt BXb1.out) (by have := GBb1.out; have := GL.out; omega) (by have := LTb1b2.out; omega) (fun e => by cases e)).trans BXb1.out)
        clear HE HK BXb1 BXb2 hR9
        have HE := aK hE9
        have HK := n1
        have BXb1 := n2
        have BXb2 := aK (show W1.heap[b2]? = some (.cells (nc (nd 5 tk0 0 [r1] at_) v1).toArray 29 (0, 0)) from hB9)
        have NR := aK (show Kd.N k29 29 W1 w.heap.size (fun q => w.heap.size ≤ q ∧ q ≠ b2 ∧ q ≠ b1) v1 [r1] from hN9)
        clear n1 n2 hE9 hB9 hN9
        go_wp2
        obtain ⟨A1, c1, e1⟩ := Kd.N_slice NR.out
        subst e1
        refine app_A (A := A1) (c := c1) (base := w.heap.size) (ok := fun q => w.heap.size ≤ q ∧ q ≠ b2 ∧ q ≠ b1) ⟨HE.out, BXb2.out, NR.out, by have := GBb2.out; have := GL.out; omega, fun q hq => by have h9 : w.heap.size ≤ q := hq.1; have := GL.out; have := HE.out.ge; exact ⟨by omega, hq.2.1, by omega⟩, fun q hq => by have h9 := HK.out.1; have h7 := blk_lt BXb1.out; have h8 := blk_lt BXb2.out; exact ⟨by omega, by omega, by omega⟩, HK.out.1, by have := GBb2.out; have := GL.out; have := HE.out.ge; omega, by simp⟩ 49 50 51 53 52 54 55 56 57 4 0 rfl rfl rfl rfl rfl rfl rfl rfl rfl rfl rfl rfl ⟨rfl, rfl⟩ ⟨rfl, rfl⟩ ⟨rfl, rfl⟩ ⟨rfl, rfl⟩ ⟨rfl, rfl⟩ ⟨rfl, rfl⟩ ⟨rfl, rfl⟩ ⟨rfl, rfl⟩ ⟨rfl, rfl⟩ ⟨rfl, rfl⟩ ⟨rfl, rfl⟩ rfl rfl rfl ⟨rfl, rfl⟩ Try.func37 (by kernel_rfl) rfl #[eyeP g] rfl (fun a' h => by simp only [List.map_toArray, List.map_cons, List.map_nil, h] <;> rfl) rfl rfl rfl rfl rfl rfl 184 rfl (by decide) (by decide) rfl rfl (by constructor <;> kernel_rfl) (fun _ _ _ _ _ h => h) (fun W1 hE1 => hR.2.2.2.2.2.1 _ _ _ h2 w0 W1 g hE1) ?_
        intro vT vz v1 p1 W1 hp
        obtain ⟨hE9, hB9, hN9, hR9⟩ := hp
        simp only [Act.put, List.setIfInBounds_toArray, List.set_cons_zero, List.set_cons_succ]
        have n1 := aK (keep_chain HK.out hR9 GBb2.out (fun q h => (NR.out.1 q h).1))
        have n2 := aK ((hR9.2 b1 (blk_lt BXb1.out) (by have := GBb1.out; have := GL.out; omega) (by have := LTb1b2.out; omega) (fun e => (NR.out.1 b1 e.symm).2.2 rfl)).trans BXb1.out)
        clear HE HK BXb1 BXb2 NR hR9
        have HE := aK hE9
        have HK := n1
        have BXb1 := n2
        have BXb2 := aK (show W1.heap[b2]? = some (.cells (nc (nd 5 tk0 0 [r1, r2] at_) v1).toArray 29 (0, 0)) from hB9)
        have NR := aK (show Kd.N k29 29 W1 w.heap.size (fun q => w.heap.size ≤ q ∧ q ≠ b2 ∧ q ≠ b1) v1 [r1, r2] from hN9)
        clear n1 n2 hE9 hB9 hN9
        have VV := aK (Kd.N_V (base' := 0) NR.out)
        clear NR
        go_wp2_with (first
          | ((with_reducible refine gD 59 rfl ?_); go_must ((refine goesL_ (some 59) rfl rfl Try.func33 (by kernel_rfl) rfl #[eyeP g, .string ⟨#[101, 108, 115, 101]⟩] rfl (mpT rfl) ?_; refine (eEat_calls h3 HE.out).mono ?_; rintro e w1 ⟨rfl, he, hk⟩; refine ⟨_, rfl, ?_⟩; replace HE := aK (he); replace HK := Zk HK hk; replace BXb1 := Zb hk BXb1 GBb1 GL; replace BXb2 := Zb hk BXb2 GBb2 GL; replace VV := aK (Kd.V_keep VV.out hk (fun q hq e => by have h9 : w.heap.size ≤ q := hq.1; have := GL.out; omega)); clear he hk)))
          | ((with_reducible refine gD 179 rfl ?_); go_must ((refine ev_cell rfl (N := 179) rfl 3 (.tmp 178) rfl ⟨g, 3, none⟩ rfl _ _ HE.out.c3 Try.underlying3 rfl ?_)))
          | ((with_reducible refine gate_ (.store 3 (.tmp 182) (.tmp 180)) rfl ?_); go_must ((refine ev_eye3 rfl rfl (.tmp 182) (.tmp 180) rfl (_) rfl rfl HE.out ?_; intro w1 he hg hz; replace HE := aK (he); replace HK := aK (keep_grown HK.out hg (.inr rfl)); replace BXb1 := aK (grown_blk hg BXb1.out (by have := GBb1.out; have := GL.out; omega)); replace BXb2 := aK (grown_blk hg BXb2.out (by have := GBb2.out; have := GL.out; omega)); replace VV := aK (Kd.V_grown VV.out hg (fun q hq e => by injection e with e; have h9 : w.heap.size ≤ q := hq.1; have := GL.out; omega)); clear he hg hz)))
          | ((with_reducible refine gD 183 rfl ?_); go_must ((refine ev_load29 rfl (N := 183) rfl (.tmp 4) rfl (b := b2) rfl BXb2.out ?_)))
          | ((with_reducible refine gate_ (.store 29 (.tmp 2) (.tmp 183)) rfl ?_); go_must ((refine ev_store29 rfl rfl (.tmp 2) (.tmp 183) rfl (b := b1) (z := nd 5 tk0 0 [r1, r2] at_) (v := v1) rfl rfl BXb1.out (VK_one VV.out) ?_; intro w1 hblk hg hz; replace HE := Ze HE hg GBb1 GL; replace HK := Zx HK hg GBb1; replace BXb1 := aK (hblk); replace BXb2 := Zh hg BXb2 LTb1b2; replace VV := aK (Kd.V_grown VV.out hg (fun q hq e => by injection e with e; exact hq.2.2 e)); clear hblk hg hz))))
        refine bodyPost_ret (results_cell_row rfl _ _ b1 29 (nc (nd 5 tk0 0 [r1, r2] at_) v1).toArray _ _ rfl BXb1.out Try.underlying29 rfl info29s) rfl ?_
        exact ⟨v1, rfl, Kd.V_mono VV.out (fun q hq => hq.1), HE.out, HK.out⟩
      · simp only [if_true] at h
        obtain ⟨⟨r3, u4⟩, h4, h⟩ := Option.bind_eq_some_iff.1 h
        simp only [Option.some.injEq, Prod.mk.injEq] at h
        obtain ⟨rfl, rfl⟩ := h
        go_enter Try.func61, Try.ntmps61
        go_wp2_with (first
          | ((with_reducible refine gD 2 rfl ?_); go_must ((refine ev_alloc29 rfl (N := 2) rfl rfl ?_; intro b1 hbn w1 hblk hbel; have GBb1 := aK (show w.heap.size ≤ b1 by have := HK.out.1; omega); replace HE := Zf HE hbel; replace HK := Zw HK hbel; have BXb1 := aK hblk; clear hblk hbel hbn)))
          | ((with_reducible refine gD 6 rfl ?_); go_must ((refine goesL_ (some 6) rfl rfl Try.func76 (by kernel_rfl) rfl #[eyeP g] rfl (mpT rfl) ?_; refine (eDown_calls hd HE.out).mono ?_; rintro e w1 ⟨rfl, he, hk⟩; refine ⟨_, rfl, ?_⟩; replace HE := aK (he); replace HK := Zk HK hk; replace BXb1 := Zb hk BXb1 GBb1 GL; clear he hk)))
          | ((with_reducible refine gD 10 rfl ?_); go_must ((refine goesL_ (some 10) rfl rfl Try.func32 (by kernel_rfl) rfl #[eyeP g] rfl (mpT rfl) ?_; refine (eAt_calls hat HE.out).mono ?_; rintro e w1 ⟨rfl, he, hk⟩; refine ⟨_, rfl, ?_⟩; replace HE := aK (he); replace HK := Zk HK hk; replace BXb1 := Zb hk BXb1 GBb1 GL; clear he hk)))
          | ((with_reducible refine gD 4 rfl ?_); go_must ((refine ev_alloc29 rfl (N := 4) rfl rfl ?_; intro b2 hbn w1 hblk hbel; have GBb2 := aK (show w.heap.size ≤ b2 by have := HK.out.1; omega); have LTb1b2 := aK (show b1 < b2 by have := blk_lt BXb1.out; omega); replace HE := Zf HE hbel; replace HK := Zw HK hbel; replace BXb1 := Zc hbel BXb1; have BXb2 := aK hblk; clear hblk hbel hbn)))
          | ((with_reducible refine gate_ (.store 29 (.tmp 4) (.tmp 12)) rfl ?_); go_must ((refine ev_store29 rfl rfl (.tmp 4) (.tmp 12) rfl (b := b2) (z := nd 0 tk0 0 [] at_) (v := (.slice none 0 0)) rfl rfl BXb2.out rfl ?_; intro w1 hblk hg hz; replace HE := Ze HE hg GBb2 GL; replace HK := Zx HK hg GBb2; replace BXb1 := Zg hg BXb1 LTb1b2; replace BXb2 := aK (hblk); clear hblk hg hz)))
          | ((with_reducible refine gD 32 rfl ?_); go_must ((refine goesL_ (some 32) rfl rfl Try.func57 (by kernel_rfl) rfl #[eyeP g] rfl (mpT rfl) ?_; refine (eSee_calls hsee HE.out).mono ?_; rintro e w1 ⟨rfl, he, hk⟩; refine ⟨_, rfl, ?_⟩; replace HE := aK (he); replace HK := Zk HK hk; replace BXb1 := Zb hk BXb1 GBb1 GL; replace BXb2 := Zb hk BXb2 GBb2 GL; clear he hk)))
          | ((with_reducible refine gD 38 rfl ?_); go_must ((refine goesL_ (some 38) rfl rfl Try.func33 (by kernel_rfl) rfl #[eyeP g, .string ⟨#[105, 102]⟩] rfl (mpT rfl) ?_; refine (eEat_calls i1 HE.out).mono ?_; rintro e w1 ⟨rfl, he, hk⟩; refine ⟨_, rfl, ?_⟩; replace HE := aK (he); replace HK := Zk HK hk; replace BXb1 := Zb hk BXb1 GBb1 GL; replace BXb2 := Zb hk BXb2 GBb2 GL; clear he hk)))
          | ((with_reducible refine gate_ (.store 3 (.tmp 39) (.const (.int .i64 5))) rfl ?_); go_must ((refine ev_field29 rfl rfl 3 (.tmp 39) (.const (.int .i64 5)) rfl (b := b2) 0 (.int .i64 5) rfl rfl BXb2.out (by omega) rfl rfl (by kernel_rfl) (nd 5 tk0 0 [] at_) ((.slice none 0 0)) rfl ?_; intro w1 hblk hg hz; replace HE := Ze HE hg GBb2 GL; replace HK := Zx HK hg GBb2; replace BXb1 := Zg hg BXb1 LTb1b2; replace BXb2 := aK (hblk); clear hblk hg hz))))
        refine app_A (A := none) (c := 0) (base := w.heap.size) (ok := fun q => w.heap.size ≤ q ∧ q ≠ b2 ∧ q ≠ b1) ⟨HE.out, BXb2.out, Kd.N_nil k29 29 _ w.heap.size (fun q => w.heap.size ≤ q ∧ q ≠ b2 ∧ q ≠ b1), by have := GBb2.out; have := GL.out; omega, fun q hq => by have h9 : w.heap.size ≤ q := hq.1; have := GL.out; have := HE.out.ge; exact ⟨by omega, hq.2.1, by omega⟩, fun q hq => by have h9 := HK.out.1; have h7 := blk_lt BXb1.out; have h8 := blk_lt BXb2.out; exact ⟨by omega, by omega, by omega⟩, HK.out.1, by have := GBb2.out; have := GL.out; have := HE.out.ge; omega, by simp⟩ 40 41 42 44 43 45 46 47 48 4 0 rfl rfl rfl rfl rfl rfl rfl rfl rfl rfl rfl rfl ⟨rfl, rfl⟩ ⟨rfl, rfl⟩ ⟨rfl, rfl⟩ ⟨rfl, rfl⟩ ⟨rfl, rfl⟩ ⟨rfl, rfl⟩ ⟨rfl, rfl⟩ ⟨rfl, rfl⟩ ⟨rfl, rfl⟩ ⟨rfl, rfl⟩ ⟨rfl, rfl⟩ rfl rfl rfl ⟨rfl, rfl⟩ Try.func77 (by kernel_rfl) rfl #[eyeP g, .bool true] rfl (fun a' h => by simp only [List.map_toArray, List.map_cons, List.map_nil, h] <;> rfl) rfl rfl rfl rfl rfl rfl 184 rfl (by decide) (by decide) rfl rfl (by constructor <;> kernel_rfl) (fun _ _ _ _ _ h => h) (fun W1 hE1 => hR.2.2.1 _ _ _ _ h1 w0 W1 g hE1) ?_
        intro vT vz v1 p1 W1 hp
        obtain ⟨hE9, hB9, hN9, hR9⟩ := hp
        simp only [Act.put, List.setIfInBounds_toArray, List.set_cons_zero, List.set_cons_succ]
        have n1 := aK (keep_chain HK.out hR9 GBb2.out (fun q h => by cases h))
        have n2 := aK ((hR9.2 b1 (blk_lt BXb1.out) (by have := GBb1.out; have := GL.out; omega) (by have := LTb1b2.out; omega) (fun e => by cases e)).trans BXb1.out)
        clear HE HK BXb1 BXb2 hR9
        have HE := aK hE9
        have HK := n1
        have BXb1 := n2
        have BXb2 := aK (show W1.heap[b2]? = some (.cells (nc (nd 5 tk0 0 [r1] at_) v1).toArray 29 (0, 0)) from hB9)
        have NR := aK (show Kd.N k29 29 W1 w.heap.size (fun q => w.heap.size ≤ q ∧ q ≠ b2 ∧ q ≠ b1) v1 [r1] from hN9)
        clear n1 n2 hE9 hB9 hN9
        go_wp2
        obtain ⟨A1, c1, e1⟩ := Kd.N_slice NR.out
        subst e1
        refine app_A (A := A1) (c := c1) (base := w.heap.size) (ok := fun q => w.heap.size ≤ q ∧ q ≠ b2 ∧ q ≠ b1) ⟨HE.out, BXb2.out, NR.out, by have := GBb2.out; have := GL.out; omega, fun q hq => by have h9 : w.heap.size ≤ q := hq.1; have := GL.out; have := HE.out.ge; exact ⟨by omega, hq.2.1, by omega⟩, fun q hq => by have h9 := HK.out.1; have h7 := blk_lt BXb1.out; have h8 := blk_lt BXb2.out; exact ⟨by omega, by omega, by omega⟩, HK.out.1, by have := GBb2.out; have := GL.out; have := HE.out.ge; omega, by simp⟩ 49 50 51 53 52 54 55 56 57 4 0 rfl rfl rfl rfl rfl rfl rfl rfl rfl rfl rfl rfl ⟨rfl, rfl⟩ ⟨rfl, rfl⟩ ⟨rfl, rfl⟩ ⟨rfl, rfl⟩ ⟨rfl, rfl⟩ ⟨rfl, rfl⟩ ⟨rfl, rfl⟩ ⟨rfl, rfl⟩ ⟨rfl, rfl⟩ ⟨rfl, rfl⟩ ⟨rfl, rfl⟩ rfl rfl rfl ⟨rfl, rfl⟩ Try.func37 (by kernel_rfl) rfl #[eyeP g] rfl (fun a' h => by simp only [List.map_toArray, List.map_cons, List.map_nil, h] <;> rfl) rfl rfl rfl rfl rfl rfl 184 rfl (by decide) (by decide) rfl rfl (by constructor <;> kernel_rfl) (fun _ _ _ _ _ h => h) (fun W1 hE1 => hR.2.2.2.2.2.1 _ _ _ h2 w0 W1 g hE1) ?_
        intro vT vz v1 p1 W1 hp
        obtain ⟨hE9, hB9, hN9, hR9⟩ := hp
        simp only [Act.put, List.setIfInBounds_toArray, List.set_cons_zero, List.set_cons_succ]
        have n1 := aK (keep_chain HK.out hR9 GBb2.out (fun q h => (NR.out.1 q h).1))
        have n2 := aK ((hR9.2 b1 (blk_lt BXb1.out) (by have := GBb1.out; have := GL.out; omega) (by have := LTb1b2.out; omega) (fun e => (NR.out.1 b1 e.symm).2.2 rfl)).trans BXb1.out)
        clear HE HK BXb1 BXb2 NR hR9
        have HE := aK hE9
        have HK := n1
        have BXb1 := n2
        have BXb2 := aK (show W1.heap[b2]? = some (.cells (nc (nd 5 tk0 0 [r1, r2] at_) v1).toArray 29 (0, 0)) from hB9)
        have NR := aK (show Kd.N k29 29 W1 w.heap.size (fun q => w.heap.size ≤ q ∧ q ≠ b2 ∧ q ≠ b1) v1 [r1, r2] from hN9)
        clear n1 n2 hE9 hB9 hN9
        go_wp2_with (first
          | ((with_reducible refine gD 59 rfl ?_); go_must ((refine goesL_ (some 59) rfl rfl Try.func33 (by kernel_rfl) rfl #[eyeP g, .string ⟨#[101, 108, 115, 101]⟩] rfl (mpT rfl) ?_; refine (eEat_calls h3 HE.out).mono ?_; rintro e w1 ⟨rfl, he, hk⟩; refine ⟨_, rfl, ?_⟩; replace HE := aK (he); replace HK := Zk HK hk; replace BXb1 := Zb hk BXb1 GBb1 GL; replace BXb2 := Zb hk BXb2 GBb2 GL; replace NR := aK (Kd.N_keep NR.out hk (fun q hq e => by have h9 : w.heap.size ≤ q := hq.1; have := GL.out; omega)); clear he hk))))
        obtain ⟨A1, c1, e1⟩ := Kd.N_slice NR.out
        subst e1
        refine app_A (A := A1) (c := c1) (base := w.heap.size) (ok := fun q => w.heap.size ≤ q ∧ q ≠ b2 ∧ q ≠ b1) ⟨HE.out, BXb2.out, NR.out, by have := GBb2.out; have := GL.out; omega, fun q hq => by have h9 : w.heap.size ≤ q := hq.1; have := GL.out; have := HE.out.ge; exact ⟨by omega, hq.2.1, by omega⟩, fun q hq => by have h9 := HK.out.1; have h7 := blk_lt BXb1.out; have h8 := blk_lt BXb2.out; exact ⟨by omega, by omega, by omega⟩, HK.out.1, by have := GBb2.out; have := GL.out; have := HE.out.ge; omega, by simp⟩ 60 61 62 64 63 65 66 67 68 4 0 rfl rfl rfl rfl rfl rfl rfl rfl rfl rfl rfl rfl ⟨rfl, rfl⟩ ⟨rfl, rfl⟩ ⟨rfl, rfl⟩ ⟨rfl, rfl⟩ ⟨rfl, rfl⟩ ⟨rfl, rfl⟩ ⟨rfl, rfl⟩ ⟨rfl, rfl⟩ ⟨rfl, rfl⟩ ⟨rfl, rfl⟩ ⟨rfl, rfl⟩ rfl rfl rfl ⟨rfl, rfl⟩ Try.func37 (by kernel_rfl) rfl #[eyeP g] rfl (fun a' h => by simp only [List.map_toArray, List.map_cons, List.map_nil, h] <;> rfl) rfl rfl rfl rfl rfl rfl 184 rfl (by decide) (by decide) rfl rfl (by constructor <;> kernel_rfl) (fun _ _ _ _ _ h => h) (fun W1 hE1 => hR.2.2.2.2.2.1 _ _ _ h4 w0 W1 g hE1) ?_
        intro vT vz v1 p1 W1 hp
        obtain ⟨hE9, hB9, hN9, hR9⟩ := hp
        simp only [Act.put, List.setIfInBounds_toArray, List.set_cons_zero, List.set_cons_succ]
        have n1 := aK (keep_chain HK.out hR9 GBb2.out (fun q h => (NR.out.1 q h).1))
        have n2 := aK ((hR9.2 b1 (blk_lt BXb1.out) (by have := GBb1.out; have := GL.out; omega) (by have := LTb1b2.out; omega) (fun e => (NR.out.1 b1 e.symm).2.2 rfl)).trans BXb1.out)
        clear HE HK BXb1 BXb2 NR hR9
        have HE := aK hE9
        have HK := n1
        have BXb1 := n2
        have BXb2 := aK (show W1.heap[b2]? = some (.cells (nc (nd 5 tk0 0 [r1, r2, r3] at_) v1).toArray 29 (0, 0)) from hB9)
        have NR := aK (show Kd.N k29 29 W1 w.heap.size (fun q => w.heap.size ≤ q ∧ q ≠ b2 ∧ q ≠ b1) v1 [r1, r2, r3] from hN9)
        clear n1 n2 hE9 hB9 hN9
        have VV := aK (Kd.N_V (base' := 0) NR.out)
        clear NR
        go_wp2_with (first
          | ((with_reducible refine gD 179 rfl ?_); go_must ((refine ev_cell rfl (N := 179) rfl 3 (.tmp 178) rfl ⟨g, 3, none⟩ rfl _ _ HE.out.c3 Try.underlying3 rfl ?_)))
          | ((with_reducible refine gate_ (.store 3 (.tmp 182) (.tmp 180)) rfl ?_); go_must ((refine ev_eye3 rfl rfl (.tmp 182) (.tmp 180) rfl (_) rfl rfl HE.out ?_; intro w1 he hg hz; replace HE := aK (he); replace HK := aK (keep_grown HK.out hg (.inr rfl)); replace BXb1 := aK (grown_blk hg BXb1.out (by have := GBb1.out; have := GL.out; omega)); replace BXb2 := aK (grown_blk hg BXb2.out (by have := GBb2.out; have := GL.out; omega)); replace VV := aK (Kd.V_grown VV.out hg (fun q hq e => by injection e with e; have h9 : w.heap.size ≤ q := hq.1; have := GL.out; omega)); clear he hg hz)))
          | ((with_reducible refine gD 183 rfl ?_); go_must ((refine ev_load29 rfl (N := 183) rfl (.tmp 4) rfl (b := b2) rfl BXb2.out ?_)))
          | ((with_reducible refine gate_ (.store 29 (.tmp 2) (.tmp 183)) rfl ?_); go_must ((refine ev_store29 rfl rfl (.tmp 2) (.tmp 183) rfl (b := b1) (z := nd 5 tk0 0 [r1, r2, r3] at_) (v := v1) rfl rfl BXb1.out (VK_one VV.out) ?_; intro w1 hblk hg hz; replace HE := Ze HE hg GBb1 GL; replace HK := Zx HK hg GBb1; replace BXb1 := aK (hblk); replace BXb2 := Zh hg BXb2 LTb1b2; replace VV := aK (Kd.V_grown VV.out hg (fun q hq e => by injection e with e; exact hq.2.2 e)); clear hblk hg hz))))
        refine bodyPost_ret (results_cell_row rfl _ _ b1 29 (nc (nd 5 tk0 0 [r1, r2, r3] at_) v1).toArray _ _ rfl BXb1.out Try.underlying29 rfl info29s) rfl ?_
        exact ⟨v1, rfl, Kd.V_mono VV.out (fun q hq => hq.1), HE.out, HK.out⟩
    simp only [Bool.false_eq_true, if_false] at h
    obtain ⟨⟨x2, t2⟩, i2, h⟩ := Option.bind_eq_some_iff.1 h
    cases x2
    rotate_left
    · simp only [if_true] at h
      obtain ⟨⟨r1, u1⟩, h1, h⟩ := Option.bind_eq_some_iff.1 h
      obtain ⟨⟨r2, u2⟩, h2, h⟩ := Option.bind_eq_some_iff.1 h
      simp only [Option.some.injEq, Prod.mk.injEq] at h
      obtain ⟨rfl, rfl⟩ := h
      go_enter Try.func61, Try.ntmps61
      go_wp2_with (first
        | ((with_reducible refine gD 2 rfl ?_); go_must ((refine ev_alloc29 rfl (N := 2) rfl rfl ?_; intro b1 hbn w1 hblk hbel; have GBb1 := aK (show w.heap.size ≤ b1 by have := HK.out.1; omega); replace HE := Zf HE hbel; replace HK := Zw HK hbel; have BXb1 := aK hblk; clear hblk hbel hbn)))
        | ((with_reducible refine gD 6 rfl ?_); go_must ((refine goesL_ (some 6) rfl rfl Try.func76 (by kernel_rfl) rfl #[eyeP g] rfl (mpT rfl) ?_; refine (eDown_calls hd HE.out).mono ?_; rintro e w1 ⟨rfl, he, hk⟩; refine ⟨_, rfl, ?_⟩; replace HE := aK (he); replace HK := Zk HK hk; replace BXb1 := Zb hk BXb1 GBb1 GL; clear he hk)))
        | ((with_reducible refine gD 10 rfl ?_); go_must ((refine goesL_ (some 10) rfl rfl Try.func32 (by kernel_rfl) rfl #[eyeP g] rfl (mpT rfl) ?_; refine (eAt_calls hat HE.out).mono ?_; rintro e w1 ⟨rfl, he, hk⟩; refine ⟨_, rfl, ?_⟩; replace HE := aK (he); replace HK := Zk HK hk; replace BXb1 := Zb hk BXb1 GBb1 GL; clear he hk)))
        | ((with_reducible refine gD 4 rfl ?_); go_must ((refine ev_alloc29 rfl (N := 4) rfl rfl ?_; intro b2 hbn w1 hblk hbel; have GBb2 := aK (show w.heap.size ≤ b2 by have := HK.out.1; omega); have LTb1b2 := aK (show b1 < b2 by have := blk_lt BXb1.out; omega); replace HE := Zf HE hbel; replace HK := Zw HK hbel; replace BXb1 := Zc hbel BXb1; have BXb2 := aK hblk; clear hblk hbel hbn)))
        | ((with_reducible refine gate_ (.store 29 (.tmp 4) (.tmp 12)) rfl ?_); go_must ((refine ev_store29 rfl rfl (.tmp 4) (.tmp 12) rfl (b := b2) (z := nd 0 tk0 0 [] at_) (v := (.slice none 0 0)) rfl rfl BXb2.out rfl ?_; intro w1 hblk hg hz; replace HE := Ze HE hg GBb2 GL; replace HK := Zx HK hg GBb2; replace BXb1 := Zg hg BXb1 LTb1b2; replace BXb2 := aK (hblk); clear hblk hg hz)))
        | ((with_reducible refine gD 32 rfl ?_); go_must ((refine goesL_ (some 32) rfl rfl Try.func57 (by kernel_rfl) rfl #[eyeP g] rfl (mpT rfl) ?_; refine (eSee_calls hsee HE.out).mono ?_; rintro e w1 ⟨rfl, he, hk⟩; refine ⟨_, rfl, ?_⟩; replace HE := aK (he); replace HK := Zk HK hk; replace BXb1 := Zb hk BXb1 GBb1 GL; replace BXb2 := Zb hk BXb2 GBb2 GL; clear he hk)))
        | ((with_reducible refine gD 38 rfl ?_); go_must ((refine goesL_ (some 38) rfl rfl Try.func33 (by kernel_rfl) rfl #[eyeP g, .string ⟨#[105, 102]⟩] rfl (mpT rfl) ?_; refine (eEat_calls i1 HE.out).mono ?_; rintro e w1 ⟨rfl, he, hk⟩; refine ⟨_, rfl, ?_⟩; replace HE := aK (he); replace HK := Zk HK hk; replace BXb1 := Zb hk BXb1 GBb1 GL; replace BXb2 := Zb hk BXb2 GBb2 GL; clear he hk)))
        | ((with_reducible refine gD 71 rfl ?_); go_must ((refine goesL_ (some 71) rfl rfl Try.func33 (by kernel_rfl) rfl #[eyeP g, .string ⟨#[119, 104, 105, 108, 101]⟩] rfl (mpT rfl) ?_; refine (eEat_calls i2 HE.out).mono ?_; rintro e w1 ⟨rfl, he, hk⟩; refine ⟨_, rfl, ?_⟩; replace HE := aK (he); replace HK := Zk HK hk; replace BXb1 := Zb hk BXb1 GBb1 GL; replace BXb2 := Zb hk BXb2 GBb2 GL; clear he hk)))
        | ((with_reducible refine gate_ (.store 3 (.tmp 72) (.const (.int .i64 6))) rfl ?_); go_must ((refine ev_field29 rfl rfl 3 (.tmp 72) (.const (.int .i64 6)) rfl (b := b2) 0 (.int .i64 6) rfl rfl BXb2.out (by omega) rfl rfl (by kernel_rfl) (nd 6 tk0 0 [] at_) ((.slice none 0 0)) rfl ?_; intro w1 hblk hg hz; replace HE := Ze HE hg GBb2 GL; replace HK := Zx HK hg GBb2; replace BXb1 := Zg hg BXb1 LTb1b2; replace BXb2 := aK (hblk); clear hblk hg hz))))
      refine app_A (A := none) (c := 0) (base := w.heap.size) (ok := fun q => w.heap.size ≤ q ∧ q ≠ b2 ∧ q ≠ b1) ⟨HE.out, BXb2.out, Kd.N_nil k29 29 _ w.heap.size (fun q => w.heap.size ≤ q ∧ q ≠ b2 ∧ q ≠ b1), by have := GBb2.out; have := GL.out; omega, fun q hq => by have h9 : w.heap.size ≤ q := hq.1; have := GL.out; have := HE.out.ge; exact ⟨by omega, hq.2.1, by omega⟩, fun q hq => by have h9 := HK.out.1; have h7 := blk_lt BXb1.out; have h8 := blk_lt BXb2.out; exact ⟨by omega, by omega, by omega⟩, HK.out.1, by have := GBb2.out; have := GL.out; have := HE.out.ge; omega, by simp⟩ 73 74 75 77 76 78 79 80 81 4 0 rfl rfl rfl rfl rfl rfl rfl rfl rfl rfl rfl rfl ⟨rfl, rfl⟩ ⟨rfl, rfl⟩ ⟨rfl, rfl⟩ ⟨rfl, rfl⟩ ⟨rfl, rfl⟩ ⟨rfl, rfl⟩ ⟨rfl, rfl⟩ ⟨rfl, rfl⟩ ⟨rfl, rfl⟩ ⟨rfl, rfl⟩ ⟨rfl, rfl⟩ rfl rfl rfl ⟨rfl, rfl⟩ Try.func77 (by kernel_rfl) rfl #[eyeP g, .bool true] rfl (fun a' h => by simp only [List.map_toArray, List.map_cons, List.map_nil, h] <;> rfl) rfl rfl rfl rfl rfl rfl 184 rfl (by decide) (by decide) rfl rfl (by constructor <;> kernel_rfl) (fun _ _ _ _ _ h => h) (fun W1 hE1 => hR.2.2.1 _ _ _ _ h1 w0 W1 g hE1) ?_
      intro vT vz v1 p1 W1 hp
      obtain ⟨hE9, hB9, hN9, hR9⟩ := hp
      simp only [Act.put, List.setIfInBounds_toArray, List.set_cons_zero, List.set_cons_succ]
      have n1 := aK (keep_chain HK.out hR9 GBb2.out (fun q h => by cases h))
      have n2 := aK ((hR9.2 b1 (blk_lt BXb1.out) (by have := GBb1.out; have := GL.out; omega) (by have := LTb1b2.out; omega) (fun e => by cases e)).trans BXb1.out)
      clear HE HK BXb1 BXb2 hR9
      have HE := aK hE9
      have HK := n1
      have BXb1 := n2
      have BXb2 := aK (show W1.heap[b2]? = some (.cells (nc (nd 6 tk0 0 [r1] at_) v1).toArray 29 (0, 0)) from hB9)
      have NR := aK (show Kd.N k29 29 W1 w.heap.size (fun q => w.heap.size ≤ q ∧ q ≠ b2 ∧ q ≠ b1) v1 [r1] from hN9)
      clear n1 n2 hE9 hB9 hN9
      go_wp2
      obtain ⟨A1, c1, e1⟩ := Kd.N_slice NR.out
      subst e1
      refine app_A (A := A1) (c := c1) (base := w.heap.size) (ok := fun q => w.heap.size ≤ q ∧ q ≠ b2 ∧ q ≠ b1) ⟨HE.out, BXb2.out, NR.out, by have := GBb2.out; have := GL.out; omega, fun q hq => by have h9 : w.heap.size ≤ q := hq.1; have := GL.out; have := HE.out.ge; exact ⟨by omega, hq.2.1, by omega⟩, fun q hq => by have h9 := HK.out.1; have h7 := blk_lt BXb1.out; have h8 := blk_lt BXb2.out; exact ⟨by omega, by omega, by omega⟩, HK.out.1, by have := GBb2.out; have := GL.out; have := HE.out.ge; omega, by simp⟩ 82 83 84 86 85 87 88 89 90 4 0 rfl rfl rfl rfl rfl rfl rfl rfl rfl rfl rfl rfl ⟨rfl, rfl⟩ ⟨rfl, rfl⟩ ⟨rfl, rfl⟩ ⟨rfl, rfl⟩ ⟨rfl, rfl⟩ ⟨rfl, rfl⟩ ⟨rfl, rfl⟩ ⟨rfl, rfl⟩ ⟨rfl, rfl⟩ ⟨rfl, rfl⟩ ⟨rfl, rfl⟩ rfl rfl rfl ⟨rfl, rfl⟩ Try.func37 (by kernel_rfl) rfl #[eyeP g] rfl (fun a' h => by simp only [List.map_toArray, List.map_cons, List.map_nil, h] <;> rfl) rfl rfl rfl rfl rfl rfl 184 rfl (by decide) (by decide) rfl rfl (by constructor <;> kernel_rfl) (fun _ _ _ _ _ h => h) (fun W1 hE1 => hR.2.2.2.2.2.1 _ _ _ h2 w0 W1 g hE1) ?_
      intro vT vz v1 p1 W1 hp
      obtain ⟨hE9, hB9, hN9, hR9⟩ := hp
      simp only [Act.put, List.setIfInBounds_toArray, List.set_cons_zero, List.set_cons_succ]
      have n1 := aK (keep_chain HK.out hR9 GBb2.out (fun q h => (NR.out.1 q h).1))
      have n2 := aK ((hR9.2 b1 (blk_lt BXb1.out) (by have := GBb1.out; have := GL.out; omega) (by have := LTb1b2.out; omega) (fun e => (NR.out.1 b1 e.symm).2.2 rfl)).trans BXb1.out)
      clear HE HK BXb1 BXb2 NR hR9
      have HE := aK hE9
      have HK := n1
      have BXb1 := n2
      have BXb2 := aK (show W1.heap[b2]? = some (.cells (nc (nd 6 tk0 0 [r1, r2] at_) v1).toArray 29 (0, 0)) from hB9)
      have NR := aK (show Kd.N k29 29 W1 w.heap.size (fun q => w.heap.size ≤ q ∧ q ≠ b2 ∧ q ≠ b1) v1 [r1, r2] from hN9)
      clear n1 n2 hE9 hB9 hN9
      have VV := aK (Kd.N_V (base' := 0) NR.out)
      clear NR
      go_wp2_with (first
        | ((with_reducible refine gD 179 rfl ?_); go_must ((refine ev_cell rfl (N := 179) rfl 3 (.tmp 178) rfl ⟨g, 3, none⟩ rfl _ _ HE.out.c3 Try.underlying3 rfl ?_)))
        | ((with_reducible refine gate_ (.store 3 (.tmp 182) (.tmp 180)) rfl ?_); go_must ((refine ev_eye3 rfl rfl (.tmp 182) (.tmp 180) rfl (_) rfl rfl HE.out ?_; intro w1 he hg hz; replace HE := aK (he); replace HK := aK (keep_grown HK.out hg (.inr rfl)); replace BXb1 := aK (grown_blk hg BXb1.out (by have := GBb1.out; have := GL.out; omega)); replace BXb2 := aK (grown_blk hg BXb2.out (by have := GBb2.out; have := GL.out; omega)); replace VV := aK (Kd.V_grown VV.out hg (fun q hq e => by injection e with e; have h9 : w.heap.size ≤ q := hq.1; have := GL.out; omega)); clear he hg hz)))
        | ((with_reducible refine gD 183 rfl ?_); go_must ((refine ev_load29 rfl (N := 183) rfl (.tmp 4) rfl (b := b2) rfl BXb2.out ?_)))
        | ((with_reducible refine gate_ (.store 29 (.tmp 2) (.tmp 183)) rfl ?_); go_must ((refine ev_store29 rfl rfl (.tmp 2) (.tmp 183) rfl (b := b1) (z := nd 6 tk0 0 [r1, r2] at_) (v := v1) rfl rfl BXb1.out (VK_one VV.out) ?_; intro w1 hblk hg hz; replace HE := Ze HE hg GBb1 GL; replace HK := Zx HK hg GBb1; replace BXb1 := aK (hblk); replace BXb2 := Zh hg BXb2 LTb1b2; replace VV := aK (Kd.V_grown VV.out hg (fun q hq e => by injection e with e; exact hq.2.2 e)); clear hblk hg hz))))
      refine bodyPost_ret (results_cell_row rfl _ _ b1 29 (nc (nd 6 tk0 0 [r1, r2] at_) v1).toArray _ _ rfl BXb1.out Try.underlying29 rfl info29s) rfl ?_
      exact ⟨v1, rfl, Kd.V_mono VV.out (fun q hq => hq.1), HE.out, HK.out⟩
    simp only [Bool.false_eq_true, if_false] at h
    obtain ⟨⟨x3, t3⟩, i3, h⟩ := Option.bind_eq_some_iff.1 h
    cases x3
    rotate_left
    · simp only [if_true] at h
      obtain ⟨u1, h1, h⟩ := Option.bind_eq_some_iff.1 h
      simp only [Option.some.injEq, Prod.mk.injEq] at h
      obtain ⟨rfl, rfl⟩ := h
      go_enter Try.func61, Try.ntmps61
      go_wp2_with (first
        | ((with_reducible refine gD 2 rfl ?_); go_must ((refine ev_alloc29 rfl (N := 2) rfl rfl ?_; intro b1 hbn w1 hblk hbel; have GBb1 := aK (show w.heap.size ≤ b1 by have := HK.out.1; omega); replace HE := Zf HE hbel; replace HK := Zw HK hbel; have BXb1 := aK hblk; clear hblk hbel hbn)))
        | ((with_reducible refine gD 6 rfl ?_); go_must ((refine goesL_ (some 6) rfl rfl Try.func76 (by kernel_rfl) rfl #[eyeP g] rfl (mpT rfl) ?_; refine (eDown_calls hd HE.out).mono ?_; rintro e w1 ⟨rfl, he, hk⟩; refine ⟨_, rfl, ?_⟩; replace HE := aK (he); replace HK := Zk HK hk; replace BXb1 := Zb hk BXb1 GBb1 GL; clear he hk)))
        | ((with_reducible refine gD 10 rfl ?_); go_must ((refine goesL_ (some 10) rfl rfl Try.func32 (by kernel_rfl) rfl #[eyeP g] rfl (mpT rfl) ?_; refine (eAt_calls hat HE.out).mono ?_; rintro e w1 ⟨rfl, he, hk⟩; refine ⟨_, rfl, ?_⟩; replace HE := aK (he); replace HK := Zk HK hk; replace BXb1 := Zb hk BXb1 GBb1 GL; clear he hk)))
        | ((with_reducible refine gD 4 rfl ?_); go_must ((refine ev_alloc29 rfl (N := 4) rfl rfl ?_; intro b2 hbn w1 hblk hbel; have GBb2 := aK (show w.heap.size ≤ b2 by have := HK.out.1; omega); have LTb1b2 := aK (show b1 < b2 by have := blk_lt BXb1.out; omega); replace HE := Zf HE hbel; replace HK := Zw HK hbel; replace BXb1 := Zc hbel BXb1; have BXb2 := aK hblk; clear hblk hbel hbn)))
        | ((with_reducible refine gate_ (.store 29 (.tmp 4) (.tmp 12)) rfl ?_); go_must ((refine ev_store29 rfl rfl (.tmp 4) (.tmp 12) rfl (b := b2) (z := nd 0 tk0 0 [] at_) (v := (.slice none 0 0)) rfl rfl BXb2.out rfl ?_; intro w1 hblk hg hz; replace HE := Ze HE hg GBb2 GL; replace HK := Zx HK hg GBb2; replace BXb1 := Zg hg BXb1 LTb1b2; replace BXb2 := aK (hblk); clear hblk hg hz)))
        | ((with_reducible refine gD 32 rfl ?_); go_must ((refine goesL_ (some 32) rfl rfl Try.func57 (by kernel_rfl) rfl #[eyeP g] rfl (mpT rfl) ?_; refine (eSee_calls hsee HE.out).mono ?_; rintro e w1 ⟨rfl, he, hk⟩; refine ⟨_, rfl, ?_⟩; replace HE := aK (he); replace HK := Zk HK hk; replace BXb1 := Zb hk BXb1 GBb1 GL; replace BXb2 := Zb hk BXb2 GBb2 GL; clear he hk)))
        | ((with_reducible refine gD 38 rfl ?_); go_must ((refine goesL_ (some 38) rfl rfl Try.func33 (by kernel_rfl) rfl #[eyeP g, .string ⟨#[105, 102]⟩] rfl (mpT rfl) ?_; refine (eEat_calls i1 HE.out).mono ?_; rintro e w1 ⟨rfl, he, hk⟩; refine ⟨_, rfl, ?_⟩; replace HE := aK (he); replace HK := Zk HK hk; replace BXb1 := Zb hk BXb1 GBb1 GL; replace BXb2 := Zb hk BXb2 GBb2 GL; clear he hk)))
        | ((with_reducible refine gD 71 rfl ?_); go_must ((refine goesL_ (some 71) rfl rfl Try.func33 (by kernel_rfl) rfl #[eyeP g, .string ⟨#[119, 104, 105, 108, 101]⟩] rfl (mpT rfl) ?_; refine (eEat_calls i2 HE.out).mono ?_; rintro e w1 ⟨rfl, he, hk⟩; refine ⟨_, rfl, ?_⟩; replace HE := aK (he); replace HK := Zk HK hk; replace BXb1 := Zb hk BXb1 GBb1 GL; replace BXb2 := Zb hk BXb2 GBb2 GL; clear he hk)))
        | ((with_reducible refine gD 93 rfl ?_); go_must ((refine goesL_ (some 93) rfl rfl Try.func33 (by kernel_rfl) rfl #[eyeP g, .string ⟨#[97, 98, 111, 114, 116]⟩] rfl (mpT rfl) ?_; refine (eEat_calls i3 HE.out).mono ?_; rintro e w1 ⟨rfl, he, hk⟩; refine ⟨_, rfl, ?_⟩; replace HE := aK (he); replace HK := Zk HK hk; replace BXb1 := Zb hk BXb1 GBb1 GL; replace BXb2 := Zb hk BXb2 GBb2 GL; clear he hk)))
        | ((with_reducible refine gate_ (.store 3 (.tmp 94) (.const (.int .i64 11))) rfl ?_); go_must ((refine ev_field29 rfl rfl 3 (.tmp 94) (.const (.int .i64 11)) rfl (b := b2) 0 (.int .i64 11) rfl rfl BXb2.out (by omega) rfl rfl (by kernel_rfl) (nd 11 tk0 0 [] at_) ((.slice none 0 0)) rfl ?_; intro w1 hblk hg hz; replace HE := Ze HE hg GBb2 GL; replace HK := Zx HK hg GBb2; replace BXb1 := Zg hg BXb1 LTb1b2; replace BXb2 := aK (hblk); clear hblk hg hz)))
        | ((with_reducible refine gD 96 rfl ?_); go_must ((refine goesL_ (some 96) rfl rfl Try.func35 (by kernel_rfl) rfl #[eyeP g, .string ⟨#[59]⟩] rfl (mpT rfl) ?_; refine (eMust_calls h1 HE.out).mono ?_; rintro e w1 ⟨rfl, he, hk⟩; refine ⟨_, rfl, ?_⟩; replace HE := aK (he); replace HK := Zk HK hk; replace BXb1 := Zb hk BXb1 GBb1 GL; replace BXb2 := Zb hk BXb2 GBb2 GL; clear he hk)))
        | ((with_reducible refine gD 179 rfl ?_); go_must ((refine ev_cell rfl (N := 179) rfl 3 (.tmp 178) rfl ⟨g, 3, none⟩ rfl _ _ HE.out.c3 Try.underlying3 rfl ?_)))
        | ((with_reducible refine gate_ (.store 3 (.tmp 182) (.tmp 180)) rfl ?_); go_must ((refine ev_eye3 rfl rfl (.tmp 182) (.tmp 180) rfl (_) rfl rfl HE.out ?_; intro w1 he hg hz; replace HE := aK (he); replace HK := aK (keep_grown HK.out hg (.inr rfl)); replace BXb1 := aK (grown_blk hg BXb1.out (by have := GBb1.out; have := GL.out; omega)); replace BXb2 := aK (grown_blk hg BXb2.out (by have := GBb2.out; have := GL.out; omega)); clear he hg hz)))
        | ((with_reducible refine gD 183 rfl ?_); go_must ((refine ev_load29 rfl (N := 183) rfl (.tmp 4) rfl (b := b2) rfl BXb2.out ?_)))
        | ((with_reducible refine gate_ (.store 29 (.tmp 2) (.tmp 183)) rfl ?_); go_must ((refine ev_store29 rfl rfl (.tmp 2) (.tmp 183) rfl (b := b1) (z := nd 11 tk0 0 [] at_) (v := (.slice none 0 0)) rfl rfl BXb1.out rfl ?_; intro w1 hblk hg hz; replace HE := Ze HE hg GBb1 GL; replace HK := Zx HK hg GBb1; replace BXb1 := aK (hblk); replace BXb2 := Zh hg BXb2 LTb1b2; clear hblk hg hz))))
      refine bodyPost_ret (results_cell_row rfl _ _ b1 29 (nc (nd 11 tk0 0 [] at_) (.slice none 0 0)).toArray _ _ rfl BXb1.out Try.underlying29 rfl info29s) rfl ?_
      exact ⟨(.slice none 0 0), rfl, Kd.V_nil _ _ _ _ _, HE.out, HK.out⟩
    simp only [Bool.false_eq_true, if_false] at h
    obtain ⟨⟨x4, t4⟩, i4, h⟩ := Option.bind_eq_some_iff.1 h
    cases x4
    rotate_left
    · simp only [if_true, add_] at h
      obtain ⟨⟨r1, u1⟩, h1, h⟩ := Option.bind_eq_some_iff.1 h
      obtain ⟨⟨r2, u2⟩, h2, h⟩ := Option.bind_eq_some_iff.1 h
      obtain ⟨u3, h3, h⟩ := Option.bind_eq_some_iff.1 h
      obtain ⟨⟨r4, u4⟩, h4, h⟩ := Option.bind_eq_some_iff.1 h
      obtain ⟨⟨r5, u5⟩, h5, h⟩ := Option.bind_eq_some_iff.1 h
      obtain ⟨⟨r6, u6⟩, h6, h⟩ := Option.bind_eq_some_iff.1 h
      obtain ⟨⟨x5, u7⟩, h7, h⟩ := Option.bind_eq_some_iff.1 h
      obtain ⟨⟨r7, u8⟩, h8, h⟩ := Option.bind_eq_some_iff.1 h
      obtain ⟨u9, h9, h⟩ := Option.bind_eq_some_iff.1 h
      cases x5
      · simp only [Bool.false_eq_true, if_false, Option.some.injEq, Prod.mk.injEq] at h
        obtain ⟨rfl, rfl⟩ := h
        go_enter Try.func61, Try.ntmps61
        go_wp2_with (first
          | ((with_reducible refine gD 2 rfl ?_); go_must ((refine ev_alloc29 rfl (N := 2) rfl rfl ?_; intro b1 hbn w1 hblk hbel; have GBb1 := aK (show w.heap.size ≤ b1 by have := HK.out.1; omega); replace HE := Zf HE hbel; replace HK := Zw HK hbel; have BXb1 := aK hblk; clear hblk hbel hbn)))
          | ((with_reducible refine gD 6 rfl ?_); go_must ((refine goesL_ (some 6) rfl rfl Try.func76 (by kernel_rfl) rfl #[eyeP g] rfl (mpT rfl) ?_; refine (eDown_calls hd HE.out).mono ?_; rintro e w1 ⟨rfl, he, hk⟩; refine ⟨_, rfl, ?_⟩; replace HE := aK (he); replace HK := Zk HK hk; replace BXb1 := Zb hk BXb1 GBb1 GL; clear he hk)))
          | ((with_reducible refine gD 10 rfl ?_); go_must ((refine goesL_ (some 10) rfl rfl Try.func32 (by kernel_rfl) rfl #[eyeP g] rfl (mpT rfl) ?_; refine (eAt_calls hat HE.out).mono ?_; rintro e w1 ⟨rfl, he, hk⟩; refine ⟨_, rfl, ?_⟩; replace HE := aK (he); replace HK := Zk HK hk; replace BXb1 := Zb hk BXb1 GBb1 GL; clear he hk)))
          | ((with_reducible refine gD 4 rfl ?_); go_must ((refine ev_alloc29 rfl (N := 4) rfl rfl ?_; intro b2 hbn w1 hblk hbel; have GBb2 := aK (show w.heap.size ≤ b2 by have := HK.out.1; omega); have LTb1b2 := aK (show b1 < b2 by have := blk_lt BXb1.out; omega); replace HE := Zf HE hbel; replace HK := Zw HK hbel; replace BXb1 := Zc hbel BXb1; have BXb2 := aK hblk; clear hblk hbel hbn)))
          | ((with_reducible refine gate_ (.store 29 (.tmp 4) (.tmp 12)) rfl ?_); go_must ((refine ev_store29 rfl rfl (.tmp 4) (.tmp 12) rfl (b := b2) (z := nd 0 tk0 0 [] at_) (v := (.slice none 0 0)) rfl rfl BXb2.out rfl ?_; intro w1 hblk hg hz; replace HE := Ze HE hg GBb2 GL; replace HK := Zx HK hg GBb2; replace BXb1 := Zg hg BXb1 LTb1b2; replace BXb2 := aK (hblk); clear hblk hg hz)))
          | ((with_reducible refine gD 32 rfl ?_); go_must ((refine goesL_ (some 32) rfl rfl Try.func57 (by kernel_rfl) rfl #[eyeP g] rfl (mpT rfl) ?_; refine (eSee_calls hsee HE.out).mono ?_; rintro e w1 ⟨rfl, he, hk⟩; refine ⟨_, rfl, ?_⟩; replace HE := aK (he); replace HK := Zk HK hk; replace BXb1 := Zb hk BXb1 GBb1 GL; replace BXb2 := Zb hk BXb2 GBb2 GL; clear he hk)))
          | ((with_reducible refine gD 38 rfl ?_); go_must ((refine goesL_ (some 38) rfl rfl Try.func33 (by kernel_rfl) rfl #[eyeP g, .string ⟨#[105, 102]⟩] rfl (mpT rfl) ?_; refine (eEat_calls i1 HE.out).mono ?_; rintro e w1 ⟨rfl, he, hk⟩; refine ⟨_, rfl, ?_⟩; replace HE := aK (he); replace HK := Zk HK hk; replace BXb1 := Zb hk BXb1 GBb1 GL; replace BXb2 := Zb hk BXb2 GBb2 GL; clear he hk)))
          | ((with_reducible refine gD 71 rfl ?_); go_must ((refine goesL_ (some 71) rfl rfl Try.func33 (by kernel_rfl) rfl #[eyeP g, .string ⟨#[119, 104, 105, 108, 101]⟩] rfl (mpT rfl) ?_; refine (eEat_calls i2 HE.out).mono ?_; rintro e w1 ⟨rfl, he, hk⟩; refine ⟨_, rfl, ?_⟩; replace HE := aK (he); replace HK := Zk HK hk; replace BXb1 := Zb hk BXb1 GBb1 GL; replace BXb2 := Zb hk BXb2 GBb2 GL; clear he hk)))
          | ((with_reducible refine gD 93 rfl ?_); go_must ((refine goesL_ (some 93) rfl rfl Try.func33 (by kernel_rfl) rfl #[eyeP g, .string ⟨#[97, 98, 111, 114, 116]⟩] rfl (mpT rfl) ?_; refine (eEat_calls i3 HE.out).mono ?_; rintro e w1 ⟨rfl, he, hk⟩; refine ⟨_, rfl, ?_⟩; replace HE := aK (he); replace HK := Zk HK hk; replace BXb1 := Zb hk BXb1 GBb1 GL; replace BXb2 := Zb hk BXb2 GBb2 GL; clear he hk)))
          | ((with_reducible refine gD 99 rfl ?_); go_must ((refine goesL_ (some 99) rfl rfl Try.func33 (by kernel_rfl) rfl #[eyeP g, .string ⟨#[97, 100, 100]⟩] rfl (mpT rfl) ?_; refine (eEat_calls i4 HE.out).mono ?_; rintro e w1 ⟨rfl, he, hk⟩; refine ⟨_, rfl, ?_⟩; replace HE := aK (he); replace HK := Zk HK hk; replace BXb1 := Zb hk BXb1 GBb1 GL; replace BXb2 := Zb hk BXb2 GBb2 GL; clear he hk)))
          | ((with_reducible refine gate_ (.store 3 (.tmp 100) (.const (.int .i64 8))) rfl ?_); go_must ((refine ev_field29 rfl rfl 3 (.tmp 100) (.const (.int .i64 8)) rfl (b := b2) 0 (.int .i64 8) rfl rfl BXb2.out (by omega) rfl rfl (by kernel_rfl) (nd 8 tk0 0 [] at_) ((.slice none 0 0)) rfl ?_; intro w1 hblk hg hz; replace HE := Ze HE hg GBb2 GL; replace HK := Zx HK hg GBb2; replace BXb1 := Zg hg BXb1 LTb1b2; replace BXb2 := aK (hblk); clear hblk hg hz))))
        refine app_A (A := none) (c := 0) (base := w.heap.size) (ok := fun q => w.heap.size ≤ q ∧ q ≠ b2 ∧ q ≠ b1) ⟨HE.out, BXb2.out, Kd.N_nil k29 29 _ w.heap.size (fun q => w.heap.size ≤ q ∧ q ≠ b2 ∧ q ≠ b1), by have := GBb2.out; have := GL.out; omega, fun q hq => by have h9 : w.heap.size ≤ q := hq.1; have := GL.out; have := HE.out.ge; exact ⟨by omega, hq.2.1, by omega⟩, fun q hq => by have h9 := HK.out.1; have h7 := blk_lt BXb1.out; have h8 := blk_lt BXb2.out; exact ⟨by omega, by omega, by omega⟩, HK.out.1, by have := GBb2.out; have := GL.out; have := HE.out.ge; omega, by simp⟩ 101 102 103 105 104 106 107 108 109 4 0 rfl rfl rfl rfl rfl rfl rfl rfl rfl rfl rfl rfl ⟨rfl, rfl⟩ ⟨rfl, rfl⟩ ⟨rfl, rfl⟩ ⟨rfl, rfl⟩ ⟨rfl, rfl⟩ ⟨rfl, rfl⟩ ⟨rfl, rfl⟩ ⟨rfl, rfl⟩ ⟨rfl, rfl⟩ ⟨rfl, rfl⟩ ⟨rfl, rfl⟩ rfl rfl rfl ⟨rfl, rfl⟩ Try.func77 (by kernel_rfl) rfl #[eyeP g, .bool true] rfl (fun a' h => by simp only [List.map_toArray, List.map_cons, List.map_nil, h] <;> rfl) rfl rfl rfl rfl rfl rfl 184 rfl (by decide) (by decide) rfl rfl (by constructor <;> kernel_rfl) (fun _ _ _ _ _ h => h) (fun W1 hE1 => hR.2.2.1 _ _ _ _ h1 w0 W1 g hE1) ?_
        intro vT vz v1 p1 W1 hp
        obtain ⟨hE9, hB9, hN9, hR9⟩ := hp
        simp only [Act.put, List.setIfInBounds_toArray, List.set_cons_zero, List.set_cons_succ]
        have n1 := aK (keep_chain HK.out hR9 GBb2.out (fun q h => by cases h))
        have n2 := aK ((hR9.2 b1 (blk_lt BXb1.out) (by have := GBb1.out; have := GL.out; omega) (by have := LTb1b2.out; omega) (fun e => by cases e)).trans BXb1.out)
        clear HE HK BXb1 BXb2 hR9
        have HE := aK hE9
        have HK := n1
        have BXb1 := n2
        have BXb2 := aK (show W1.heap[b2]? = some (.cells (nc (nd 8 tk0 0 [r1] at_) v1).toArray 29 (0, 0)) from hB9)
        have NR := aK (show Kd.N k29 29 W1 w.heap.size (fun q => w.heap.size ≤ q ∧ q ≠ b2 ∧ q ≠ b1) v1 [r1] from hN9)
        clear n1 n2 hE9 hB9 hN9
        go_wp2
        obtain ⟨A1, c1, e1⟩ := Kd.N_slice NR.out
        subst e1
        refine app_A (A := A1) (c := c1) (base := w.heap.size) (ok := fun q => w.heap.size ≤ q ∧ q ≠ b2 ∧ q ≠ b1) ⟨HE.out, BXb2.out, NR.out, by have := GBb2.out; have := GL.out; omega, fun q hq => by have h9 : w.heap.size ≤ q := hq.1; have := GL.out; have := HE.out.ge; exact ⟨by omega, hq.2.1, by omega⟩, fun q hq => by have h9 := HK.out.1; have h7 := blk_lt BXb1.out; have h8 := blk_lt BXb2.out; exact ⟨by omega, by omega, by omega⟩, HK.out.1, by have := GBb2.out; have := GL.out; have := HE.out.ge; omega, by simp⟩ 110 111 112 114 113 115 116 117 118 4 0 rfl rfl rfl rfl rfl rfl rfl rfl rfl rfl rfl rfl ⟨rfl, rfl⟩ ⟨rfl, rfl⟩ ⟨rfl, rfl⟩ ⟨rfl, rfl⟩ ⟨rfl, rfl⟩ ⟨rfl, rfl⟩ ⟨rfl, rfl⟩ ⟨rfl, rfl⟩ ⟨rfl, rfl⟩ ⟨rfl, rfl⟩ ⟨rfl, rfl⟩ rfl rfl rfl ⟨rfl, rfl⟩ Try.func78 (by kernel_rfl) rfl #[eyeP g] rfl (fun a' h => by simp only [List.map_toArray, List.map_cons, List.map_nil, h] <;> rfl) rfl rfl rfl rfl rfl rfl 184 rfl (by decide) (by decide) rfl rfl (by constructor <;> kernel_rfl) (fun _ _ _ _ _ h => h) (fun W1 hE1 => hR.2.2.2.1 _ _ _ h2 w0 W1 g hE1) ?_
        intro vT vz v1 p1 W1 hp
        obtain ⟨hE9, hB9, hN9, hR9⟩ := hp
        simp only [Act.put, List.setIfInBounds_toArray, List.set_cons_zero, List.set_cons_succ]
        have n1 := aK (keep_chain HK.out hR9 GBb2.out (fun q h => (NR.out.1 q h).1))
        have n2 := aK ((hR9.2 b1 (blk_lt BXb1.out) (by have := GBb1.out; have := GL.out; omega) (by have := LTb1b2.out; omega) (fun e => (NR.out.1 b1 e.symm).2.2 rfl)).trans BXb1.out)
        clear HE HK BXb1 BXb2 NR hR9
        have HE := aK hE9
        have HK := n1
        have BXb1 := n2
        have BXb2 := aK (show W1.heap[b2]? = some (.cells (nc (nd 8 tk0 0 [r1, r2] at_) v1).toArray 29 (0, 0)) from hB9)
        have NR := aK (show Kd.N k29 29 W1 w.heap.size (fun q => w.heap.size ≤ q ∧ q ≠ b2 ∧ q ≠ b1) v1 [r1, r2] from hN9)
        clear n1 n2 hE9 hB9 hN9
        go_wp2_with (first
          | ((with_reducible refine gD 120 rfl ?_); go_must ((refine goesL_ (some 120) rfl rfl Try.func35 (by kernel_rfl) rfl #[eyeP g, .string ⟨#[112, 114, 105, 111]⟩] rfl (mpT rfl) ?_; refine (eMust_calls h3 HE.out).mono ?_; rintro e w1 ⟨rfl, he, hk⟩; refine ⟨_, rfl, ?_⟩; replace HE := aK (he); replace HK := Zk HK hk; replace BXb1 := Zb hk BXb1 GBb1 GL; replace BXb2 := Zb hk BXb2 GBb2 GL; replace NR := aK (Kd.N_keep NR.out hk (fun q hq e => by have h9 : w.heap.size ≤ q := hq.1; have := GL.out; omega)); clear he hk))))
        obtain ⟨A1, c1, e1⟩ := Kd.N_slice NR.out
        subst e1
        refine app_A (A := A1) (c := c1) (base := w.heap.size) (ok := fun q => w.heap.size ≤ q ∧ q ≠ b2 ∧ q ≠ b1) ⟨HE.out, BXb2.out, NR.out, by have := GBb2.out; have := GL.out; omega, fun q hq => by have h9 : w.heap.size ≤ q := hq.1; have := GL.out; have := HE.out.ge; exact ⟨by omega, hq.2.1, by omega⟩, fun q hq => by have h9 := HK.out.1; have h7 := blk_lt BXb1.out; have h8 := blk_lt BXb2.out; exact ⟨by omega, by omega, by omega⟩, HK.out.1, by have := GBb2.out; have := GL.out; have := HE.out.ge; omega, by simp⟩ 121 122 123 125 124 126 127 128 129 4 0 rfl rfl rfl rfl rfl rfl rfl rfl rfl rfl rfl rfl ⟨rfl, rfl⟩ ⟨rfl, rfl⟩ ⟨rfl, rfl⟩ ⟨rfl, rfl⟩ ⟨rfl, rfl⟩ ⟨rfl, rfl⟩ ⟨rfl, rfl⟩ ⟨rfl, rfl⟩ ⟨rfl, rfl⟩ ⟨rfl, rfl⟩ ⟨rfl, rfl⟩ rfl rfl rfl ⟨rfl, rfl⟩ Try.func77 (by kernel_rfl) rfl #[eyeP g, .bool true] rfl (fun a' h => by simp only [List.map_toArray, List.map_cons, List.map_nil, h] <;> rfl) rfl rfl rfl rfl rfl rfl 184 rfl (by decide) (by decide) rfl rfl (by constructor <;> kernel_rfl) (fun _ _ _ _ _ h => h) (fun W1 hE1 => hR.2.2.1 _ _ _ _ h4 w0 W1 g hE1) ?_
        intro vT vz v1 p1 W1 hp
        obtain ⟨hE9, hB9, hN9, hR9⟩ := hp
        simp only [Act.put, List.setIfInBounds_toArray, List.set_cons_zero, List.set_cons_succ]
        have n1 := aK (keep_chain HK.out hR9 GBb2.out (fun q h => (NR.out.1 q h).1))
        have n2 := aK ((hR9.2 b1 (blk_lt BXb1.out) (by have := GBb1.out; have := GL.out; omega) (by have := LTb1b2.out; omega) (fun e => (NR.out.1 b1 e.symm).2.2 rfl)).trans BXb1.out)
        clear HE HK BXb1 BXb2 NR hR9
        have HE := aK hE9
        have HK := n1
        have BXb1 := n2
        have BXb2 := aK (show W1.heap[b2]? = some (.cells (nc (nd 8 tk0 0 [r1, r2, r4] at_) v1).toArray 29 (0, 0)) from hB9)
        have NR := aK (show Kd.N k29 29 W1 w.heap.size (fun q => w.heap.size ≤ q ∧ q ≠ b2 ∧ q ≠ b1) v1 [r1, r2, r4] from hN9)
        clear n1 n2 hE9 hB9 hN9
        go_wp2
        obtain ⟨A1, c1, e1⟩ := Kd.N_slice NR.out
        subst e1
        refine app_B (A := A1) (c := c1) (base := w.heap.size) (ok := fun q => w.heap.size ≤ q ∧ q ≠ b2 ∧ q ≠ b1) ⟨HE.out, BXb2.out, NR.out, by have := GBb2.out; have := GL.out; omega, fun q hq => by have h9 : w.heap.size ≤ q := hq.1; have := GL.out; have := HE.out.ge; exact ⟨by omega, hq.2.1, by omega⟩, fun q hq => by have h9 := HK.out.1; have h7 := blk_lt BXb1.out; have h8 := blk_lt BXb2.out; exact ⟨by omega, by omega, by omega⟩, HK.out.1, by have := GBb2.out; have := GL.out; have := HE.out.ge; omega, by simp⟩ 130 131 132 133 135 134 136 137 138 139 4 0 3 rfl rfl rfl rfl rfl rfl rfl rfl rfl rfl rfl rfl rfl ⟨rfl, rfl⟩ ⟨rfl, rfl⟩ ⟨rfl, rfl⟩ ⟨rfl, rfl⟩ ⟨rfl, rfl⟩ ⟨rfl, rfl⟩ ⟨rfl, rfl⟩ ⟨rfl, rfl⟩ ⟨rfl, rfl⟩ ⟨rfl, rfl⟩ ⟨rfl, rfl⟩ ⟨rfl, rfl⟩ rfl rfl rfl rfl ⟨rfl, rfl⟩ Try.func79 (by kernel_rfl) rfl #[eyeP g, .string ⟨#[105, 100, 108, 101]⟩, .int .i64 at_] (.int .i64 at_) rfl (fun a' h h2 => by simp only [List.map_toArray, List.map_cons, List.map_nil, h, h2] <;> rfl) rfl rfl rfl rfl rfl rfl 184 rfl (by decide) (by decide) rfl rfl rfl (by constructor <;> kernel_rfl) (fun _ _ _ _ _ h => h) (fun W1 hE1 => hR.2.2.2.2.2.2.2 _ _ _ _ _ h5 w0 W1 g hE1) ?_
        intro vT vz v1 p1 W1 hp
        obtain ⟨hE9, hB9, hN9, hR9⟩ := hp
        simp only [Act.put, List.setIfInBounds_toArray, List.set_cons_zero, List.set_cons_succ]
        have n1 := aK (keep_chain HK.out hR9 GBb2.out (fun q h => (NR.out.1 q h).1))
        have n2 := aK ((hR9.2 b1 (blk_lt BXb1.out) (by have := GBb1.out; have := GL.out; omega) (by have := LTb1b2.out; omega) (fun e => (NR.out.1 b1 e.symm).2.2 rfl)).trans BXb1.out)
        clear HE HK BXb1 BXb2 NR hR9
        have HE := aK hE9
        have HK := n1
        have BXb1 := n2
        have BXb2 := aK (show W1.heap[b2]? = some (.cells (nc (nd 8 tk0 0 [r1, r2, r4, r5] at_) v1).toArray 29 (0, 0)) from hB9)
        have NR := aK (show Kd.N k29 29 W1 w.heap.size (fun q => w.heap.size ≤ q ∧ q ≠ b2 ∧ q ≠ b1) v1 [r1, r2, r4, r5] from hN9)
        clear n1 n2 hE9 hB9 hN9
        go_wp2
        obtain ⟨A1, c1, e1⟩ := Kd.N_slice NR.out
        subst e1
        refine app_B (A := A1) (c := c1) (base := w.heap.size) (ok := fun q => w.heap.size ≤ q ∧ q ≠ b2 ∧ q ≠ b1) ⟨HE.out, BXb2.out, NR.out, by have := GBb2.out; have := GL.out; omega, fun q hq => by have h9 : w.heap.size ≤ q := hq.1; have := GL.out; have := HE.out.ge; exact ⟨by omega, hq.2.1, by omega⟩, fun q hq => by have h9 := HK.out.1; have h7 := blk_lt BXb1.out; have h8 := blk_lt BXb2.out; exact ⟨by omega, by omega, by omega⟩, HK.out.1, by have := GBb2.out; have := GL.out; have := HE.out.ge; omega, by simp⟩ 140 141 142 143 145 144 146 147 148 149 4 0 3 rfl rfl rfl rfl rfl rfl rfl rfl rfl rfl rfl rfl rfl ⟨rfl, rfl⟩ ⟨rfl, rfl⟩ ⟨rfl, rfl⟩ ⟨rfl, rfl⟩ ⟨rfl, rfl⟩ ⟨rfl, rfl⟩ ⟨rfl, rfl⟩ ⟨rfl, rfl⟩ ⟨rfl, rfl⟩ ⟨rfl, rfl⟩ ⟨rfl, rfl⟩ ⟨rfl, rfl⟩ rfl rfl rfl rfl ⟨rfl, rfl⟩ Try.func79 (by kernel_rfl) rfl #[eyeP g, .string ⟨#[104, 97, 114, 100]⟩, .int .i64 at_] (.int .i64 at_) rfl (fun a' h h2 => by simp only [List.map_toArray, List.map_cons, List.map_nil, h, h2] <;> rfl) rfl rfl rfl rfl rfl rfl 184 rfl (by decide) (by decide) rfl rfl rfl (by constructor <;> kernel_rfl) (fun _ _ _ _ _ h => h) (fun W1 hE1 => hR.2.2.2.2.2.2.2 _ _ _ _ _ h6 w0 W1 g hE1) ?_
        intro vT vz v1 p1 W1 hp
        obtain ⟨hE9, hB9, hN9, hR9⟩ := hp
        simp only [Act.put, List.setIfInBounds_toArray, List.set_cons_zero, List.set_cons_succ]
        have n1 := aK (keep_chain HK.out hR9 GBb2.out (fun q h => (NR.out.1 q h).1))
        have n2 := aK ((hR9.2 b1 (blk_lt BXb1.out) (by have := GBb1.out; have := GL.out; omega) (by have := LTb1b2.out; omega) (fun e => (NR.out.1 b1 e.symm).2.2 rfl)).trans BXb1.out)
        clear HE HK BXb1 BXb2 NR hR9
        have HE := aK hE9
        have HK := n1
        have BXb1 := n2
        have BXb2 := aK (show W1.heap[b2]? = some (.cells (nc (nd 8 tk0 0 [r1, r2, r4, r5, r6] at_) v1).toArray 29 (0, 0)) from hB9)
        have NR := aK (show Kd.N k29 29 W1 w.heap.size (fun q => w.heap.size ≤ q ∧ q ≠ b2 ∧ q ≠ b1) v1 [r1, r2, r4, r5, r6] from hN9)
        clear n1 n2 hE9 hB9 hN9
        go_wp2_with (first
          | ((with_reducible refine gD 151 rfl ?_); go_must ((refine goesL_ (some 151) rfl rfl Try.func33 (by kernel_rfl) rfl #[eyeP g, .string ⟨#[99, 104, 101, 99, 107]⟩] rfl (mpT rfl) ?_; refine (eEat_calls h7 HE.out).mono ?_; rintro e w1 ⟨rfl, he, hk⟩; refine ⟨_, rfl, ?_⟩; replace HE := aK (he); replace HK := Zk HK hk; replace BXb1 := Zb hk BXb1 GBb1 GL; replace BXb2 := Zb hk BXb2 GBb2 GL; replace NR := aK (Kd.N_keep NR.out hk (fun q hq e => by have h9 : w.heap.size ≤ q := hq.1; have := GL.out; omega)); clear he hk))))
        obtain ⟨A1, c1, e1⟩ := Kd.N_slice NR.out
        subst e1
        refine app_A (A := A1) (c := c1) (base := w.heap.size) (ok := fun q => w.heap.size ≤ q ∧ q ≠ b2 ∧ q ≠ b1) ⟨HE.out, BXb2.out, NR.out, by have := GBb2.out; have := GL.out; omega, fun q hq => by have h9 : w.heap.size ≤ q := hq.1; have := GL.out; have := HE.out.ge; exact ⟨by omega, hq.2.1, by omega⟩, fun q hq => by have h9 := HK.out.1; have h7 := blk_lt BXb1.out; have h8 := blk_lt BXb2.out; exact ⟨by omega, by omega, by omega⟩, HK.out.1, by have := GBb2.out; have := GL.out; have := HE.out.ge; omega, by simp⟩ 153 154 155 157 156 158 159 160 161 4 0 rfl rfl rfl rfl rfl rfl rfl rfl rfl rfl rfl rfl ⟨rfl, rfl⟩ ⟨rfl, rfl⟩ ⟨rfl, rfl⟩ ⟨rfl, rfl⟩ ⟨rfl, rfl⟩ ⟨rfl, rfl⟩ ⟨rfl, rfl⟩ ⟨rfl, rfl⟩ ⟨rfl, rfl⟩ ⟨rfl, rfl⟩ ⟨rfl, rfl⟩ rfl rfl rfl ⟨rfl, rfl⟩ Try.func80 (by kernel_rfl) rfl #[eyeP g] rfl (fun a' h => by simp only [List.map_toArray, List.map_cons, List.map_nil, h] <;> rfl) rfl rfl rfl rfl rfl rfl 184 rfl (by decide) (by decide) rfl rfl (by constructor <;> kernel_rfl) (fun _ _ _ _ _ h => h) (fun W1 hE1 => hR.2.2.2.2.1 _ _ _ h8 w0 W1 g hE1) ?_
        intro vT vz v1 p1 W1 hp
        obtain ⟨hE9, hB9, hN9, hR9⟩ := hp
        simp only [Act.put, List.setIfInBounds_toArray, List.set_cons_zero, List.set_cons_succ]
        have n1 := aK (keep_chain HK.out hR9 GBb2.out (fun q h => (NR.out.1 q h).1))
        have n2 := aK ((hR9.2 b1 (blk_lt BXb1.out) (by have := GBb1.out; have := GL.out; omega) (by have := LTb1b2.out; omega) (fun e => (NR.out.1 b1 e.symm).2.2 rfl)).trans BXb1.out)
        clear HE HK BXb1 BXb2 NR hR9
        have HE := aK hE9
        have HK := n1
        have BXb1 := n2
        have BXb2 := aK (show W1.heap[b2]? = some (.cells (nc (nd 8 tk0 0 [r1, r2, r4, r5, r6, r7] at_) v1).toArray 29 (0, 0)) from hB9)
        have NR := aK (show Kd.N k29 29 W1 w.heap.size (fun q => w.heap.size ≤ q ∧ q ≠ b2 ∧ q ≠ b1) v1 [r1, r2, r4, r5, r6, r7] from hN9)
        clear n1 n2 hE9 hB9 hN9
        have VV := aK (Kd.N_V (base' := 0) NR.out)
        clear NR
        go_wp2_with (first
          | ((with_reducible refine gD 163 rfl ?_); go_must ((refine goesL_ (some 163) rfl rfl Try.func35 (by kernel_rfl) rfl #[eyeP g, .string ⟨#[59]⟩] rfl (mpT rfl) ?_; refine (eMust_calls h9 HE.out).mono ?_; rintro e w1 ⟨rfl, he, hk⟩; refine ⟨_, rfl, ?_⟩; replace HE := aK (he); replace HK := Zk HK hk; replace BXb1 := Zb hk BXb1 GBb1 GL; replace BXb2 := Zb hk BXb2 GBb2 GL; replace VV := aK (Kd.V_keep VV.out hk (fun q hq e => by have h9 : w.heap.size ≤ q := hq.1; have := GL.out; omega)); clear he hk)))
          | ((with_reducible refine gD 179 rfl ?_); go_must ((refine ev_cell rfl (N := 179) rfl 3 (.tmp 178) rfl ⟨g, 3, none⟩ rfl _ _ HE.out.c3 Try.underlying3 rfl ?_)))
          | ((with_reducible refine gate_ (.store 3 (.tmp 182) (.tmp 180)) rfl ?_); go_must ((refine ev_eye3 rfl rfl (.tmp 182) (.tmp 180) rfl (_) rfl rfl HE.out ?_; intro w1 he hg hz; replace HE := aK (he); replace HK := aK (keep_grown HK.out hg (.inr rfl)); replace BXb1 := aK (grown_blk hg BXb1.out (by have := GBb1.out; have := GL.out; omega)); replace BXb2 := aK (grown_blk hg BXb2.out (by have := GBb2.out; have := GL.out; omega)); replace VV := aK (Kd.V_grown VV.out hg (fun q hq e => by injection e with e; have h9 : w.heap.size ≤ q := hq.1; have := GL.out; omega)); clear he hg hz)))
          | ((with_reducible refine gD 183 rfl ?_); go_must ((refine ev_load29 rfl (N := 183) rfl (.tmp 4) rfl (b := b2) rfl BXb2.out ?_)))
          | ((with_reducible refine gate_ (.store 29 (.tmp 2) (.tmp 183)) rfl ?_); go_must ((refine ev_store29 rfl rfl (.tmp 2) (.tmp 183) rfl (b := b1) (z := nd 8 tk0 0 [r1, r2, r4, r5, r6, r7] at_) (v := v1) rfl rfl BXb1.out (VK_one VV.out) ?_; intro w1 hblk hg hz; replace HE := Ze HE hg GBb1 GL; replace HK := Zx HK hg GBb1; replace BXb1 := aK (hblk); replace BXb2 := Zh hg BXb2 LTb1b2; replace VV := aK (Kd.V_grown VV.out hg (fun q hq e => by injection e with e; exact hq.2.2 e)); clear hblk hg hz))))
        refine bodyPost_ret (results_cell_row rfl _ _ b1 29 (nc (nd 8 tk0 0 [r1, r2, r4, r5, r6, r7] at_) v1).toArray _ _ rfl BXb1.out Try.underlying29 rfl info29s) rfl ?_
        exact ⟨v1, rfl, Kd.V_mono VV.out (fun q hq => hq.1), HE.out, HK.out⟩
      · simp only [if_true, Option.some.injEq, Prod.mk.injEq] at h
        obtain ⟨rfl, rfl⟩ := h
        go_enter Try.func61, Try.ntmps61
        go_wp2_with (first
          | ((with_reducible refine gD 2 rfl ?_); go_must ((refine ev_alloc29 rfl (N := 2) rfl rfl ?_; intro b1 hbn w1 hblk hbel; have GBb1 := aK (show w.heap.size ≤ b1 by have := HK.out.1; omega); replace HE := Zf HE hbel; replace HK := Zw HK hbel; have BXb1 := aK hblk; clear hblk hbel hbn)))
          | ((with_reducible refine gD 6 rfl ?_); go_must ((refine goesL_ (some 6) rfl rfl Try.func76 (by kernel_rfl) rfl #[eyeP g] rfl (mpT rfl) ?_; refine (eDown_calls hd HE.out).mono ?_; rintro e w1 ⟨rfl, he, hk⟩; refine ⟨_, rfl, ?_⟩; replace HE := aK (he); replace HK := Zk HK hk; replace BXb1 := Zb hk BXb1 GBb1 GL; clear he hk)))
          | ((with_reducible refine gD 10 rfl ?_); go_must ((refine goesL_ (some 10) rfl rfl Try.func32 (by kernel_rfl) rfl #[eyeP g] rfl (mpT rfl) ?_; refine (eAt_calls hat HE.out).mono ?_; rintro e w1 ⟨rfl, he, hk⟩; refine ⟨_, rfl, ?_⟩; replace HE := aK (he); replace HK := Zk HK hk; replace BXb1 := Zb hk BXb1 GBb1 GL; clear he hk)))
          | ((with_reducible refine gD 4 rfl ?_); go_must ((refine ev_alloc29 rfl (N := 4) rfl rfl ?_; intro b2 hbn w1 hblk hbel; have GBb2 := aK (show w.heap.size ≤ b2 by have := HK.out.1; omega); have LTb1b2 := aK (show b1 < b2 by have := blk_lt BXb1.out; omega); replace HE := Zf HE hbel; replace HK := Zw HK hbel; replace BXb1 := Zc hbel BXb1; have BXb2 := aK hblk; clear hblk hbel hbn)))
          | ((with_reducible refine gate_ (.store 29 (.tmp 4) (.tmp 12)) rfl ?_); go_must ((refine ev_store29 rfl rfl (.tmp 4) (.tmp 12) rfl (b := b2) (z := nd 0 tk0 0 [] at_) (v := (.slice none 0 0)) rfl rfl BXb2.out rfl ?_; intro w1 hblk hg hz; replace HE := Ze HE hg GBb2 GL; replace HK := Zx HK hg GBb2; replace BXb1 := Zg hg BXb1 LTb1b2; replace BXb2 := aK (hblk); clear hblk hg hz)))
          | ((with_reducible refine gD 32 rfl ?_); go_must ((refine goesL_ (some 32) rfl rfl Try.func57 (by kernel_rfl) rfl #[eyeP g] rfl (mpT rfl) ?_; refine (eSee_calls hsee HE.out).mono ?_; rintro e w1 ⟨rfl, he, hk⟩; refine ⟨_, rfl, ?_⟩; replace HE := aK (he); replace HK := Zk HK hk; replace BXb1 := Zb hk BXb1 GBb1 GL; replace BXb2 := Zb hk BXb2 GBb2 GL; clear he hk)))
          | ((with_reducible refine gD 38 rfl ?_); go_must ((refine goesL_ (some 38) rfl rfl Try.func33 (by kernel_rfl) rfl #[eyeP g, .string ⟨#[105, 102]⟩] rfl (mpT rfl) ?_; refine (eEat_calls i1 HE.out).mono ?_; rintro e w1 ⟨rfl, he, hk⟩; refine ⟨_, rfl, ?_⟩; replace HE := aK (he); replace HK := Zk HK hk; replace BXb1 := Zb hk BXb1 GBb1 GL; replace BXb2 := Zb hk BXb2 GBb2 GL; clear he hk)))
          | ((with_reducible refine gD 71 rfl ?_); go_must ((refine goesL_ (some 71) rfl rfl Try.func33 (by kernel_rfl) rfl #[eyeP g, .string ⟨#[119, 104, 105, 108, 101]⟩] rfl (mpT rfl) ?_; refine (eEat_calls i2 HE.out).mono ?_; rintro e w1 ⟨rfl, he, hk⟩; refine ⟨_, rfl, ?_⟩; replace HE := aK (he); replace HK := Zk HK hk; replace BXb1 := Zb hk BXb1 GBb1 GL; replace BXb2 := Zb hk BXb2 GBb2 GL; clear he hk)))
          | ((with_reducible refine gD 93 rfl ?_); go_must ((refine goesL_ (some 93) rfl rfl Try.func33 (by kernel_rfl) rfl #[eyeP g, .string ⟨#[97, 98, 111, 114, 116]⟩] rfl (mpT rfl) ?_; refine (eEat_calls i3 HE.out).mono ?_; rintro e w1 ⟨rfl, he, hk⟩; refine ⟨_, rfl, ?_⟩; replace HE := aK (he); replace HK := Zk HK hk; replace BXb1 := Zb hk BXb1 GBb1 GL; replace BXb2 := Zb hk BXb2 GBb2 GL; clear he hk)))
          | ((with_reducible refine gD 99 rfl ?_); go_must ((refine goesL_ (some 99) rfl rfl Try.func33 (by kernel_rfl) rfl #[eyeP g, .string ⟨#[97, 100, 100]⟩] rfl (mpT rfl) ?_; refine (eEat_calls i4 HE.out).mono ?_; rintro e w1 ⟨rfl, he, hk⟩; refine ⟨_, rfl, ?_⟩; replace HE := aK (he); replace HK := Zk HK hk; replace BXb1 := Zb hk BXb1 GBb1 GL; replace BXb2 := Zb hk BXb2 GBb2 GL; clear he hk)))
          | ((with_reducible refine gate_ (.store 3 (.tmp 100) (.const (.int .i64 8))) rfl ?_); go_must ((refine ev_field29 rfl rfl 3 (.tmp 100) (.const (.int .i64 8)) rfl (b := b2) 0 (.int .i64 8) rfl rfl BXb2.out (by omega) rfl rfl (by kernel_rfl) (nd 8 tk0 0 [] at_) ((.slice none 0 0)) rfl ?_; intro w1 hblk hg hz; replace HE := Ze HE hg GBb2 GL; replace HK := Zx HK hg GBb2; replace BXb1 := Zg hg BXb1 LTb1b2; replace BXb2 := aK (hblk); clear hblk hg hz))))
        refine app_A (A := none) (c := 0) (base := w.heap.size) (ok := fun q => w.heap.size ≤ q ∧ q ≠ b2 ∧ q ≠ b1) ⟨HE.out, BXb2.out, Kd.N_nil k29 29 _ w.heap.size (fun q => w.heap.size ≤ q ∧ q ≠ b2 ∧ q ≠ b1), by have := GBb2.out; have := GL.out; omega, fun q hq => by have h9 : w.heap.size ≤ q := hq.1; have := GL.out; have := HE.out.ge; exact ⟨by omega, hq.2.1, by omega⟩, fun q hq => by have h9 := HK.out.1; have h7 := blk_lt BXb1.out; have h8 := blk_lt BXb2.out; exact ⟨by omega, by omega, by omega⟩, HK.out.1, by have := GBb2.out; have := GL.out; have := HE.out.ge; omega, by simp⟩ 101 102 103 105 104 106 107 108 109 4 0 rfl rfl rfl rfl rfl rfl rfl rfl rfl rfl rfl rfl ⟨rfl, rfl⟩ ⟨rfl, rfl⟩ ⟨rfl, rfl⟩ ⟨rfl, rfl⟩ ⟨rfl, rfl⟩ ⟨rfl, rfl⟩ ⟨rfl, rfl⟩ ⟨rfl, rfl⟩ ⟨rfl, rfl⟩ ⟨rfl, rfl⟩ ⟨rfl, rfl⟩ rfl rfl rfl ⟨rfl, rfl⟩ Try.func77 (by kernel_rfl) rfl #[eyeP g, .bool true] rfl (fun a' h => by simp only [List.map_toArray, List.map_cons, List.map_nil, h] <;> rfl) rfl rfl rfl rfl rfl rfl 184 rfl (by decide) (by decide) rfl rfl (by constructor <;> kernel_rfl) (fun _ _ _ _ _ h => h) (fun W1 hE1 => hR.2.2.1 _ _ _ _ h1 w0 W1 g hE1) ?_
        intro vT vz v1 p1 W1 hp
        obtain ⟨hE9, hB9, hN9, hR9⟩ := hp
        simp only [Act.put, List.setIfInBounds_toArray, List.set_cons_zero, List.set_cons_succ]
        have n1 := aK (keep_chain HK.out hR9 GBb2.out (fun q h => by cases h))
        have n2 := aK ((hR9.2 b1 (blk_lt BXb1.out) (by have := GBb1.out; have := GL.out; omega) (by have := LTb1b2.out; omega) (fun e => by cases e)).trans BXb1.out)
        clear HE HK BXb1 BXb2 hR9
        have HE := aK hE9
        have HK := n1
        have BXb1 := n2
        have BXb2 := aK (show W1.heap[b2]? = some (.cells (nc (nd 8 tk0 0 [r1] at_) v1).toArray 29 (0, 0)) from hB9)
        have NR := aK (show Kd.N k29 29 W1 w.heap.size (fun q => w.heap.size ≤ q ∧ q ≠ b2 ∧ q ≠ b1) v1 [r1] from hN9)
        clear n1 n2 hE9 hB9 hN9
        go_wp2
        obtain ⟨A1, c1, e1⟩ := Kd.N_slice NR.out
        subst e1
        refine app_A (A := A1) (c := c1) (base := w.heap.size) (ok := fun q => w.heap.size ≤ q ∧ q ≠ b2 ∧ q ≠ b1) ⟨HE.out, BXb2.out, NR.out, by have := GBb2.out; have := GL.out; omega, fun q hq => by have h9 : w.heap.size ≤ q := hq.1; have := GL.out; have := HE.out.ge; exact ⟨by omega, hq.2.1, by omega⟩, fun q hq => by have h9 := HK.out.1; have h7 := blk_lt BXb1.out; have h8 := blk_lt BXb2.out; exact ⟨by omega, by omega, by omega⟩, HK.out.1, by have := GBb2.out; have := GL.out; have := HE.out.ge; omega, by simp⟩ 110 111 112 114 113 115 116 117 118 4 0 rfl rfl rfl rfl rfl rfl rfl rfl rfl rfl rfl rfl ⟨rfl, rfl⟩ ⟨rfl, rfl⟩ ⟨rfl, rfl⟩ ⟨rfl, rfl⟩ ⟨rfl, rfl⟩ ⟨rfl, rfl⟩ ⟨rfl, rfl⟩ ⟨rfl, rfl⟩ ⟨rfl, rfl⟩ ⟨rfl, rfl⟩ ⟨rfl, rfl⟩ rfl rfl rfl ⟨rfl, rfl⟩ Try.func78 (by kernel_rfl) rfl #[eyeP g] rfl (fun a' h => by simp only [List.map_toArray, List.map_cons, List.map_nil, h] <;> rfl) rfl rfl rfl rfl rfl rfl 184 rfl (by decide) (by decide) rfl rfl (by constructor <;> kernel_rfl) (fun _ _ _ _ _ h => h) (fun W1 hE1 => hR.2.2.2.1 _ _ _ h2 w0 W1 g hE1) ?_
        intro vT vz v1 p1 W1 hp
        obtain ⟨hE9, hB9, hN9, hR9⟩ := hp
        simp only [Act.put, List.setIfInBounds_toArray, List.set_cons_zero, List.set_cons_succ]
        have n1 := aK (keep_chain HK.out hR9 GBb2.out (fun q h => (NR.out.1 q h).1))
        have n2 := aK ((hR9.2 b1 (blk_lt BXb1.out) (by have := GBb1.out; have := GL.out; omega) (by have := LTb1b2.out; omega) (fun e => (NR.out.1 b1 e.symm).2.2 rfl)).trans BXb1.out)
        clear HE HK BXb1 BXb2 NR hR9
        have HE := aK hE9
        have HK := n1
        have BXb1 := n2
        have BXb2 := aK (show W1.heap[b2]? = some (.cells (nc (nd 8 tk0 0 [r1, r2] at_) v1).toArray 29 (0, 0)) from hB9)
        have NR := aK (show Kd.N k29 29 W1 w.heap.size (fun q => w.heap.size ≤ q ∧ q ≠ b2 ∧ q ≠ b1) v1 [r1, r2] from hN9)
        clear n1 n2 hE9 hB9 hN9
        go_wp2_with (first
          | ((with_reducible refine gD 120 rfl ?_); go_must ((refine goesL_ (some 120) rfl rfl Try.func35 (by kernel_rfl) rfl #[eyeP g, .string ⟨#[112, 114, 105, 111]⟩] rfl (mpT rfl) ?_; refine (eMust_calls h3 HE.out).mono ?_; rintro e w1 ⟨rfl, he, hk⟩; refine ⟨_, rfl, ?_⟩; replace HE := aK (he); replace HK := Zk HK hk; replace BXb1 := Zb hk BXb1 GBb1 GL; replace BXb2 := Zb hk BXb2 GBb2 GL; replace NR := aK (Kd.N_keep NR.out hk (fun q hq e => by have h9 : w.heap.size ≤ q := hq.1; have := GL.out; omega)); clear he hk))))
        obtain ⟨A1, c1, e1⟩ := Kd.N_slice NR.out
        subst e1
        refine app_A (A := A1) (c := c1) (base := w.heap.size) (ok := fun q => w.heap.size ≤ q ∧ q ≠ b2 ∧ q ≠ b1) ⟨HE.out, BXb2.out, NR.out, by have := GBb2.out; have := GL.out; omega, fun q hq => by have h9 : w.heap.size ≤ q := hq.1; have := GL.out; have := HE.out.ge; exact ⟨by omega, hq.2.1, by omega⟩, fun q hq => by have h9 := HK.out.1; have h7 := blk_lt BXb1.out; have h8 := blk_lt BXb2.out; exact ⟨by omega, by omega, by omega⟩, HK.out.1, by have := GBb2.out; have := GL.out; have := HE.out.ge; omega, by simp⟩ 121 122 123 125 124 126 127 128 129 4 0 rfl rfl rfl rfl rfl rfl rfl rfl rfl rfl rfl rfl ⟨rfl, rfl⟩ ⟨rfl, rfl⟩ ⟨rfl, rfl⟩ ⟨rfl, rfl⟩ ⟨rfl, rfl⟩ ⟨rfl, rfl⟩ ⟨rfl, rfl⟩ ⟨rfl, rfl⟩ ⟨rfl, rfl⟩ ⟨rfl, rfl⟩ ⟨rfl, rfl⟩ rfl rfl rfl ⟨rfl, rfl⟩ Try.func77 (by kernel_rfl) rfl #[eyeP g, .bool true] rfl (fun a' h => by simp only [List.map_toArray, List.map_cons, List.map_nil, h] <;> rfl) rfl rfl rfl rfl rfl rfl 184 rfl (by decide) (by decide) rfl rfl (by constructor <;> kernel_rfl) (fun _ _ _ _ _ h => h) (fun W1 hE1 => hR.2.2.1 _ _ _ _ h4 w0 W1 g hE1) ?_
        intro vT vz v1 p1 W1 hp
        obtain ⟨hE9, hB9, hN9, hR9⟩ := hp
        simp only [Act.put, List.setIfInBounds_toArray, List.set_cons_zero, List.set_cons_succ]
        have n1 := aK (keep_chain HK.out hR9 GBb2.out (fun q h => (NR.out.1 q h).1))
        have n2 := aK ((hR9.2 b1 (blk_lt BXb1.out) (by have := GBb1.out; have := GL.out; omega) (by have := LTb1b2.out; omega) (fun e => (NR.out.1 b1 e.symm).2.2 rfl)).trans BXb1.out)
        clear HE HK BXb1 BXb2 NR hR9
        have HE := aK hE9
        have HK := n1
        have BXb1 := n2
        have BXb2 := aK (show W1.heap[b2]? = some (.cells (nc (nd 8 tk0 0 [r1, r2, r4] at_) v1).toArray 29 (0, 0)) from hB9)
        have NR := aK (show Kd.N k29 29 W1 w.heap.size (fun q => w.heap.size ≤ q ∧ q ≠ b2 ∧ q ≠ b1) v1 [r1, r2, r4] from hN9)
        clear n1 n2 hE9 hB9 hN9
        go_wp2
        obtain ⟨A1, c1, e1⟩ := Kd.N_slice NR.out
        subst e1
        refine app_B (A := A1) (c := c1) (base := w.heap.size) (ok := fun q => w.heap.size ≤ q ∧ q ≠ b2 ∧ q ≠ b1) ⟨HE.out, BXb2.out, NR.out, by have := GBb2.out; have := GL.out; omega, fun q hq => by have h9 : w.heap.size ≤ q := hq.1; have := GL.out; have := HE.out.ge; exact ⟨by omega, hq.2.1, by omega⟩, fun q hq => by have h9 := HK.out.1; have h7 := blk_lt BXb1.out; have h8 := blk_lt BXb2.out; exact ⟨by omega, by omega, by omega⟩, HK.out.1, by have := GBb2.out; have := GL.out; have := HE.out.ge; omega, by simp⟩ 130 131 132 133 135 134 136 137 138 139 4 0 3 rfl rfl rfl rfl rfl rfl rfl rfl rfl rfl rfl rfl rfl ⟨rfl, rfl⟩ ⟨rfl, rfl⟩ ⟨rfl, rfl⟩ ⟨rfl, rfl⟩ ⟨rfl, rfl⟩ ⟨rfl, rfl⟩ ⟨rfl, rfl⟩ ⟨rfl, rfl⟩ ⟨rfl, rfl⟩ ⟨rfl, rfl⟩ ⟨rfl, rfl⟩ ⟨rfl, rfl⟩ rfl rfl rfl rfl ⟨rfl, rfl⟩ Try.func79 (by kernel_rfl) rfl #[eyeP g, .string ⟨#[105, 100, 108, 101]⟩, .int .i64 at_] (.int .i64 at_) rfl (fun a' h h2 => by simp only [List.map_toArray, List.map_cons, List.map_nil, h, h2] <;> rfl) rfl rfl rfl rfl rfl rfl 184 rfl (by decide) (by decide) rfl rfl rfl (by constructor <;> kernel_rfl) (fun _ _ _ _ _ h => h) (fun W1 hE1 => hR.2.2.2.2.2.2.2 _ _ _ _ _ h5 w0 W1 g hE1) ?_
        intro vT vz v1 p1 W1 hp
        obtain ⟨hE9, hB9, hN9, hR9⟩ := hp
        simp only [Act.put, List.setIfInBounds_toArray, List.set_cons_zero, List.set_cons_succ]
        have n1 := aK (keep_chain HK.out hR9 GBb2.out (fun q h => (NR.out.1 q h).1))
        have n2 := aK ((hR9.2 b1 (blk_lt BXb1.out) (by have := GBb1.out; have := GL.out; omega) (by have := LTb1b2.out; omega) (fun e => (NR.out.1 b1 e.symm).2.2 rfl)).trans BXb1.out)
        clear HE HK BXb1 BXb2 NR hR9
        have HE := aK hE9
        have HK := n1
        have BXb1 := n2
        have BXb2 := aK (show W1.heap[b2]? = some (.cells (nc (nd 8 tk0 0 [r1, r2, r4, r5] at_) v1).toArray 29 (0, 0)) from hB9)
        have NR := aK (show Kd.N k29 29 W1 w.heap.size (fun q => w.heap.size ≤ q ∧ q ≠ b2 ∧ q ≠ b1) v1 [r1, r2, r4, r5] from hN9)
        clear n1 n2 hE9 hB9 hN9
        go_wp2
        obtain ⟨A1, c1, e1⟩ := Kd.N_slice NR.out
        subst e1
        refine app_B (A := A1) (c := c1) (base := w.heap.size) (ok := fun q => w.heap.size ≤ q ∧ q ≠ b2 ∧ q ≠ b1) ⟨HE.out, BXb2.out, NR.out, by have := GBb2.out; have := GL.out; omega, fun q hq => by have h9 : w.heap.size ≤ q := hq.1; have := GL.out; have := HE.out.ge; exact ⟨by omega, hq.2.1, by omega⟩, fun q hq => by have h9 := HK.out.1; have h7 := blk_lt BXb1.out; have h8 := blk_lt BXb2.out; exact ⟨by omega, by omega, by omega⟩, HK.out.1, by have := GBb2.out; have := GL.out; have := HE.out.ge; omega, by simp⟩ 140 141 142 143 145 144 146 147 148 149 4 0 3 rfl rfl rfl rfl rfl rfl rfl rfl rfl rfl rfl rfl rfl ⟨rfl, rfl⟩ ⟨rfl, rfl⟩ ⟨rfl, rfl⟩ ⟨rfl, rfl⟩ ⟨rfl, rfl⟩ ⟨rfl, rfl⟩ ⟨rfl, rfl⟩ ⟨rfl, rfl⟩ ⟨rfl, rfl⟩ ⟨rfl, rfl⟩ ⟨rfl, rfl⟩ ⟨rfl, rfl⟩ rfl rfl rfl rfl ⟨rfl, rfl⟩ Try.func79 (by kernel_rfl) rfl #[eyeP g, .string ⟨#[104, 97, 114, 100]⟩, .int .i64 at_] (.int .i64 at_) rfl (fun a' h h2 => by simp only [List.map_toArray, List.map_cons, List.map_nil, h, h2] <;> rfl) rfl rfl rfl rfl rfl rfl 184 rfl (by decide) (by decide) rfl rfl rfl (by constructor <;> kernel_rfl) (fun _ _ _ _ _ h => h) (fun W1 hE1 => hR.2.2.2.2.2.2.2 _ _ _ _ _ h6 w0 W1 g hE1) ?_
        intro vT vz v1 p1 W1 hp
        obtain ⟨hE9, hB9, hN9, hR9⟩ := hp
        simp only [Act.put, List.setIfInBounds_toArray, List.set_cons_zero, List.set_cons_succ]
        have n1 := aK (keep_chain HK.out hR9 GBb2.out (fun q h => (NR.out.1 q h).1))
        have n2 := aK ((hR9.2 b1 (blk_lt BXb1.out) (by have := GBb1.out; have := GL.out; omega) (by have := LTb1b2.out; omega) (fun e => (NR.out.1 b1 e.symm).2.2 rfl)).trans BXb1.out)
        clear HE HK BXb1 BXb2 NR hR9
        have HE := aK hE9
        have HK := n1
        have BXb1 := n2
        have BXb2 := aK (show W1.heap[b2]? = some (.cells (nc (nd 8 tk0 0 [r1, r2, r4, r5, r6] at_) v1).toArray 29 (0, 0)) from hB9)
        have NR := aK (show Kd.N k29 29 W1 w.heap.size (fun q => w.heap.size ≤ q ∧ q ≠ b2 ∧ q ≠ b1) v1 [r1, r2, r4, r5, r6] from hN9)
        clear n1 n2 hE9 hB9 hN9
        go_wp2_with (first
          | ((with_reducible refine gD 151 rfl ?_); go_must ((refine goesL_ (some 151) rfl rfl Try.func33 (by kernel_rfl) rfl #[eyeP g, .string ⟨#[99, 104, 101, 99, 107]⟩] rfl (mpT rfl) ?_; refine (eEat_calls h7 HE.out).mono ?_; rintro e w1 ⟨rfl, he, hk⟩; refine ⟨_, rfl, ?_⟩; replace HE := aK (he); replace HK := Zk HK hk; replace BXb1 := Zb hk BXb1 GBb1 GL; replace BXb2 := Zb hk BXb2 GBb2 GL; replace NR := aK (Kd.N_keep NR.out hk (fun q hq e => by have h9 : w.heap.size ≤ q := hq.1; have := GL.out; omega)); clear he hk)))
          | ((with_reducible refine gate_ (.store 3 (.tmp 152) (.const (.int .i64 1))) rfl ?_); go_must ((refine ev_field29 rfl rfl 3 (.tmp 152) (.const (.int .i64 1)) rfl (b := b2) 2 (.int .i64 1) rfl rfl BXb2.out (by omega) rfl rfl (by kernel_rfl) (nd 8 tk0 1 [r1, r2, r4, r5, r6] at_) (v1) rfl ?_; intro w1 hblk hg hz; replace HE := Ze HE hg GBb2 GL; replace HK := Zx HK hg GBb2; replace BXb1 := Zg hg BXb1 LTb1b2; replace BXb2 := aK (hblk); replace NR := aK (Kd.N_grown NR.out hg (fun q hq e => by injection e with e; exact hq.2.1 e)); clear hblk hg hz))))
        obtain ⟨A1, c1, e1⟩ := Kd.N_slice NR.out
        subst e1
        refine app_A (A := A1) (c := c1) (base := w.heap.size) (ok := fun q => w.heap.size ≤ q ∧ q ≠ b2 ∧ q ≠ b1) ⟨HE.out, BXb2.out, NR.out, by have := GBb2.out; have := GL.out; omega, fun q hq => by have h9 : w.heap.size ≤ q := hq.1; have := GL.out; have := HE.out.ge; exact ⟨by omega, hq.2.1, by omega⟩, fun q hq => by have h9 := HK.out.1; have h7 := blk_lt BXb1.out; have h8 := blk_lt BXb2.out; exact ⟨by omega, by omega, by omega⟩, HK.out.1, by have := GBb2.out; have := GL.out; have := HE.out.ge; omega, by simp⟩ 153 154 155 157 156 158 159 160 161 4 0 rfl rfl rfl rfl rfl rfl rfl rfl rfl rfl rfl rfl ⟨rfl, rfl⟩ ⟨rfl, rfl⟩ ⟨rfl, rfl⟩ ⟨rfl, rfl⟩ ⟨rfl, rfl⟩ ⟨rfl, rfl⟩ ⟨rfl, rfl⟩ ⟨rfl, rfl⟩ ⟨rfl, rfl⟩ ⟨rfl, rfl⟩ ⟨rfl, rfl⟩ rfl rfl rfl ⟨rfl, rfl⟩ Try.func80 (by kernel_rfl) rfl #[eyeP g] rfl (fun a' h => by simp only [List.map_toArray, List.map_cons, List.map_nil, h] <;> rfl) rfl rfl rfl rfl rfl rfl 184 rfl (by decide) (by decide) rfl rfl (by constructor <;> kernel_rfl) (fun _ _ _ _ _ h => h) (fun W1 hE1 => hR.2.2.2.2.1 _ _ _ h8 w0 W1 g hE1) ?_
        intro vT vz v1 p1 W1 hp
        obtain ⟨hE9, hB9, hN9, hR9⟩ := hp
        simp only [Act.put, List.setIfInBounds_toArray, List.set_cons_zero, List.set_cons_succ]
        have n1 := aK (keep_chain HK.out hR9 GBb2.out (fun q h => (NR.out.1 q h).1))
        have n2 := aK ((hR9.2 b1 (blk_lt BXb1.out) (by have := GBb1.out; have := GL.out; omega) (by have := LTb1b2.out; omega) (fun e => (NR.out.1 b1 e.symm).2.2 rfl)).trans BXb1.out)
        clear HE HK BXb1 BXb2 NR hR9
        have HE := aK hE9
        have HK := n1
        have BXb1 := n2
        have BXb2 := aK (show W1.heap[b2]? = some (.cells (nc (nd 8 tk0 1 [r1, r2, r4, r5, r6, r7] at_) v1).toArray 29 (0, 0)) from hB9)
        have NR := aK (show Kd.N k29 29 W1 w.heap.size (fun q => w.heap.size ≤ q ∧ q ≠ b2 ∧ q ≠ b1) v1 [r1, r2, r4, r5, r6, r7] from hN9)
        clear n1 n2 hE9 hB9 hN9
        have VV := aK (Kd.N_V (base' := 0) NR.out)
        clear NR
        go_wp2_with (first
          | ((with_reducible refine gD 163 rfl ?_); go_must ((refine goesL_ (some 163) rfl rfl Try.func35 (by kernel_rfl) rfl #[eyeP g, .string ⟨#[59]⟩] rfl (mpT rfl) ?_; refine (eMust_calls h9 HE.out).mono ?_; rintro e w1 ⟨rfl, he, hk⟩; refine ⟨_, rfl, ?_⟩; replace HE := aK (he); replace HK := Zk HK hk; replace BXb1 := Zb hk BXb1 GBb1 GL; replace BXb2 := Zb hk BXb2 GBb2 GL; replace VV := aK (Kd.V_keep VV.out hk (fun q hq e => by have h9 : w.heap.size ≤ q := hq.1; have := GL.out; omega)); clear he hk)))
          | ((with_reducible refine gD 179 rfl ?_); go_must ((refine ev_cell rfl (N := 179) rfl 3 (.tmp 178) rfl ⟨g, 3, none⟩ rfl _ _ HE.out.c3 Try.underlying3 rfl ?_)))
          | ((with_reducible refine gate_ (.store 3 (.tmp 182) (.tmp 180)) rfl ?_); go_must ((refine ev_eye3 rfl rfl (.tmp 182) (.tmp 180) rfl (_) rfl rfl HE.out ?_; intro w1 he hg hz; replace HE := aK (he); replace HK := aK (keep_grown HK.out hg (.inr rfl)); replace BXb1 := aK (grown_blk hg BXb1.out (by have := GBb1.out; have := GL.out; omega)); replace BXb2 := aK (grown_blk hg BXb2.out (by have := GBb2.out; have := GL.out; omega)); replace VV := aK (Kd.V_grown VV.out hg (fun q hq e => by injection e with e; have h9 : w.heap.size ≤ q := hq.1; have := GL.out; omega)); clear he hg hz)))
          | ((with_reducible refine gD 183 rfl ?_); go_must ((refine ev_load29 rfl (N := 183) rfl (.tmp 4) rfl (b := b2) rfl BXb2.out ?_)))
          | ((with_reducible refine gate_ (.store 29 (.tmp 2) (.tmp 183)) rfl ?_); go_must ((refine ev_store29 rfl rfl (.tmp 2) (.tmp 183) rfl (b := b1) (z := nd 8 tk0 1 [r1, r2, r4, r5, r6, r7] at_) (v := v1) rfl rfl BXb1.out (VK_one VV.out) ?_; intro w1 hblk hg hz; replace HE := Ze HE hg GBb1 GL; replace HK := Zx HK hg GBb1; replace BXb1 := aK (hblk); replace BXb2 := Zh hg BXb2 LTb1b2; replace VV := aK (Kd.V_grown VV.out hg (fun q hq e => by injection e with e; exact hq.2.2 e)); clear hblk hg hz))))
        refine bodyPost_ret (results_cell_row rfl _ _ b1 29 (nc (nd 8 tk0 1 [r1, r2, r4, r5, r6, r7] at_) v1).toArray _ _ rfl BXb1.out Try.underlying29 rfl info29s) rfl ?_
        exact ⟨v1, rfl, Kd.V_mono VV.out (fun q hq => hq.1), HE.out, HK.out⟩
    simp only [Bool.false_eq_true, if_false] at h
    obtain ⟨⟨x5, t5⟩, i5, h⟩ := Option.bind_eq_some_iff.1 h
    cases x5
    rotate_left
    · simp only [if_true] at h
      obtain ⟨rec2, hR2, h2⟩ := hrest _ _ _ _ _ h
      go_enter Try.func61, Try.ntmps61
      go_wp2_with (first
        | ((with_reducible refine gD 2 rfl ?_); go_must ((refine ev_alloc29 rfl (N := 2) rfl rfl ?_; intro b1 hbn w1 hblk hbel; have GBb1 := aK (show w.heap.size ≤ b1 by have := HK.out.1; omega); replace HE := Zf HE hbel; replace HK := Zw HK hbel; have BXb1 := aK hblk; clear hblk hbel hbn)))
        | ((with_reducible refine gD 6 rfl ?_); go_must ((refine goesL_ (some 6) rfl rfl Try.func76 (by kernel_rfl) rfl #[eyeP g] rfl (mpT rfl) ?_; refine (eDown_calls hd HE.out).mono ?_; rintro e w1 ⟨rfl, he, hk⟩; refine ⟨_, rfl, ?_⟩; replace HE := aK (he); replace HK := Zk HK hk; replace BXb1 := Zb hk BXb1 GBb1 GL; clear he hk)))
        | ((with_reducible refine gD 10 rfl ?_); go_must ((refine goesL_ (some 10) rfl rfl Try.func32 (by kernel_rfl) rfl #[eyeP g] rfl (mpT rfl) ?_; refine (eAt_calls hat HE.out).mono ?_; rintro e w1 ⟨rfl, he, hk⟩; refine ⟨_, rfl, ?_⟩; replace HE := aK (he); replace HK := Zk HK hk; replace BXb1 := Zb hk BXb1 GBb1 GL; clear he hk)))
        | ((with_reducible refine gD 4 rfl ?_); go_must ((refine ev_alloc29 rfl (N := 4) rfl rfl ?_; intro b2 hbn w1 hblk hbel; have GBb2 := aK (show w.heap.size ≤ b2 by have := HK.out.1; omega); have LTb1b2 := aK (show b1 < b2 by have := blk_lt BXb1.out; omega); replace HE := Zf HE hbel; replace HK := Zw HK hbel; replace BXb1 := Zc hbel BXb1; have BXb2 := aK hblk; clear hblk hbel hbn)))
        | ((with_reducible refine gate_ (.store 29 (.tmp 4) (.tmp 12)) rfl ?_); go_must ((refine ev_store29 rfl rfl (.tmp 4) (.tmp 12) rfl (b := b2) (z := nd 0 tk0 0 [] at_) (v := (.slice none 0 0)) rfl rfl BXb2.out rfl ?_; intro w1 hblk hg hz; replace HE := Ze HE hg GBb2 GL; replace HK := Zx HK hg GBb2; replace BXb1 := Zg hg BXb1 LTb1b2; replace BXb2 := aK (hblk); clear hblk hg hz)))
        | ((with_reducible refine gD 32 rfl ?_); go_must ((refine goesL_ (some 32) rfl rfl Try.func57 (by kernel_rfl) rfl #[eyeP g] rfl (mpT rfl) ?_; refine (eSee_calls hsee HE.out).mono ?_; rintro e w1 ⟨rfl, he, hk⟩; refine ⟨_, rfl, ?_⟩; replace HE := aK (he); replace HK := Zk HK hk; replace BXb1 := Zb hk BXb1 GBb1 GL; replace BXb2 := Zb hk BXb2 GBb2 GL; clear he hk)))
        | ((with_reducible refine gD 38 rfl ?_); go_must ((refine goesL_ (some 38) rfl rfl Try.func33 (by kernel_rfl) rfl #[eyeP g, .string ⟨#[105, 102]⟩] rfl (mpT rfl) ?_; refine (eEat_calls i1 HE.out).mono ?_; rintro e w1 ⟨rfl, he, hk⟩; refine ⟨_, rfl, ?_⟩; replace HE := aK (he); replace HK := Zk HK hk; replace BXb1 := Zb hk BXb1 GBb1 GL; replace BXb2 := Zb hk BXb2 GBb2 GL; clear he hk)))
        | ((with_reducible refine gD 71 rfl ?_); go_must ((refine goesL_ (some 71) rfl rfl Try.func33 (by kernel_rfl) rfl #[eyeP g, .string ⟨#[119, 104, 105, 108, 101]⟩] rfl (mpT rfl) ?_; refine (eEat_calls i2 HE.out).mono ?_; rintro e w1 ⟨rfl, he, hk⟩; refine ⟨_, rfl, ?_⟩; replace HE := aK (he); replace HK := Zk HK hk; replace BXb1 := Zb hk BXb1 GBb1 GL; replace BXb2 := Zb hk BXb2 GBb2 GL; clear he hk)))
        | ((with_reducible refine gD 93 rfl ?_); go_must ((refine goesL_ (some 93) rfl rfl Try.func33 (by kernel_rfl) rfl #[eyeP g, .string ⟨#[97, 98, 111, 114, 116]⟩] rfl (mpT rfl) ?_; refine (eEat_calls i3 HE.out).mono ?_; rintro e w1 ⟨rfl, he, hk⟩; refine ⟨_, rfl, ?_⟩; replace HE := aK (he); replace HK := Zk HK hk; replace BXb1 := Zb hk BXb1 GBb1 GL; replace BXb2 := Zb hk BXb2 GBb2 GL; clear he hk)))
        | ((with_reducible refine gD 99 rfl ?_); go_must ((refine goesL_ (some 99) rfl rfl Try.func33 (by kernel_rfl) rfl #[eyeP g, .string ⟨#[97, 100, 100]⟩] rfl (mpT rfl) ?_; refine (eEat_calls i4 HE.out).mono ?_; rintro e w1 ⟨rfl, he, hk⟩; refine ⟨_, rfl, ?_⟩; replace HE := aK (he); replace HK := Zk HK hk; replace BXb1 := Zb hk BXb1 GBb1 GL; replace BXb2 := Zb hk BXb2 GBb2 GL; clear he hk)))
        | ((with_reducible refine gD 166 rfl ?_); go_must ((refine goesL_ (some 166) rfl rfl Try.func33 (by kernel_rfl) rfl #[eyeP g, .string ⟨#[100, 101, 108]⟩] rfl (mpT rfl) ?_; refine (eEat_calls i5 HE.out).mono ?_; rintro e w1 ⟨rfl, he, hk⟩; refine ⟨_, rfl, ?_⟩; replace HE := aK (he); replace HK := Zk HK hk; replace BXb1 := Zb hk BXb1 GBb1 GL; replace BXb2 := Zb hk BXb2 GBb2 GL; clear he hk)))
        | ((with_reducible refine gate_ (.store 3 (.tmp 167) (.const (.int .i64 9))) rfl ?_); go_must ((refine ev_field29 rfl rfl 3 (.tmp 167) (.const (.int .i64 9)) rfl (b := b2) 0 (.int .i64 9) rfl rfl BXb2.out (by omega) rfl rfl (by kernel_rfl) (nd 9 tk0 0 [] at_) ((.slice none 0 0)) rfl ?_; intro w1 hblk hg hz; replace HE := Ze HE hg GBb2 GL; replace HK := Zx HK hg GBb2; replace BXb1 := Zg hg BXb1 LTb1b2; replace BXb2 := aK (hblk); clear hblk hg hz)))
        | ((with_reducible refine gD 169 rfl ?_); go_must ((refine goesL_ (some 169) rfl rfl Try.func81 (by kernel_rfl) rfl #[eyeP g, .pointer (some ⟨b2, 0, none⟩), .bool false] rfl (mpT rfl) ?_; refine (rest_shows (k := k) hR2 _ _ _ _ _ _ _ _ h2 w0 _ g b2 HE.out BXb2.out (by have := GBb2.out; have := GL.out; omega) (by have := GBb2.out; have := GL.out; have := HE.out.ge; omega)).mono ?_; rintro e w1 ⟨v1, rfl, he, hbx, hN, hrel⟩; refine ⟨_, rfl, ?_⟩; have hv2 := Kd.V_mono (Kd.N_V (base' := 0) hN) (ok' := fun q => w.heap.size ≤ q ∧ q ≠ b2 ∧ q ≠ b1) (fun q hq => by have h8 := hq; have h9 := HK.out.1; have h7b1 := blk_lt BXb1.out; have h7b2 := blk_lt BXb2.out; refine ⟨?_, ?_, ?_⟩ <;> omega); replace HE := aK (he); replace HK := aK (keep_chain HK.out hrel GBb2.out (fun q h => by cases h)); replace BXb1 := aK ((hrel.2 b1 (blk_lt BXb1.out) (by have := GBb1.out; have := GL.out; omega) (by have := LTb1b2.out; omega) (by simp)).trans BXb1.out); replace BXb2 := aK (hbx); have VV := aK hv2; clear he hbx hN hrel hv2)))
        | ((with_reducible refine gD 179 rfl ?_); go_must ((refine ev_cell rfl (N := 179) rfl 3 (.tmp 178) rfl ⟨g, 3, none⟩ rfl _ _ HE.out.c3 Try.underlying3 rfl ?_)))
        | ((with_reducible refine gate_ (.store 3 (.tmp 182) (.tmp 180)) rfl ?_); go_must ((refine ev_eye3 rfl rfl (.tmp 182) (.tmp 180) rfl (_) rfl rfl HE.out ?_; intro w1 he hg hz; replace HE := aK (he); replace HK := aK (keep_grown HK.out hg (.inr rfl)); replace BXb1 := aK (grown_blk hg BXb1.out (by have := GBb1.out; have := GL.out; omega)); replace BXb2 := aK (grown_blk hg BXb2.out (by have := GBb2.out; have := GL.out; omega)); replace VV := aK (Kd.V_grown VV.out hg (fun q hq e => by injection e with e; have h9 : w.heap.size ≤ q := hq.1; have := GL.out; omega)); clear he hg hz)))
        | ((with_reducible refine gD 183 rfl ?_); go_must ((refine ev_load29 rfl (N := 183) rfl (.tmp 4) rfl (b := b2) rfl BXb2.out ?_)))
        | ((with_reducible refine gate_ (.store 29 (.tmp 2) (.tmp 183)) rfl ?_); go_must ((refine ev_store29 rfl rfl (.tmp 2) (.tmp 183) rfl (b := b1) (z := T1) (v := v1) rfl rfl BXb1.out (VK_one VV.out) ?_; intro w1 hblk hg hz; replace HE := Ze HE hg GBb1 GL; replace HK := Zx HK hg GBb1; replace BXb1 := aK (hblk); replace BXb2 := Zh hg BXb2 LTb1b2; replace VV := aK (Kd.V_grown VV.out hg (fun q hq e => by injection e with e; exact hq.2.2 e)); clear hblk hg hz))))
      refine bodyPost_ret (results_cell_row rfl _ _ b1 29 (nc (T1) v1).toArray _ _ rfl BXb1.out Try.underlying29 rfl info29s) rfl ?_
      exact ⟨v1, rfl, Kd.V_mono VV.out (fun q hq => hq.1), HE.out, HK.out⟩
    simp only [Bool.false_eq_true, if_false] at h
    obtain ⟨⟨x6, t6⟩, i6, h⟩ := Option.bind_eq_some_iff.1 h
    cases x6
    rotate_left
    · simp only [if_true] at h
      obtain ⟨rec2, hR2, h2⟩ := hrest _ _ _ _ _ h
      go_enter Try.func61, Try.ntmps61
      go_wp2_with (first
        | ((with_reducible refine gD 2 rfl ?_); go_must ((refine ev_alloc29 rfl (N := 2) rfl rfl ?_; intro b1 hbn w1 hblk hbel; have GBb1 := aK (show w.heap.size ≤ b1 by have := HK.out.1; omega); replace HE := Zf HE hbel; replace HK := Zw HK hbel; have BXb1 := aK hblk; clear hblk hbel hbn)))
        | ((with_reducible refine gD 6 rfl ?_); go_must ((refine goesL_ (some 6) rfl rfl Try.func76 (by kernel_rfl) rfl #[eyeP g] rfl (mpT rfl) ?_; refine (eDown_calls hd HE.out).mono ?_; rintro e w1 ⟨rfl, he, hk⟩; refine ⟨_, rfl, ?_⟩; replace HE := aK (he); replace HK := Zk HK hk; replace BXb1 := Zb hk BXb1 GBb1 GL; clear he hk)))
        | ((with_reducible refine gD 10 rfl ?_); go_must ((refine goesL_ (some 10) rfl rfl Try.func32 (by kernel_rfl) rfl #[eyeP g] rfl (mpT rfl) ?_; refine (eAt_calls hat HE.out).mono ?_; rintro e w1 ⟨rfl, he, hk⟩; refine ⟨_, rfl, ?_⟩; replace HE := aK (he); replace HK := Zk HK hk; replace BXb1 := Zb hk BXb1 GBb1 GL; clear he hk)))
        | ((with_reducible refine gD 4 rfl ?_); go_must ((refine ev_alloc29 rfl (N := 4) rfl rfl ?_; intro b2 hbn w1 hblk hbel; have GBb2 := aK (show w.heap.size ≤ b2 by have := HK.out.1; omega); have LTb1b2 := aK (show b1 < b2 by have := blk_lt BXb1.out; omega); replace HE := Zf HE hbel; replace HK := Zw HK hbel; replace BXb1 := Zc hbel BXb1; have BXb2 := aK hblk; clear hblk hbel hbn)))
        | ((with_reducible refine gate_ (.store 29 (.tmp 4) (.tmp 12)) rfl ?_); go_must ((refine ev_store29 rfl rfl (.tmp 4) (.tmp 12) rfl (b := b2) (z := nd 0 tk0 0 [] at_) (v := (.slice none 0 0)) rfl rfl BXb2.out rfl ?_; intro w1 hblk hg hz; replace HE := Ze HE hg GBb2 GL; replace HK := Zx HK hg GBb2; replace BXb1 := Zg hg BXb1 LTb1b2; replace BXb2 := aK (hblk); clear hblk hg hz)))
        | ((with_reducible refine gD 32 rfl ?_); go_must ((refine goesL_ (some 32) rfl rfl Try.func57 (by kernel_rfl) rfl #[eyeP g] rfl (mpT rfl) ?_; refine (eSee_calls hsee HE.out).mono ?_; rintro e w1 ⟨rfl, he, hk⟩; refine ⟨_, rfl, ?_⟩; replace HE := aK (he); replace HK := Zk HK hk; replace BXb1 := Zb hk BXb1 GBb1 GL; replace BXb2 := Zb hk BXb2 GBb2 GL; clear he hk)))
        | ((with_reducible refine gD 38 rfl ?_); go_must ((refine goesL_ (some 38) rfl rfl Try.func33 (by kernel_rfl) rfl #[eyeP g, .string ⟨#[105, 102]⟩] rfl (mpT rfl) ?_; refine (eEat_calls i1 HE.out).mono ?_; rintro e w1 ⟨rfl, he, hk⟩; refine ⟨_, rfl, ?_⟩; replace HE := aK (he); replace HK := Zk HK hk; replace BXb1 := Zb hk BXb1 GBb1 GL; replace BXb2 := Zb hk BXb2 GBb2 GL; clear he hk)))
        | ((with_reducible refine gD 71 rfl ?_); go_must ((refine goesL_ (some 71) rfl rfl Try.func33 (by kernel_rfl) rfl #[eyeP g, .string ⟨#[119, 104, 105, 108, 101]⟩] rfl (mpT rfl) ?_; refine (eEat_calls i2 HE.out).mono ?_; rintro e w1 ⟨rfl, he, hk⟩; refine ⟨_, rfl, ?_⟩; replace HE := aK (he); replace HK := Zk HK hk; replace BXb1 := Zb hk BXb1 GBb1 GL; replace BXb2 := Zb hk BXb2 GBb2 GL; clear he hk)))
        | ((with_reducible refine gD 93 rfl ?_); go_must ((refine goesL_ (some 93) rfl rfl Try.func33 (by kernel_rfl) rfl #[eyeP g, .string ⟨#[97, 98, 111, 114, 116]⟩] rfl (mpT rfl) ?_; refine (eEat_calls i3 HE.out).mono ?_; rintro e w1 ⟨rfl, he, hk⟩; refine ⟨_, rfl, ?_⟩; replace HE := aK (he); replace HK := Zk HK hk; replace BXb1 := Zb hk BXb1 GBb1 GL; replace BXb2 := Zb hk BXb2 GBb2 GL; clear he hk)))
        | ((with_reducible refine gD 99 rfl ?_); go_must ((refine goesL_ (some 99) rfl rfl Try.func33 (by kernel_rfl) rfl #[eyeP g, .string ⟨#[97, 100, 100]⟩] rfl (mpT rfl) ?_; refine (eEat_calls i4 HE.out).mono ?_; rintro e w1 ⟨rfl, he, hk⟩; refine ⟨_, rfl, ?_⟩; replace HE := aK (he); replace HK := Zk HK hk; replace BXb1 := Zb hk BXb1 GBb1 GL; replace BXb2 := Zb hk BXb2 GBb2 GL; clear he hk)))
        | ((with_reducible refine gD 166 rfl ?_); go_must ((refine goesL_ (some 166) rfl rfl Try.func33 (by kernel_rfl) rfl #[eyeP g, .string ⟨#[100, 101, 108]⟩] rfl (mpT rfl) ?_; refine (eEat_calls i5 HE.out).mono ?_; rintro e w1 ⟨rfl, he, hk⟩; refine ⟨_, rfl, ?_⟩; replace HE := aK (he); replace HK := Zk HK hk; replace BXb1 := Zb hk BXb1 GBb1 GL; replace BXb2 := Zb hk BXb2 GBb2 GL; clear he hk)))
        | ((with_reducible refine gD 172 rfl ?_); go_must ((refine goesL_ (some 172) rfl rfl Try.func33 (by kernel_rfl) rfl #[eyeP g, .string ⟨#[109, 111, 100]⟩] rfl (mpT rfl) ?_; refine (eEat_calls i6 HE.out).mono ?_; rintro e w1 ⟨rfl, he, hk⟩; refine ⟨_, rfl, ?_⟩; replace HE := aK (he); replace HK := Zk HK hk; replace BXb1 := Zb hk BXb1 GBb1 GL; replace BXb2 := Zb hk BXb2 GBb2 GL; clear he hk)))
        | ((with_reducible refine gate_ (.store 3 (.tmp 173) (.const (.int .i64 10))) rfl ?_); go_must ((refine ev_field29 rfl rfl 3 (.tmp 173) (.const (.int .i64 10)) rfl (b := b2) 0 (.int .i64 10) rfl rfl BXb2.out (by omega) rfl rfl (by kernel_rfl) (nd 10 tk0 0 [] at_) ((.slice none 0 0)) rfl ?_; intro w1 hblk hg hz; replace HE := Ze HE hg GBb2 GL; replace HK := Zx HK hg GBb2; replace BXb1 := Zg hg BXb1 LTb1b2; replace BXb2 := aK (hblk); clear hblk hg hz)))
        | ((with_reducible refine gD 175 rfl ?_); go_must ((refine goesL_ (some 175) rfl rfl Try.func81 (by kernel_rfl) rfl #[eyeP g, .pointer (some ⟨b2, 0, none⟩), .bool true] rfl (mpT rfl) ?_; refine (rest_shows (k := k) hR2 _ _ _ _ _ _ _ _ h2 w0 _ g b2 HE.out BXb2.out (by have := GBb2.out; have := GL.out; omega) (by have := GBb2.out; have := GL.out; have := HE.out.ge; omega)).mono ?_; rintro e w1 ⟨v1, rfl, he, hbx, hN, hrel⟩; refine ⟨_, rfl, ?_⟩; have hv2 := Kd.V_mono (Kd.N_V (base' := 0) hN) (ok' := fun q => w.heap.size ≤ q ∧ q ≠ b2 ∧ q ≠ b1) (fun q hq => by have h8 := hq; have h9 := HK.out.1; have h7b1 := blk_lt BXb1.out; have h7b2 := blk_lt BXb2.out; refine ⟨?_, ?_, ?_⟩ <;> omega); replace HE := aK (he); replace HK := aK (keep_chain HK.out hrel GBb2.out (fun q h => by cases h)); replace BXb1 := aK ((hrel.2 b1 (blk_lt BXb1.out) (by have := GBb1.out; have := GL.out; omega) (by have := LTb1b2.out; omega) (by simp)).trans BXb1.out); replace BXb2 := aK (hbx); have VV := aK hv2; clear he hbx hN hrel hv2)))
        | ((with_reducible refine gD 179 rfl ?_); go_must ((refine ev_cell rfl (N := 179) rfl 3 (.tmp 178) rfl ⟨g, 3, none⟩ rfl _ _ HE.out.c3 Try.underlying3 rfl ?_)))
        | ((with_reducible refine gate_ (.store 3 (.tmp 182) (.tmp 180)) rfl ?_); go_must ((refine ev_eye3 rfl rfl (.tmp 182) (.tmp 180) rfl (_) rfl rfl HE.out ?_; intro w1 he hg hz; replace HE := aK (he); replace HK := aK (keep_grown HK.out hg (.inr rfl)); replace BXb1 := aK (grown_blk hg BXb1.out (by have := GBb1.out; have := GL.out; omega)); replace BXb2 := aK (grown_blk hg BXb2.out (by have := GBb2.out; have := GL.out; omega)); replace VV := aK (Kd.V_grown VV.out hg (fun q hq e => by injection e with e; have h9 : w.heap.size ≤ q := hq.1; have := GL.out; omega)); clear he hg hz)))
        | ((with_reducible refine gD 183 rfl ?_); go_must ((refine ev_load29 rfl (N := 183) rfl (.tmp 4) rfl (b := b2) rfl BXb2.out ?_)))
        | ((with_reducible refine gate_ (.store 29 (.tmp 2) (.tmp 183)) rfl ?_); go_must ((refine ev_store29 rfl rfl (.tmp 2) (.tmp 183) rfl (b := b1) (z := T1) (v := v1) rfl rfl BXb1.out (VK_one VV.out) ?_; intro w1 hblk hg hz; replace HE := Ze HE hg GBb1 GL; replace HK := Zx HK hg GBb1; replace BXb1 := aK (hblk); replace BXb2 := Zh hg BXb2 LTb1b2; replace VV := aK (Kd.V_grown VV.out hg (fun q hq e => by injection e with e; exact hq.2.2 e)); clear hblk hg hz))))
      refine bodyPost_ret (results_cell_row rfl _ _ b1 29 (nc (T1) v1).toArray _ _ rfl BXb1.out Try.underlying29 rfl info29s) rfl ?_
      exact ⟨v1, rfl, Kd.V_mono VV.out (fun q hq => hq.1), HE.out, HK.out⟩
    simp only [Bool.false_eq_true, if_false] at h
    obtain ⟨⟨nm, u1⟩, h1, h⟩ := Option.bind_eq_some_iff.1 h
    obtain ⟨u2, h2, h⟩ := Option.bind_eq_some_iff.1 h
    obtain ⟨⟨r1, u3⟩, h3, h⟩ := Option.bind_eq_some_iff.1 h
    obtain ⟨u4, h4, h⟩ := Option.bind_eq_some_iff.1 h
    simp only [Option.some.injEq, Prod.mk.injEq] at h
    obtain ⟨rfl, rfl⟩ := h
    go_enter Try.func61, Try.ntmps61
    go_wp2_with (first
      | ((with_reducible refine gD 2 rfl ?_); go_must ((refine ev_alloc29 rfl (N := 2) rfl rfl ?_; intro b1 hbn w1 hblk hbel; have GBb1 := aK (show w.heap.size ≤ b1 by have := HK.out.1; omega); replace HE := Zf HE hbel; replace HK := Zw HK hbel; have BXb1 := aK hblk; clear hblk hbel hbn)))
      | ((with_reducible refine gD 6 rfl ?_); go_must ((refine goesL_ (some 6) rfl rfl Try.func76 (by kernel_rfl) rfl #[eyeP g] rfl (mpT rfl) ?_; refine (eDown_calls hd HE.out).mono ?_; rintro e w1 ⟨rfl, he, hk⟩; refine ⟨_, rfl, ?_⟩; replace HE := aK (he); replace HK := Zk HK hk; replace BXb1 := Zb hk BXb1 GBb1 GL; clear he hk)))
      | ((with_reducible refine gD 10 rfl ?_); go_must ((refine goesL_ (some 10) rfl rfl Try.func32 (by kernel_rfl) rfl #[eyeP g] rfl (mpT rfl) ?_; refine (eAt_calls hat HE.out).mono ?_; rintro e w1 ⟨rfl, he, hk⟩; refine ⟨_, rfl, ?_⟩; replace HE := aK (he); replace HK := Zk HK hk; replace BXb1 := Zb hk BXb1 GBb1 GL; clear he hk)))
      | ((with_reducible refine gD 4 rfl ?_); go_must ((refine ev_alloc29 rfl (N := 4) rfl rfl ?_; intro b2 hbn w1 hblk hbel; have GBb2 := aK (show w.heap.size ≤ b2 by have := HK.out.1; omega); have LTb1b2 := aK (show b1 < b2 by have := blk_lt BXb1.out; omega); replace HE := Zf HE hbel; replace HK := Zw HK hbel; replace BXb1 := Zc hbel BXb1; have BXb2 := aK hblk; clear hblk hbel hbn)))
      | ((with_reducible refine gate_ (.store 29 (.tmp 4) (.tmp 12)) rfl ?_); go_must ((refine ev_store29 rfl rfl (.tmp 4) (.tmp 12) rfl (b := b2) (z := nd 0 tk0 0 [] at_) (v := (.slice none 0 0)) rfl rfl BXb2.out rfl ?_; intro w1 hblk hg hz; replace HE := Ze HE hg GBb2 GL; replace HK := Zx HK hg GBb2; replace BXb1 := Zg hg BXb1 LTb1b2; replace BXb2 := aK (hblk); clear hblk hg hz)))
      | ((with_reducible refine gD 32 rfl ?_); go_must ((refine goesL_ (some 32) rfl rfl Try.func57 (by kernel_rfl) rfl #[eyeP g] rfl (mpT rfl) ?_; refine (eSee_calls hsee HE.out).mono ?_; rintro e w1 ⟨rfl, he, hk⟩; refine ⟨_, rfl, ?_⟩; replace HE := aK (he); replace HK := Zk HK hk; replace BXb1 := Zb hk BXb1 GBb1 GL; replace BXb2 := Zb hk BXb2 GBb2 GL; clear he hk)))
      | ((with_reducible refine gD 38 rfl ?_); go_must ((refine goesL_ (some 38) rfl rfl Try.func33 (by kernel_rfl) rfl #[eyeP g, .string ⟨#[105, 102]⟩] rfl (mpT rfl) ?_; refine (eEat_calls i1 HE.out).mono ?_; rintro e w1 ⟨rfl, he, hk⟩; refine ⟨_, rfl, ?_⟩; replace HE := aK (he); replace HK := Zk HK hk; replace BXb1 := Zb hk BXb1 GBb1 GL; replace BXb2 := Zb hk BXb2 GBb2 GL; clear he hk)))
      | ((with_reducible refine gD 71 rfl ?_); go_must ((refine goesL_ (some 71) rfl rfl Try.func33 (by kernel_rfl) rfl #[eyeP g, .string ⟨#[119, 104, 105, 108, 101]⟩] rfl (mpT rfl) ?_; refine (eEat_calls i2 HE.out).mono ?_; rintro e w1 ⟨rfl, he, hk⟩; refine ⟨_, rfl, ?_⟩; replace HE := aK (he); replace HK := Zk HK hk; replace BXb1 := Zb hk BXb1 GBb1 GL; replace BXb2 := Zb hk BXb2 GBb2 GL; clear he hk)))
      | ((with_reducible refine gD 93 rfl ?_); go_must ((refine goesL_ (some 93) rfl rfl Try.func33 (by kernel_rfl) rfl #[eyeP g, .string ⟨#[97, 98, 111, 114, 116]⟩] rfl (mpT rfl) ?_; refine (eEat_calls i3 HE.out).mono ?_; rintro e w1 ⟨rfl, he, hk⟩; refine ⟨_, rfl, ?_⟩; replace HE := aK (he); replace HK := Zk HK hk; replace BXb1 := Zb hk BXb1 GBb1 GL; replace BXb2 := Zb hk BXb2 GBb2 GL; clear he hk)))
      | ((with_reducible refine gD 99 rfl ?_); go_must ((refine goesL_ (some 99) rfl rfl Try.func33 (by kernel_rfl) rfl #[eyeP g, .string ⟨#[97, 100, 100]⟩] rfl (mpT rfl) ?_; refine (eEat_calls i4 HE.out).mono ?_; rintro e w1 ⟨rfl, he, hk⟩; refine ⟨_, rfl, ?_⟩; replace HE := aK (he); replace HK := Zk HK hk; replace BXb1 := Zb hk BXb1 GBb1 GL; replace BXb2 := Zb hk BXb2 GBb2 GL; clear he hk)))
      | ((with_reducible refine gD 166 rfl ?_); go_must ((refine goesL_ (some 166) rfl rfl Try.func33 (by kernel_rfl) rfl #[eyeP g, .string ⟨#[100, 101, 108]⟩] rfl (mpT rfl) ?_; refine (eEat_calls i5 HE.out).mono ?_; rintro e w1 ⟨rfl, he, hk⟩; refine ⟨_, rfl, ?_⟩; replace HE := aK (he); replace HK := Zk HK hk; replace BXb1 := Zb hk BXb1 GBb1 GL; replace BXb2 := Zb hk BXb2 GBb2 GL; clear he hk)))
      | ((with_reducible refine gD 172 rfl ?_); go_must ((refine goesL_ (some 172) rfl rfl Try.func33 (by kernel_rfl) rfl #[eyeP g, .string ⟨#[109, 111, 100]⟩] rfl (mpT rfl) ?_; refine (eEat_calls i6 HE.out).mono ?_; rintro e w1 ⟨rfl, he, hk⟩; refine ⟨_, rfl, ?_⟩; replace HE := aK (he); replace HK := Zk HK hk; replace BXb1 := Zb hk BXb1 GBb1 GL; replace BXb2 := Zb hk BXb2 GBb2 GL; clear he hk)))
      | ((with_reducible refine gate_ (.store 3 (.tmp 13) (.const (.int .i64 4))) rfl ?_); go_must ((refine ev_field29 rfl rfl 3 (.tmp 13) (.const (.int .i64 4)) rfl (b := b2) 0 (.int .i64 4) rfl rfl BXb2.out (by omega) rfl rfl (by kernel_rfl) (nd 4 tk0 0 [] at_) ((.slice none 0 0)) rfl ?_; intro w1 hblk hg hz; replace HE := Ze HE hg GBb2 GL; replace HK := Zx HK hg GBb2; replace BXb1 := Zg hg BXb1 LTb1b2; replace BXb2 := aK (hblk); clear hblk hg hz)))
      | ((with_reducible refine gD 15 rfl ?_); go_must ((refine goesL_ (some 15) rfl rfl Try.func34 (by kernel_rfl) rfl #[eyeP g] rfl (mpT rfl) ?_; refine (eName_calls h1 HE.out).mono ?_; rintro e w1 ⟨rfl, he, hk⟩; refine ⟨_, rfl, ?_⟩; replace HE := aK (he); replace HK := Zk HK hk; replace BXb1 := Zb hk BXb1 GBb1 GL; replace BXb2 := Zb hk BXb2 GBb2 GL; clear he hk)))
      | ((with_reducible refine gate_ (.store 9 (.tmp 16) (.tmp 15)) rfl ?_); go_must ((refine ev_field29 rfl rfl 9 (.tmp 16) (.tmp 15) rfl (b := b2) 1 (.string nm) rfl rfl BXb2.out (by omega) rfl rfl (by kernel_rfl) (nd 4 nm 0 [] at_) ((.slice none 0 0)) rfl ?_; intro w1 hblk hg hz; replace HE := Ze HE hg GBb2 GL; replace HK := Zx HK hg GBb2; replace BXb1 := Zg hg BXb1 LTb1b2; replace BXb2 := aK (hblk); clear hblk hg hz)))
      | ((with_reducible refine gD 18 rfl ?_); go_must ((refine goesL_ (some 18) rfl rfl Try.func35 (by kernel_rfl) rfl #[eyeP g, .string ⟨#[61]⟩] rfl (mpT rfl) ?_; refine (eMust_calls h2 HE.out).mono ?_; rintro e w1 ⟨rfl, he, hk⟩; refine ⟨_, rfl, ?_⟩; replace HE := aK (he); replace HK := Zk HK hk; replace BXb1 := Zb hk BXb1 GBb1 GL; replace BXb2 := Zb hk BXb2 GBb2 GL; clear he hk))))
    refine app_A (A := none) (c := 0) (base := w.heap.size) (ok := fun q => w.heap.size ≤ q ∧ q ≠ b2 ∧ q ≠ b1) ⟨HE.out, BXb2.out, Kd.N_nil k29 29 _ w.heap.size (fun q => w.heap.size ≤ q ∧ q ≠ b2 ∧ q ≠ b1), by have := GBb2.out; have := GL.out; omega, fun q hq => by have h9 : w.heap.size ≤ q := hq.1; have := GL.out; have := HE.out.ge; exact ⟨by omega, hq.2.1, by omega⟩, fun q hq => by have h9 := HK.out.1; have h7 := blk_lt BXb1.out; have h8 := blk_lt BXb2.out; exact ⟨by omega, by omega, by omega⟩, HK.out.1, by have := GBb2.out; have := GL.out; have := HE.out.ge; omega, by simp⟩ 19 20 21 23 22 24 25 26 27 4 0 rfl rfl rfl rfl rfl rfl rfl rfl rfl rfl rfl rfl ⟨rfl, rfl⟩ ⟨rfl, rfl⟩ ⟨rfl, rfl⟩ ⟨rfl, rfl⟩ ⟨rfl, rfl⟩ ⟨rfl, rfl⟩ ⟨rfl, rfl⟩ ⟨rfl, rfl⟩ ⟨rfl, rfl⟩ ⟨rfl, rfl⟩ ⟨rfl, rfl⟩ rfl rfl rfl ⟨rfl, rfl⟩ Try.func77 (by kernel_rfl) rfl #[eyeP g, .bool true] rfl (fun a' h => by simp only [List.map_toArray, List.map_cons, List.map_nil, h] <;> rfl) rfl rfl rfl rfl rfl rfl 184 rfl (by decide) (by decide) rfl rfl (by constructor <;> kernel_rfl) (fun _ _ _ _ _ h => h) (fun W1 hE1 => hR.2.2.1 _ _ _ _ h3 w0 W1 g hE1) ?_
    intro vT vz v1 p1 W1 hp
    obtain ⟨hE9, hB9, hN9, hR9⟩ := hp
    simp only [Act.put, List.setIfInBounds_toArray, List.set_cons_zero, List.set_cons_succ]
    have n1 := aK (keep_chain HK.out hR9 GBb2.out (fun q h => by cases h))
    have n2 := aK ((hR9.2 b1 (blk_lt BXb1.out) (by have := GBb1.out; have := GL.out; omega) (by have := LTb1b2.out; omega) (fun e => by cases e)).trans BXb1.out)
    clear HE HK BXb1 BXb2 hR9
    have HE := aK hE9
    have HK := n1
    have BXb1 := n2
    have BXb2 := aK (show W1.heap[b2]? = some (.cells (nc (nd 4 nm 0 [r1] at_) v1).toArray 29 (0, 0)) from hB9)
    have NR := aK (show Kd.N k29 29 W1 w.heap.size (fun q => w.heap.size ≤ q ∧ q ≠ b2 ∧ q ≠ b1) v1 [r1] from hN9)
    clear n1 n2 hE9 hB9 hN9
    have VV := aK (Kd.N_V (base' := 0) NR.out)
    clear NR
    go_wp2_with (first
      | ((with_reducible refine gD 29 rfl ?_); go_must ((refine goesL_ (some 29) rfl rfl Try.func35 (by kernel_rfl) rfl #[eyeP g, .string ⟨#[59]⟩] rfl (mpT rfl) ?_; refine (eMust_calls h4 HE.out).mono ?_; rintro e w1 ⟨rfl, he, hk⟩; refine ⟨_, rfl, ?_⟩; replace HE := aK (he); replace HK := Zk HK hk; replace BXb1 := Zb hk BXb1 GBb1 GL; replace BXb2 := Zb hk BXb2 GBb2 GL; replace VV := aK (Kd.V_keep VV.out hk (fun q hq e => by have h9 : w.heap.size ≤ q := hq.1; have := GL.out; omega)); clear he hk)))
      | ((with_reducible refine gD 179 rfl ?_); go_must ((refine ev_cell rfl (N := 179) rfl 3 (.tmp 178) rfl ⟨g, 3, none⟩ rfl _ _ HE.out.c3 Try.underlying3 rfl ?_)))
      | ((with_reducible refine gate_ (.store 3 (.tmp 182) (.tmp 180)) rfl ?_); go_must ((refine ev_eye3 rfl rfl (.tmp 182) (.tmp 180) rfl (_) rfl rfl HE.out ?_; intro w1 he hg hz; replace HE := aK (he); replace HK := aK (keep_grown HK.out hg (.inr rfl)); replace BXb1 := aK (grown_blk hg BXb1.out (by have := GBb1.out; have := GL.out; omega)); replace BXb2 := aK (grown_blk hg BXb2.out (by have := GBb2.out; have := GL.out; omega)); replace VV := aK (Kd.V_grown VV.out hg (fun q hq e => by injection e with e; have h9 : w.heap.size ≤ q := hq.1; have := GL.out; omega)); clear he hg hz)))
      | ((with_reducible refine gD 183 rfl ?_); go_must ((refine ev_load29 rfl (N := 183) rfl (.tmp 4) rfl (b := b2) rfl BXb2.out ?_)))
      | ((with_reducible refine gate_ (.store 29 (.tmp 2) (.tmp 183)) rfl ?_); go_must ((refine ev_store29 rfl rfl (.tmp 2) (.tmp 183) rfl (b := b1) (z := nd 4 nm 0 [r1] at_) (v := v1) rfl rfl BXb1.out (VK_one VV.out) ?_; intro w1 hblk hg hz; replace HE := Ze HE hg GBb1 GL; replace HK := Zx HK hg GBb1; replace BXb1 := aK (hblk); replace BXb2 := Zh hg BXb2 LTb1b2; replace VV := aK (Kd.V_grown VV.out hg (fun q hq e => by injection e with e; exact hq.2.2 e)); clear hblk hg hz))))
    refine bodyPost_ret (results_cell_row rfl _ _ b1 29 (nc (nd 4 nm 0 [r1] at_) v1).toArray _ _ rfl BXb1.out Try.underlying29 rfl info29s) rfl ?_
    exact ⟨v1, rfl, Kd.V_mono VV.out (fun q hq => hq.1), HE.out, HK.out⟩
end Go.Proofs.Ytdiadmlgeojefaa.A
namespace Go.Proofs.Ytdiadmlgeojefaa.A
open Go.RowKit Go.Proofs.YtdiadmlgeojefaaW.PrintWords Go.Proofs.YtdiadmlgeojefaaW.PrintLast Go.Proofs.YtdiadmlgeojefaaW.PrintMore
set_option linter.unusedVariables false
set_option linter.unusedSimpArgs false
structure app_DChk (ops : Array Oper) : Prop where
  f0 : anyB .any ops #[false, false, false, false, false, false, false, false] #[true, false, false, false, false, false, false, false] 0 = true
  f1 : takeB .any ops [7] #[true, false, false, false, false, false, false, false] #[true, true, false, false, false, false, false, false] 1 = true
  f2 : anyB .any ops #[true, true, false, false, false, false, false, false] #[true, true, true, false, false, false, false, false] 2 = true
  f3 : readyB .any ops #[true, true, true, false, false, false, false, false] #[true, true, true, true, false, false, false, false] 3 = true
  f4 : readyB .any ops #[true, true, true, true, false, false, false, false] #[true, true, true, true, true, false, false, false] 4 = true
  f5 : readyB .any ops #[true, true, true, true, true, false, false, false] #[true, true, true, true, true, true, false, false] 5 = true
  f6 : anyB .any ops #[true, true, true, true, true, true, false, false] #[true, true, true, true, true, true, true, false] 6 = true
  f7 : readyB .any ops #[true, true, true, true, true, true, true, false] #[true, true, true, true, true, true, true, true] 7 = true
  f8 : (Region.ready .any ops #[true, true, true, true, true, true, true, true] == []) = true
set_option maxHeartbeats 1000000 in
theorem app_D {ops : Array Oper} {id : Nat} {Q : Exit → Act → World → Prop} {a : Act} {w0 W : World} {g b base : Nat} {ok : Nat → Prop} {L : Toks} {s s' : St} {n T : S29} {v : Value} (pre : AppPre w0 W g b base ok L s n v)
    (d0 dv dm dc db da df dn dx : Tmp) {o0 o1 o2 o3 o4 o5 o6 o7 : Oper}
    (hsize : ops.size = 8) (h0 : ops[0]? = some o0) (h1 : ops[1]? = some o1) (h2 : ops[2]? = some o2) (h3 : ops[3]? = some o3) (h4 : ops[4]? = some o4) (h5 : ops[5]? = some o5) (h6 : ops[6]? = some o6) (h7 : ops[7]? = some o7)
    (g0 : o0.guard = none ∧ o0.dst = some d0) (g1 : o1.guard = none ∧ o1.dst = some dv) (g2 : o2.guard = none ∧ o2.dst = some dm) (g3 : o3.guard = none ∧ o3.dst = some dc) (g4 : o4.guard = none ∧ o4.dst = some db) (g5 : o5.guard = none ∧ o5.dst = some da) (g6 : o6.guard = none ∧ o6.dst = some df) (g7 : o7.guard = none ∧ o7.dst = none)
    (p0 : o0.op = .fieldAddr 29 (.tmp dn) 3) (p1 : o1.op = .load 27 (.tmp d0)) (p2 : o2.op = .move (.tmp dx))
    {f : FuncId} {fn : Func} {aa : Array Operand} {ts : Array TypeId} (hf : Try.prog.funcs[f]? = some fn) (hname : (fn.name == "runtime.NumGoroutine") = false) (hb : fn.body.isSome = true) (args : Array Value)
    (p3 : o3.op = .call { callee := .value (.func f), args := aa, argTypes := ts }) (hargs : ∀ a' : Act, a'.eval (.tmp dm) = eyeP g → aa.map a'.eval = args)
    (p4 : o4.op = .buildSlice 27 1 #[(0, .tmp dc)]) (p5 : o5.op = .call { callee := .builtin .append, args := #[.tmp dv, .tmp db], argTypes := #[27, 27] })
    (p6 : o6.op = .fieldAddr 29 (.tmp dn) 3) (p7 : o7.op = .store 27 (.tmp df) (.tmp da))
    (sz : Nat) (hsz : a.tmps.size = sz) (hlt : ∀ d ∈ [d0, dv, dm, dc, db, da, df], d < sz) (hnd : List.Nodup [dn, dx, d0, dv, dm, dc, db, da, df])
    (hdn : a.eval (.tmp dn) = .pointer (some ⟨b, 0, none⟩)) (hdx : a.eval (.tmp dx) = eyeP g) (hc : app_DChk ops)
    (hQ : ∀ (d : Tmp) v c a w, Q (.panic c) (Act.put a (some d) v) w → Q (.panic c) a w) (hcall : ∀ W1, EyeAt w0 W1 g L s → Calls Try.prog f args W1 (NodePost w0 W1 g L T s'))
    (hpost : ∀ vT vz v1 W', AppPost w0 W g b base ok L s' n T v v1 W' → Q .normal (((((((a.put (some d0) (.pointer (some ⟨b, 3, none⟩))).put (some dv) v).put (some dm) (eyeP g)).put (some dc) vT).put (some db) vz).put (some da) v1).put (some df) (.pointer (some ⟨b, 3, none⟩))) W') :
    (Code.region id ops true).wp Try.prog Q a W := by
  simp only [List.nodup_cons, List.mem_cons, List.not_mem_nil, or_false, not_or, List.nodup_nil, not_false_eq_true, and_true] at hnd
  simp only [List.mem_cons, List.not_mem_nil, or_false, forall_eq_or_imp, forall_eq] at hlt
  obtain ⟨⟨n_x, n_0, n_v, n_m, n_c, n_b, n_a, n_f⟩, ⟨x_0, x_v, x_m, x_c, x_b, x_a, x_f⟩, ⟨e_v, e_m, e_c, e_b, e_a, e_f⟩, ⟨v_m, v_c, v_b, v_a, v_f⟩, ⟨m_c, m_b, m_a, m_f⟩, ⟨c_b, c_a, c_f⟩, ⟨b_a, b_f⟩, a_f⟩ := hnd
  obtain ⟨s_0, s_v, s_m, s_c, s_b, s_a, s_f⟩ := hlt
  have preD : AppPre w0 W.drew g b base ok L s n v := ⟨⟨pre.eye.1.drew, below_drew pre.eye.2⟩, pre.box, Kd.N_drew pre.row, pre.ne, pre.okg, pre.fresh, pre.base, pre.lo, pre.len⟩
  have hS : ∀ {W' : World} {y : S29}, W'.heap[b]? = some (.cells (nc y v).toArray 29 (0, 0)) → W'.cell? ⟨b, 3, none⟩ = some v := fun h => (Mine.blk_cells h 3).trans rfl
  refine start_ (n := 8) (S := fun w' => w'.cell? ⟨b, 3, none⟩ = some v) (ds := [7]) #[false, false, false, false, false, false, false, false] (by kernel_rfl) hsize rfl (hS preD.box) (fun hS2 => ?_)
  refine pure_ (i := 0) (N := some d0) (v := .pointer (some ⟨b, 3, none⟩)) #[true, false, false, false, false, false, false, false] h0 g0.2 hc.f0 (fun c a w => by rw [g0.2]; exact hQ _ _ c a w) (Or.inl ⟨by simp [Region.wanted, g0.1], run_field29 p0 hdn⟩) rfl ?_
  refine take_ (i := 1) (N := some dv) (v := v) #[true, true, false, false, false, false, false, false] h1 g1.2 hc.f1 (fun c a w => by rw [g1.2]; exact hQ _ _ c a w) (Or.inl ⟨by simp [Region.wanted, g1.1], fun w9 hw9 => run_load27 p1 ?_ hw9⟩) hS2 rfl ?_
  · rw [act_same _ _ _ (by rw [hsz]; exact s_0)]
  refine pure_ (i := 2) (N := some dm) (v := eyeP g) #[true, true, true, false, false, false, false, false] h2 g2.2 hc.f2 (fun c a w => by rw [g2.2]; exact hQ _ _ c a w) (Or.inl ⟨by simp [Region.wanted, g2.1], run_move p2 ?_⟩) rfl ?_
  · rw [act_ne _ _ (Ne.symm x_v), act_ne _ _ (Ne.symm x_0), hdx]
  refine YtdiadmlgeojefaaW.PrintLast.one_ (i := 3) (N := some dc) #[true, true, true, true, false, false, false, false] h3 g3.2 hc.f3 (by decide) (fun K hK => step_of g3.1 g3.2 ?_)
  refine goesL_ (some dc) g3.2 g3.1 hf hname hb args p3 (hargs _ ?_) ?_
  · rw [act_same _ _ _ (by simp only [act_size]; rw [hsz]; exact s_m)]
  refine (hcall W.drew preD.eye).mono ?_
  rintro e W1 ⟨vT, rfl, hV, hE, hk⟩
  refine ⟨_, rfl, ?_⟩
  show K _ W1
  have hB1 := keep_blk hk preD.box pre.ne
  refine hK _ _ (hS hB1) (fun _ => ?_)
  refine YtdiadmlgeojefaaW.PrintLast.one_ (i := 4) (N := some db) #[true, true, true, true, true, false, false, false] h4 g4.2 hc.f4 (by decide) (fun K hK => step_of g4.1 g4.2 ?_)
  refine Mine.ev_lit1 g4.1 (N := db) g4.2 27 29 _ p4 (nc T vT) (act_same _ _ _ (by simp only [act_size]; rw [hsz]; exact s_c)) Try.underlying27 info29 rfl (by omega) (by omega) ?_
  have hb1 : Below W1.heap.size W1 (W1.alloc (.cells (nc T vT).toArray 29)) := below_alloc (Below.refl _ _) _
  have hnew := heap_alloc_new W1 (.cells (nc T vT).toArray 29)
  show K _ _
  rw [g4.2]
  have hB3 := below_blk hb1 hB1
  have hE3 := hE.below hb1
  have hK3 := keep_below hk hb1
  have hV3 := Kd.V_below (Kd.V_bound hV) hb1
  refine hK _ _ (hS hB3) (fun _ => ?_)
  have hown : ∀ k, v.ownBlock = some k → k < W.heap.size := Kd.N_lt pre.row
  have hz1 : W.heap.size ≤ W1.heap.size := hk.1
  generalize hW3 : W1.alloc (.cells (nc T vT).toArray 29) = W3 at hnew hB3 hE3 hK3 hV3 ⊢
  generalize hz : W1.heap.size = z at hnew hV3 hz1 ⊢
  refine YtdiadmlgeojefaaW.PrintLast.one_ (i := 5) (N := some da) #[true, true, true, true, true, true, false, false] h5 g5.2 hc.f5 (by decide) (fun K hK => step_of g5.1 g5.2 ?_)
  refine Kd.N_append_rows k29 (w0 := W3) base g5.1 (.tmp dv) (.tmp db) 27 29 _ 64 p5 Try.underlying27 info29 rfl (by decide) (by omega) v n.f3 [T] (some ⟨z, 0, none⟩) 1 1 ok _ ?_ ?_ ?_ (kid_F hnew hV3) ?_ ?_ (Below.refl _ _) ?_ ?_ ?_
  · rw [act_ne _ _ (Ne.symm v_b), act_ne _ _ (Ne.symm v_c), act_ne _ _ (Ne.symm v_m), act_same _ _ _ (by simp only [act_size]; rw [hsz]; exact s_v)]
  · rw [act_same _ _ _ (by simp only [act_size]; rw [hsz]; exact s_b)]
  · exact Kd.N_keep preD.row hK3 (fun k hk => (pre.okg k hk).1)
  · rintro k (hk9 | rfl)
    · have h9 : W.heap.size ≤ k := hk9.1
      exact ⟨pre.fresh _ h9, fun e => by have := hown _ e.symm; omega⟩
    · exact ⟨pre.fresh _ hz1, fun e => by have := hown _ e.symm; omega⟩
  · exact fun k hk => pre.fresh k (Nat.le_trans hK3.1 hk)
  · exact Nat.le_trans pre.base hK3.1
  · have := pre.len; omega
  intro v1 W4 hN hb9 hg4 hat
  have hB4 : W4.heap[b]? = some (.cells (nc n v).toArray 29 (0, 0)) := row_blk hg4 hB3 (fun q h e => (pre.okg q (pre.row.1 q h)).2.1 e)
  have hE4 : EyeAt w0 W4 g L s' := eye_row hE3 hg4 (fun q h => ⟨(pre.okg q (pre.row.1 q h)).1, (pre.okg q (pre.row.1 q h)).2.2⟩)
  have hR4 : RelG g b v.ownBlock W W4 := (RelG.keep (W := W.drew) hK3).grown hg4 (.inl rfl)
  show K _ W4
  rw [g5.2]
  refine hK _ _ (hS hB4) (fun _ => ?_)
  refine pure_ (i := 6) (N := some df) (v := .pointer (some ⟨b, 3, none⟩)) #[true, true, true, true, true, true, true, false] h6 g6.2 hc.f6 (fun c a w => by rw [g6.2]; exact hQ _ _ c a w) (Or.inl ⟨by simp [Region.wanted, g6.1], run_field29 p6 ?_⟩) rfl ?_
  · rw [act_ne _ _ (Ne.symm n_a), act_ne _ _ (Ne.symm n_b), act_ne _ _ (Ne.symm n_c), act_ne _ _ (Ne.symm n_m), act_ne _ _ (Ne.symm n_v), act_ne _ _ (Ne.symm n_0), hdn]
  refine last_ (i := 7) (N := none) #[true, true, true, true, true, true, true, true] h7 g7.2 hc.f7 (by simp) (fun K hK => step_of g7.1 g7.2 ?_)
  refine ev_field29 g7.1 g7.2 27 (.tmp df) (.tmp da) p7 3 v1 (act_same _ _ _ (by simp only [act_size]; rw [hsz]; exact s_f)) ?_ hB4 (by omega) (Kd.N_val hN).1 (Kd.N_val hN).2 (by kernel_rfl) (addKid n T) v1 rfl ?_
  · rw [act_ne _ _ (Ne.symm a_f), act_same _ _ _ (by simp only [act_size]; rw [hsz]; exact s_a)]
  intro W5 hB5 hg5 hz5
  refine hK _ _ (done_ hc.f8 (hpost _ _ _ _ ⟨hE4.grown hg5 pre.ne pre.lo, hB5, Kd.N_grown hN hg5 (fun q hq e => by injection e with e; exact (pre.okg q hq).2.1 e), hR4.grown hg5 (.inr (.inl rfl))⟩))
end Go.Proofs.Ytdiadmlgeojefaa.A
namespace Go.Proofs.Ytdiadmlgeojefaa.A
open Go.RowKit Go.Proofs.YtdiadmlgeojefaaW.PrintWords Go.Proofs.YtdiadmlgeojefaaW.PrintLast Go.Proofs.YtdiadmlgeojefaaW.PrintMore
set_option linter.unusedVariables false
set_option linter.unusedSimpArgs false
set_option maxHeartbeats 4000000 in
set_option maxRecDepth 100000 in
theorem block_shows {k : Nat} {L : Toks} {m : Nat} (hm : m ≤ 1099511627776) (hR : ∀ m', m' ≤ m → Shows L (run k L m')) (s : St) (T : S29) (s' : St) (h : block_ L (run k L m) s = some (T, s')) : Gives 37 [] L s T s' := by
  intro w0 w g hE
  show Calls Try.prog 37 #[eyeP g] w _
  have HE := aK hE
  have GL := aK hE.lt
  have HK := aK (KeepBut.refl w g none)
  clear hE
  have HM := aK hm
  clear hm
  obtain ⟨⟨at_, s1⟩, hat, h⟩ := Option.bind_eq_some_iff.1 h
  obtain ⟨s2, hm1, h⟩ := Option.bind_eq_some_iff.1 h
  obtain ⟨⟨T1, s4⟩, hr, h⟩ := Option.bind_eq_some_iff.1 h
  obtain ⟨s5, hm2, h⟩ := Option.bind_eq_some_iff.1 h
  simp only [Option.some.injEq, Prod.mk.injEq] at h
  obtain ⟨rfl, rfl⟩ := h
  go_enter Try.func37, Try.ntmps37
  go_wp2_with (first
    | ((with_reducible refine gD 2 rfl ?_); go_must ((refine ev_alloc29 rfl (N := 2) rfl rfl ?_; intro b1 hbn w1 hblk hbel; have GBb1 := aK (show w.heap.size ≤ b1 by have := HK.out.1; omega); replace HE := Zf HE hbel; replace HK := Zw HK hbel; have BXb1 := aK hblk; clear hblk hbel hbn)))
    | ((with_reducible refine gD 5 rfl ?_); go_must ((refine goesL_ (some 5) rfl rfl Try.func32 (by kernel_rfl) rfl #[eyeP g] rfl (mpT rfl) ?_; refine (eAt_calls hat HE.out).mono ?_; rintro e w1 ⟨rfl, he, hk⟩; refine ⟨_, rfl, ?_⟩; replace HE := aK (he); replace HK := Zk HK hk; replace BXb1 := Zb hk BXb1 GBb1 GL; clear he hk)))
    | ((with_reducible refine gD 3 rfl ?_); go_must ((refine ev_alloc29 rfl (N := 3) rfl rfl ?_; intro b2 hbn w1 hblk hbel; have GBb2 := aK (show w.heap.size ≤ b2 by have := HK.out.1; omega); have LTb1b2 := aK (show b1 < b2 by have := blk_lt BXb1.out; omega); replace HE := Zf HE hbel; replace HK := Zw HK hbel; replace BXb1 := Zc hbel BXb1; have BXb2 := aK hblk; clear hblk hbel hbn)))
    | ((with_reducible refine gate_ (.store 29 (.tmp 3) (.tmp 6)) rfl ?_); go_must ((refine ev_store29 rfl rfl (.tmp 3) (.tmp 6) rfl (b := b2) (z := nd 7 tk0 0 [] at_) (v := (.slice none 0 0)) rfl rfl BXb2.out rfl ?_; intro w1 hblk hg hz; replace HE := Ze HE hg GBb2 GL; replace HK := Zx HK hg GBb2; replace BXb1 := Zg hg BXb1 LTb1b2; replace BXb2 := aK (hblk); clear hblk hg hz)))
    | ((with_reducible refine gD 8 rfl ?_); go_must ((refine goesL_ (some 8) rfl rfl Try.func35 (by kernel_rfl) rfl #[eyeP g, .string ⟨#[123]⟩] rfl (mpT rfl) ?_; refine (eMust_calls hm1 HE.out).mono ?_; rintro e w1 ⟨rfl, he, hk⟩; refine ⟨_, rfl, ?_⟩; replace HE := aK (he); replace HK := Zk HK hk; replace BXb1 := Zb hk BXb1 GBb1 GL; replace BXb2 := Zb hk BXb2 GBb2 GL; clear he hk))))
  go_loopg [] m (fun kq w' => ∃ (n : S29) (s : St) (v : Value), Aside0 (run k L kq (.bloop n) s = some (T1, s4)) ∧ Aside0 (n.f3.length + kq ≤ m) ∧ Aside0 (EyeAt w0 w' g L s) ∧ Aside0 (KeepBut w w' g none) ∧ Aside0 (w'.heap[b1]? = some (.cells (nc z29 (.slice none 0 0)).toArray 29 (0, 0))) ∧ Aside0 (w'.heap[b2]? = some (.cells (nc n v).toArray 29 (0, 0))) ∧ Aside0 (Kd.N k29 29 w' w.heap.size (fun q => w.heap.size ≤ q ∧ q ≠ b2 ∧ q ≠ b1) v n.f3))
  case atStart => exact ⟨_, _, _, ⟨hr⟩, ⟨by simp⟩, HE, HK, BXb1, BXb2, ⟨Kd.N_nil _ _ _ _ _⟩⟩
  case round =>
    clear HE HK BXb1 BXb2
    obtain ⟨n, s9, v, HC, LEN, HE, HK, BXb1, BXb2, NR⟩ := hrel
    obtain ⟨kq, rfl⟩ : ∃ q, gk = q + 1 := by
      cases gk with
      | zero => exact absurd HC.out (by simp [run])
      | succ q => exact ⟨q, rfl⟩
    have hrun : bloop_ L (run k L kq) n s9 = some (T1, s4) := HC.out
    clear HC
    have HS := aK (hR kq (by have := LEN.out; omega))
    unfold bloop_ at hrun
    by_cases c0 : s9.e = 0
    · rw [if_pos c0] at hrun
      have c1 : (s9.e == 0) = true := beq_iff_eq.2 c0
      obtain ⟨⟨tx, s10⟩, hsee, hrun⟩ := Option.bind_eq_some_iff.1 hrun
      simp only at hrun
      by_cases c2 : tx.toList = [125]
      · rw [if_pos c2] at hrun
        have c3 : (tx.toList != [125]) = false := bne_eq_false_iff_eq.2 c2
        have c4 : (tx.toList == [125]) = true := beq_iff_eq.2 c2
        simp only [Option.some.injEq, Prod.mk.injEq] at hrun
        obtain ⟨rfl, rfl⟩ := hrun
        have VV := aK (Kd.N_V (base' := 0) NR.out)
        clear NR c2
        go_wp2_with (first
          | ((with_reducible refine gD 13 rfl ?_); go_must ((refine ev_cell rfl (N := 13) rfl 30 (.tmp 12) rfl ⟨g, 4, none⟩ rfl _ _ HE.out.c4 Try.underlying30 rfl ?_)))
          | (go_at_call 57; refine (eSee_calls hsee HE.out).mono ?_; rintro e w1 ⟨rfl, he, hk⟩; replace HE := aK (he); replace HK := Zk HK hk; replace BXb1 := Zb hk BXb1 GBb1 GL; replace BXb2 := Zb hk BXb2 GBb2 GL; replace VV := aK (Kd.V_keep VV.out hk (fun q hq e => by have h9 : w.heap.size ≤ q := hq.1; have := GL.out; omega)); clear he hk)
          | ((with_reducible refine gD 28 rfl ?_); go_must ((refine goesL_ (some 28) rfl rfl Try.func35 (by kernel_rfl) rfl #[eyeP g, .string ⟨#[125]⟩] rfl (mpT rfl) ?_; refine (eMust_calls hm2 HE.out).mono ?_; rintro e w1 ⟨rfl, he, hk⟩; refine ⟨_, rfl, ?_⟩; replace HE := aK (he); replace HK := Zk HK hk; replace BXb1 := Zb hk BXb1 GBb1 GL; replace BXb2 := Zb hk BXb2 GBb2 GL; replace VV := aK (Kd.V_keep VV.out hk (fun q hq e => by have h9 : w.heap.size ≤ q := hq.1; have := GL.out; omega)); clear he hk)))
          | ((with_reducible refine gD 29 rfl ?_); go_must ((refine ev_load29 rfl (N := 29) rfl (.tmp 3) rfl (b := b2) rfl BXb2.out ?_)))
          | ((with_reducible refine gate_ (.store 29 (.tmp 2) (.tmp 29)) rfl ?_); go_must ((refine ev_store29 rfl rfl (.tmp 2) (.tmp 29) rfl (b := b1) (z := n) (v := v) rfl rfl BXb1.out (VK_one VV.out) ?_; intro w1 hblk hg hz; replace HE := Ze HE hg GBb1 GL; replace HK := Zx HK hg GBb1; replace BXb1 := aK (hblk); replace BXb2 := Zh hg BXb2 LTb1b2; replace VV := aK (Kd.V_grown VV.out hg (fun q hq e => by injection e with e; exact hq.2.2 e)); clear hblk hg hz))))
        refine bodyPost_ret (results_cell_row rfl _ _ b1 29 (nc n v).toArray _ _ rfl BXb1.out Try.underlying29 rfl info29s) rfl ?_
        exact ⟨v, rfl, Kd.V_mono VV.out (fun q hq => hq.1), HE.out, HK.out⟩
      · rw [if_neg c2] at hrun
        have c3 : (tx.toList != [125]) = true := bne_iff_ne.2 c2
        have c4 : (tx.toList == [125]) = false := beq_eq_false_iff_ne.2 c2
        clear c2
        obtain ⟨⟨r1, s11⟩, hst, hrun⟩ := Option.bind_eq_some_iff.1 hrun
        go_wp2_with (first
          | ((with_reducible refine gD 13 rfl ?_); go_must ((refine ev_cell rfl (N := 13) rfl 30 (.tmp 12) rfl ⟨g, 4, none⟩ rfl _ _ HE.out.c4 Try.underlying30 rfl ?_)))
          | (go_at_call 57; refine (eSee_calls hsee HE.out).mono ?_; rintro e w1 ⟨rfl, he, hk⟩; replace HE := aK (he); replace HK := Zk HK hk; replace BXb1 := Zb hk BXb1 GBb1 GL; replace BXb2 := Zb hk BXb2 GBb2 GL; replace NR := aK (Kd.N_keep NR.out hk (fun q hq e => by have h9 : w.heap.size ≤ q := hq.1; have := GL.out; omega)); clear he hk))
        refine app_D (base := w.heap.size) (ok := fun q => w.heap.size ≤ q ∧ q ≠ b2 ∧ q ≠ b1) ⟨HE.out, BXb2.out, NR.out, by have := GBb2.out; have := GL.out; omega, fun q hq => by have h9 : w.heap.size ≤ q := hq.1; have := GL.out; have := HE.out.ge; exact ⟨by omega, hq.2.1, by omega⟩, fun q hq => by have h9 := HK.out.1; have h7 := blk_lt BXb1.out; have h8 := blk_lt BXb2.out; exact ⟨by omega, by omega, by omega⟩, HK.out.1, by have := GBb2.out; have := GL.out; have := HE.out.ge; omega, by have := LEN.out; have := HM.out; omega⟩ 20 21 22 23 24 25 26 3 0 rfl rfl rfl rfl rfl rfl rfl rfl rfl ⟨rfl, rfl⟩ ⟨rfl, rfl⟩ ⟨rfl, rfl⟩ ⟨rfl, rfl⟩ ⟨rfl, rfl⟩ ⟨rfl, rfl⟩ ⟨rfl, rfl⟩ ⟨rfl, rfl⟩ rfl rfl rfl Try.func61 (by kernel_rfl) rfl #[eyeP g] rfl (fun a' h => by simp only [List.map_toArray, List.map_cons, List.map_nil, h] <;> rfl) rfl rfl rfl rfl 30 rfl (by decide) (by decide) rfl rfl (by constructor <;> kernel_rfl) (fun _ _ _ _ _ h => h) (fun W1 hE1 => HS.out.2.2.2.2.2.2.1 _ _ _ hst w0 W1 g hE1) ?_
        intro vT vz v1 W1 hp
        obtain ⟨hE9, hB9, hN9, hR9⟩ := hp
        simp only [Act.put, List.setIfInBounds_toArray, List.set_cons_zero, List.set_cons_succ]
        try go_wp2
        go_roundg kq
        case rel => exact ⟨addKid n r1, s11, v1, ⟨hrun⟩, ⟨by have := LEN.out; simp; omega⟩, ⟨hE9⟩, ⟨keep_chain HK.out hR9 GBb2.out (fun q h => (NR.out.1 q h).1)⟩, ⟨(hR9.2 b1 (blk_lt BXb1.out) (by have := GBb1.out; have := GL.out; omega) (by have := LTb1b2.out; omega) (fun e => (NR.out.1 b1 e.symm).2.2 rfl)).trans BXb1.out⟩, ⟨hB9⟩, ⟨hN9⟩⟩
        case measure => omega
    · rw [if_neg c0] at hrun
      have c1 : (s9.e == 0) = false := beq_eq_false_iff_ne.2 c0
      simp only [Option.some.injEq, Prod.mk.injEq] at hrun
      obtain ⟨rfl, rfl⟩ := hrun
      have VV := aK (Kd.N_V (base' := 0) NR.out)
      clear NR
      go_wp2_with (first
        | ((with_reducible refine gD 13 rfl ?_); go_must ((refine ev_cell rfl (N := 13) rfl 30 (.tmp 12) rfl ⟨g, 4, none⟩ rfl _ _ HE.out.c4 Try.underlying30 rfl ?_)))
        | ((with_reducible refine gD 28 rfl ?_); go_must ((refine goesL_ (some 28) rfl rfl Try.func35 (by kernel_rfl) rfl #[eyeP g, .string ⟨#[125]⟩] rfl (mpT rfl) ?_; refine (eMust_calls hm2 HE.out).mono ?_; rintro e w1 ⟨rfl, he, hk⟩; refine ⟨_, rfl, ?_⟩; replace HE := aK (he); replace HK := Zk HK hk; replace BXb1 := Zb hk BXb1 GBb1 GL; replace BXb2 := Zb hk BXb2 GBb2 GL; replace VV := aK (Kd.V_keep VV.out hk (fun q hq e => by have h9 : w.heap.size ≤ q := hq.1; have := GL.out; omega)); clear he hk)))
        | ((with_reducible refine gD 29 rfl ?_); go_must ((refine ev_load29 rfl (N := 29) rfl (.tmp 3) rfl (b := b2) rfl BXb2.out ?_)))
        | ((with_reducible refine gate_ (.store 29 (.tmp 2) (.tmp 29)) rfl ?_); go_must ((refine ev_store29 rfl rfl (.tmp 2) (.tmp 29) rfl (b := b1) (z := n) (v := v) rfl rfl BXb1.out (VK_one VV.out) ?_; intro w1 hblk hg hz; replace HE := Ze HE hg GBb1 GL; replace HK := Zx HK hg GBb1; replace BXb1 := aK (hblk); replace BXb2 := Zh hg BXb2 LTb1b2; replace VV := aK (Kd.V_grown VV.out hg (fun q hq e => by injection e with e; exact hq.2.2 e)); clear hblk hg hz))))
      refine bodyPost_ret (results_cell_row rfl _ _ b1 29 (nc n v).toArray _ _ rfl BXb1.out Try.underlying29 rfl info29s) rfl ?_
      exact ⟨v, rfl, Kd.V_mono VV.out (fun q hq => hq.1), HE.out, HK.out⟩
end Go.Proofs.Ytdiadmlgeojefaa.A
namespace Go.Proofs.Ytdiadmlgeojefaa.A
open Go.RowKit Go.Proofs.YtdiadmlgeojefaaW.PrintWords Go.Proofs.YtdiadmlgeojefaaW.PrintLast Go.Proofs.YtdiadmlgeojefaaW.PrintMore
set_option linter.unusedVariables false
set_option linter.unusedSimpArgs false
section
variable {ops : Array Oper} {rest : List Oper} {o : Oper} {a : Act} {Q : Exit → Act → World → Prop} {W : World}
theorem ev_kid2 (hgd : o.guard = none) {N : Tmp} (hd : o.dst = some N) (x y : Operand) (ho : o.op = .buildSlice 27 2 #[(0, x), (1, y)]) {S T : S29} {u v : Value} {ok : Nat → Prop} (hx : a.eval x = .agg (nc S u).toArray) (hy : a.eval y = .agg (nc T v).toArray) (hU : VK W ok u S.f3) (hV : VK W ok v T.f3)
    (h : ∀ b w1, VK w1 (fun q => ok q ∨ W.heap.size ≤ q) (.slice (some ⟨b, 0, none⟩) 2 2) [S, T] → Below W.heap.size W w1 → wpList Try.prog ops Q rest (a.put o.dst (.slice (some ⟨b, 0, none⟩) 2 2)) w1) : wpList Try.prog ops Q (o :: rest) a W := by
  obtain ⟨i, hi, hz, hsz, _⟩ := info_parts info29
  refine wpList_buildSlice hgd 27 29 2 #[(0, x), (1, y)] ho (nc S u ++ nc T v).toArray i _ Try.underlying27 hi hz (by rw [hsz]; omega) (by rw [hsz]; omega) ?_ ?_
  · have := Great.fill_whole (s := 5) (by omega) [.agg (nc S u).toArray, .agg (nc T v).toArray] ((Array.range (2 * i.size)).map ((Value.agg (nc z29 (.slice none 0 0)).toArray).cells[· % (Value.agg (nc z29 (.slice none 0 0)).toArray).cells.size]!)) (by simp [Value.cells, nc]) (by simp [hsz])
    simpa [hx, hy, hsz, Value.cells] using this
  · have hb : Below W.heap.size W (W.alloc (.cells (nc S u ++ nc T v).toArray 29)) := below_alloc (Below.refl _ _) _
    refine h W.heap.size _ ⟨some ⟨W.heap.size, 0, none⟩, 2, rfl, Nat.le_refl _, fun W' hW => ?_⟩ hb
    have hfk1 : k29.K W' S (nc S u) := (Kd.FK_below (nc_FK hU) hb) W' (fun k hk hlt => hW k (.inl hk) hlt)
    have hfk2 : k29.K W' T (nc T v) := (Kd.FK_below (nc_FK hV) hb) W' (fun k hk hlt => hW k (.inl hk) hlt)
    have hblk : W'.heap[W.heap.size]? = some (.cells (nc S u ++ nc T v).toArray 29 (0, 0)) := by
      rw [hW W.heap.size (.inr (Nat.le_refl _)) (by simp)]
      exact heap_alloc_new W _
    refine ⟨rfl, by simp, fun _ => ⟨_, rfl, fun j p hj => ?_⟩⟩
    rcases j with _ | _ | j
    · simp only [List.getElem?_cons_zero, Option.some.injEq] at hj
      subst hj
      refine ⟨nc S u, rfl, hfk1, fun j q hq => ?_⟩
      have := Mine.blk_all hblk j q (by rw [List.getElem?_append_left (List.getElem?_eq_some_iff.1 hq).1]; exact hq)
      simpa using this
    · simp only [List.getElem?_cons_succ, List.getElem?_cons_zero, Option.some.injEq] at hj
      subst hj
      refine ⟨nc T v, rfl, hfk2, fun j q hq => ?_⟩
      have := Mine.blk_all hblk (5 + j) q (by rw [List.getElem?_append_right (by simp [nc])]; simpa [nc] using hq)
      rw [Mine.at_add] at this
      simpa [Mine.at_add, show k29.sz = 5 from rfl] using this
    · simp at hj
end
end Go.Proofs.Ytdiadmlgeojefaa.A
namespace Go.Proofs.Ytdiadmlgeojefaa.A
open Go.RowKit Go.Proofs.YtdiadmlgeojefaaW.PrintWords Go.Proofs.YtdiadmlgeojefaaW.PrintLast Go.Proofs.YtdiadmlgeojefaaW.PrintMore
set_option linter.unusedVariables false
set_option linter.unusedSimpArgs false
theorem run_load29 {o : Oper} {a : Act} {x : Operand} (ho : o.op = .load 29 x) {b : Nat} {z : S29} {v : Value} (hx : a.eval x = .pointer (some ⟨b, 0, none⟩)) {w : World} (hh : w.heap[b]? = some (.cells (nc z v).toArray 29 (0, 0))) : (execOp a.eval o).run Try.prog w = .ok (.value (.agg (nc z v).toArray)) w := by
  unfold execOp
  simp only [ho, hx, Instr.loadAt, Instr.sureAddr, Sem.run_bind, Sem.run_pure, Result.andThen_ok, Mine.run_load_cells w ⟨b, 0, none⟩ 29 (nc z v) _ (Mine.blk_all hh) Try.underlying29 rfl info29s]
theorem run_load3 {o : Oper} {a : Act} {x : Operand} (ho : o.op = .load 3 x) {ad : Addr} {v : Value} (hx : a.eval x = .pointer (some ad)) {w : World} (hc : w.cell? ad = some v) : (execOp a.eval o).run Try.prog w = .ok (.value v) w := by
  unfold execOp
  simp only [ho, hx, Instr.loadAt, Instr.sureAddr, Sem.run_bind, Sem.run_pure, Result.andThen_ok, run_loadVar_cell w ad 3 v _ hc Try.underlying3 rfl]
theorem run_field4 {o : Oper} {a : Act} {x : Operand} (ho : o.op = .fieldAddr 29 x 4) {b : Nat} (hx : a.eval x = .pointer (some ⟨b, 0, none⟩)) : ∀ w, (execOp a.eval o).run Try.prog w = .ok (.value (.pointer (some ⟨b, 4, none⟩))) w := by
  intro w
  unfold execOp
  simp only [ho, hx]
  first | (go_simp; done) | (go_simp; rfl)
theorem run_add1 {o : Oper} {a : Act} {x : Operand} (ho : o.op = .binOp .add 3 x (.const (.int .i64 1)) 3) (ht : o.type = 3) {n : Int} (hx : a.eval x = .int .i64 n) : ∀ w, (execOp a.eval o).run Try.prog w = .ok (.value (.int .i64 (wrap64 (n + 1)))) w := by
  intro w
  have hc : a.eval (.const (.int .i64 1)) = .int .i64 1 := rfl
  generalize a.eval = ev at hx hc
  unfold execOp
  simp only [ho, ht, hx, hc]
  go_simp
  exact YtdiadmlgeojefaaW.PrintLast.i64_w (n + 1)
end Go.Proofs.Ytdiadmlgeojefaa.A
namespace Go.Proofs.Ytdiadmlgeojefaa.A
open Go.RowKit Go.Proofs.YtdiadmlgeojefaaW.PrintWords Go.Proofs.YtdiadmlgeojefaaW.PrintLast Go.Proofs.YtdiadmlgeojefaaW.PrintMore
set_option linter.unusedVariables false
set_option linter.unusedSimpArgs false
theorem run_build20 {o : Oper} {a : Act} {x y z : Operand} (ho : o.op = .build 29 #[(0, .const (.int .i64 20)), (1, x), (3, y), (4, z)]) {tx : ByteArray} {A : Option Addr} {m c : Nat} {at_ : Int} {kids : List S29} (hx : a.eval x = .string tx) (hy : a.eval y = .slice A m c) (hz : a.eval z = .int .i64 at_) : ∀ w, (execOp a.eval o).run Try.prog w = .ok (.value (.agg (nc (nd 20 tx 0 kids at_) (.slice A m c)).toArray)) w := by
  intro w
  have hc : a.eval (.const (.int .i64 20)) = .int .i64 20 := rfl
  generalize a.eval = ev at hx hy hz hc
  unfold execOp
  simp only [ho]
  first | (go_simp; done) | (go_simp; rfl)
structure app_EChk (ops : Array Oper) : Prop where
  f0 : anyB .any ops #[false, false, false, false, false, false, false, false, false, false, false, false] #[true, false, false, false, false, false, false, false, false, false, false, false] 0 = true
  f1 : takeB .any ops [11] #[true, false, false, false, false, false, false, false, false, false, false, false] #[true, true, false, false, false, false, false, false, false, false, false, false] 1 = true
  f2 : anyB .any ops #[true, true, false, false, false, false, false, false, false, false, false, false] #[true, true, true, false, false, false, false, false, false, false, false, false] 2 = true
  f3 : anyB .any ops #[true, true, true, false, false, false, false, false, false, false, false, false] #[true, true, true, true, false, false, false, false, false, false, false, false] 3 = true
  f4 : anyB .any ops #[true, true, true, true, false, false, false, false, false, false, false, false] #[true, true, true, true, true, false, false, false, false, false, false, false] 4 = true
  f5 : anyB .any ops #[true, true, true, true, true, false, false, false, false, false, false, false] #[true, true, true, true, true, true, false, false, false, false, false, false] 5 = true
  f6 : anyB .any ops #[true, true, true, true, true, true, false, false, false, false, false, false] #[true, true, true, true, true, true, false, false, true, false, false, false] 8 = true
  f7 : takeB .any ops [11] #[true, true, true, true, true, true, false, false, true, false, false, false] #[true, true, true, true, true, true, false, false, true, true, false, false] 9 = true
  f8 : readyB .any ops #[true, true, true, true, true, true, false, false, true, true, false, false] #[true, true, true, true, true, true, true, false, true, true, false, false] 6 = true
  f9 : readyB .any ops #[true, true, true, true, true, true, true, false, true, true, false, false] #[true, true, true, true, true, true, true, true, true, true, false, false] 7 = true
  f10 : anyB .any ops #[true, true, true, true, true, true, true, true, true, true, false, false] #[true, true, true, true, true, true, true, true, true, true, true, false] 10 = true
  f11 : readyB .any ops #[true, true, true, true, true, true, true, true, true, true, true, false] #[true, true, true, true, true, true, true, true, true, true, true, true] 11 = true
  f12 : (Region.ready .any ops #[true, true, true, true, true, true, true, true, true, true, true, true] == []) = true
set_option maxHeartbeats 1000000 in
theorem app_E {ops : Array Oper} {id : Nat} {Q : Exit → Act → World → Prop} {a : Act} {w0 W : World} {g b : Nat} {ok : Nat → Prop} {L : Toks} {s s' : St} {n T : S29} {v : Value} {tx : ByteArray} {kk : Int} {bb : Bool}
    (hE0 : EyeAt w0 W g L s) (hB0 : W.heap[b]? = some (.cells (nc n v).toArray 29 (0, 0))) (hV0 : VK W ok v n.f3) (hne : b ≠ g) (hokg : ∀ q, ok q → q ≠ g ∧ q ≠ b) (hfr : ∀ q, W.heap.size ≤ q → ok q) (hlo : w0.heap.size ≤ b)
    (dt dn dx1 dk1 dk2 ds1 da4 dv4 dc dl dz dts db_ dx dk ds : Tmp) {o0 o1 o2 o3 o4 o5 o6 o7 o8 o9 o10 o11 : Oper} (hsize : ops.size = 12) (h0 : ops[0]? = some o0) (h1 : ops[1]? = some o1) (h2 : ops[2]? = some o2) (h3 : ops[3]? = some o3) (h4 : ops[4]? = some o4) (h5 : ops[5]? = some o5) (h6 : ops[6]? = some o6) (h7 : ops[7]? = some o7) (h8 : ops[8]? = some o8) (h9 : ops[9]? = some o9) (h10 : ops[10]? = some o10) (h11 : ops[11]? = some o11)
    (g0 : o0.guard = none ∧ o0.dst = some dt) (g1 : o1.guard = none ∧ o1.dst = some dn) (g2 : o2.guard = none ∧ o2.dst = some dx1) (g3 : o3.guard = none ∧ o3.dst = some dk1) (g4 : o4.guard = none ∧ o4.dst = some dk2) (g5 : o5.guard = none ∧ o5.dst = some ds1) (g6 : o6.guard = none ∧ o6.dst = some dc) (g7 : o7.guard = none ∧ o7.dst = some dl) (g8 : o8.guard = none ∧ o8.dst = some da4) (g9 : o9.guard = none ∧ o9.dst = some dv4) (g10 : o10.guard = none ∧ o10.dst = some dz) (g11 : o11.guard = none ∧ o11.dst = none)
    (p0 : o0.op = .move (.tmp dts)) (p1 : o1.op = .load 29 (.tmp db_)) (p2 : o2.op = .move (.tmp dx)) (p3 : o3.op = .move (.tmp dk)) (p4 : o4.op = .binOp .add 3 (.tmp dk1) (.const (.int .i64 1)) 3 ∧ o4.type = 3) (p5 : o5.op = .move (.tmp ds)) (p8 : o8.op = .fieldAddr 29 (.tmp db_) 4) (p9 : o9.op = .load 3 (.tmp da4))
    {f : FuncId} {fn : Func} {ts : Array TypeId} (hf : Try.prog.funcs[f]? = some fn) (hname : (fn.name == "runtime.NumGoroutine") = false) (hb : fn.body.isSome = true)
    (p6 : o6.op = .call { callee := .value (.func f), args := #[.tmp dx1, .tmp dk2, .tmp ds1], argTypes := ts }) (p7 : o7.op = .buildSlice 27 2 #[(0, .tmp dn), (1, .tmp dc)]) (p10 : o10.op = .build 29 #[(0, .const (.int .i64 20)), (1, .tmp dt), (3, .tmp dl), (4, .tmp dv4)]) (p11 : o11.op = .store 29 (.tmp db_) (.tmp dz))
    (sz : Nat) (hsz : a.tmps.size = sz) (hlt : ∀ d ∈ [dt, dn, dx1, dk1, dk2, ds1, da4, dv4, dc, dl, dz], d < sz) (hnd : List.Nodup [dts, db_, dx, dk, ds, dt, dn, dx1, dk1, dk2, ds1, da4, dv4, dc, dl, dz])
    (vts : a.eval (.tmp dts) = .string tx) (vb : a.eval (.tmp db_) = .pointer (some ⟨b, 0, none⟩)) (vx : a.eval (.tmp dx) = eyeP g) (vk : a.eval (.tmp dk) = .int .i64 kk) (vs : a.eval (.tmp ds) = .bool bb) (hc : app_EChk ops)
    (hQ : ∀ (d : Tmp) v c a w, Q (.panic c) (Act.put a (some d) v) w → Q (.panic c) a w) (hcall : ∀ W1, EyeAt w0 W1 g L s → Calls Try.prog f #[eyeP g, .int .i64 (wrap64 (kk + 1)), .bool bb] W1 (NodePost w0 W1 g L T s'))
    (hpost : ∀ vT v1 W', EyeAt w0 W' g L s' → W'.heap[b]? = some (.cells (nc (nd 20 tx 0 [n, T] n.f4) v1).toArray 29 (0, 0)) → VK W' ok v1 [n, T] → RelG g b none W W' → Q .normal (((((((((((a.put (some dt) (.string tx)).put (some dn) (.agg (nc n v).toArray)).put (some dx1) (eyeP g)).put (some dk1) (.int .i64 kk)).put (some dk2) (.int .i64 (wrap64 (kk + 1)))).put (some ds1) (.bool bb)).put (some da4) (.pointer (some ⟨b, 4, none⟩))).put (some dv4) (.int .i64 n.f4)).put (some dc) vT).put (some dl) v1).put (some dz) (.agg (nc (nd 20 tx 0 [n, T] n.f4) v1).toArray)) W') :
    (Code.region id ops true).wp Try.prog Q a W := by
  simp only [List.nodup_cons, List.mem_cons, List.not_mem_nil, or_false, not_or, List.nodup_nil, not_false_eq_true, and_true] at hnd
  simp only [List.mem_cons, List.not_mem_nil, or_false, forall_eq_or_imp, forall_eq] at hlt
  obtain ⟨⟨e_dts_db_, e_dts_dx, e_dts_dk, e_dts_ds, e_dts_dt, e_dts_dn, e_dts_dx1, e_dts_dk1, e_dts_dk2, e_dts_ds1, e_dts_da4, e_dts_dv4, e_dts_dc, e_dts_dl, e_dts_dz⟩, ⟨e_db__dx, e_db__dk, e_db__ds, e_db__dt, e_db__dn, e_db__dx1, e_db__dk1, e_db__dk2, e_db__ds1, e_db__da4, e_db__dv4, e_db__dc, e_db__dl, e_db__dz⟩, ⟨e_dx_dk, e_dx_ds, e_dx_dt, e_dx_dn, e_dx_dx1, e_dx_dk1, e_dx_dk2, e_dx_ds1, e_dx_da4, e_dx_dv4, e_dx_dc, e_dx_dl, e_dx_dz⟩, ⟨e_dk_ds, e_dk_dt, e_dk_dn, e_dk_dx1, e_dk_dk1, e_dk_dk2, e_dk_ds1, e_dk_da4, e_dk_dv4, e_dk_dc, e_dk_dl, e_dk_dz⟩, ⟨e_ds_dt, e_ds_dn, e_ds_dx1, e_ds_dk1, e_ds_dk2, e_ds_ds1, e_ds_da4, e_ds_dv4, e_ds_dc, e_ds_dl, e_ds_dz⟩, ⟨e_dt_dn, e_dt_dx1, e_dt_dk1, e_dt_dk2, e_dt_ds1, e_dt_da4, e_dt_dv4, e_dt_dc, e_dt_dl, e_dt_dz⟩, ⟨e_dn_dx1, e_dn_dk1, e_dn_dk2, e_dn_ds1, e_dn_da4, e_dn_dv4, e_dn_dc, e_dn_dl, e_dn_dz⟩, ⟨e_dx1_dk1, e_dx1_dk2, e_dx1_ds1, e_dx1_da4, e_dx1_dv4, e_dx1_dc, e_dx1_dl, e_dx1_dz⟩, ⟨e_dk1_dk2, e_dk1_ds1, e_dk1_da4, e_dk1_dv4, e_dk1_dc, e_dk1_dl, e_dk1_dz⟩, ⟨e_dk2_ds1, e_dk2_da4, e_dk2_dv4, e_dk2_dc, e_dk2_dl, e_dk2_dz⟩, ⟨e_ds1_da4, e_ds1_dv4, e_ds1_dc, e_ds1_dl, e_ds1_dz⟩, ⟨e_da4_dv4, e_da4_dc, e_da4_dl, e_da4_dz⟩, ⟨e_dv4_dc, e_dv4_dl, e_dv4_dz⟩, ⟨e_dc_dl, e_dc_dz⟩, e_dl_dz⟩ := hnd
  obtain ⟨s_dt, s_dn, s_dx1, s_dk1, s_dk2, s_ds1, s_da4, s_dv4, s_dc, s_dl, s_dz⟩ := hlt
  have hE : EyeAt w0 W.drew g L s := ⟨hE0.1.drew, below_drew hE0.2⟩
  have hB : W.drew.heap[b]? = some (.cells (nc n v).toArray 29 (0, 0)) := hB0
  have hV : VK W.drew ok v n.f3 := Kd.V_drew hV0
  refine start_ (n := 12) (S := fun w' => w'.heap[b]? = some (.cells (nc n v).toArray 29 (0, 0))) (ds := [11]) #[false, false, false, false, false, false, false, false, false, false, false, false] (by kernel_rfl) hsize rfl hB (fun hS2 => ?_)
  refine pure_ (i := 0) (N := some dt) (v := (.string tx)) #[true, false, false, false, false, false, false, false, false, false, false, false] h0 g0.2 hc.f0 (fun c a w => by rw [g0.2]; exact hQ _ _ c a w) (Or.inl ⟨by simp [Region.wanted, g0.1], run_move p0 ?_⟩) rfl ?_
  · rw [vts]
  refine take_ (i := 1) (N := some dn) (v := (.agg (nc n v).toArray)) #[true, true, false, false, false, false, false, false, false, false, false, false] h1 g1.2 hc.f1 (fun c a w => by rw [g1.2]; exact hQ _ _ c a w) (Or.inl ⟨by simp [Region.wanted, g1.1], fun w9 hw9 => run_load29 p1 ?_ hw9⟩) hS2 rfl ?_
  · rw [act_ne _ _ (Ne.symm e_db__dt), vb]
  refine pure_ (i := 2) (N := some dx1) (v := (eyeP g)) #[true, true, true, false, false, false, false, false, false, false, false, false] h2 g2.2 hc.f2 (fun c a w => by rw [g2.2]; exact hQ _ _ c a w) (Or.inl ⟨by simp [Region.wanted, g2.1], run_move p2 ?_⟩) rfl ?_
  · rw [act_ne _ _ (Ne.symm e_dx_dn), act_ne _ _ (Ne.symm e_dx_dt), vx]
  refine pure_ (i := 3) (N := some dk1) (v := (.int .i64 kk)) #[true, true, true, true, false, false, false, false, false, false, false, false] h3 g3.2 hc.f3 (fun c a w => by rw [g3.2]; exact hQ _ _ c a w) (Or.inl ⟨by simp [Region.wanted, g3.1], run_move p3 ?_⟩) rfl ?_
  · rw [act_ne _ _ (Ne.symm e_dk_dx1), act_ne _ _ (Ne.symm e_dk_dn), act_ne _ _ (Ne.symm e_dk_dt), vk]
  refine pure_ (i := 4) (N := some dk2) (v := (.int .i64 (wrap64 (kk + 1)))) #[true, true, true, true, true, false, false, false, false, false, false, false] h4 g4.2 hc.f4 (fun c a w => by rw [g4.2]; exact hQ _ _ c a w) (Or.inl ⟨by simp [Region.wanted, g4.1], run_add1 p4.1 p4.2 ?_⟩) rfl ?_
  · rw [act_same _ _ _ (by (try simp only [act_size]); rw [hsz]; exact s_dk1)]
  refine pure_ (i := 5) (N := some ds1) (v := (.bool bb)) #[true, true, true, true, true, true, false, false, false, false, false, false] h5 g5.2 hc.f5 (fun c a w => by rw [g5.2]; exact hQ _ _ c a w) (Or.inl ⟨by simp [Region.wanted, g5.1], run_move p5 ?_⟩) rfl ?_
  · rw [act_ne _ _ (Ne.symm e_ds_dk2), act_ne _ _ (Ne.symm e_ds_dk1), act_ne _ _ (Ne.symm e_ds_dx1), act_ne _ _ (Ne.symm e_ds_dn), act_ne _ _ (Ne.symm e_ds_dt), vs]
  refine pure_ (i := 8) (N := some da4) (v := (.pointer (some ⟨b, 4, none⟩))) #[true, true, true, true, true, true, false, false, true, false, false, false] h8 g8.2 hc.f6 (fun c a w => by rw [g8.2]; exact hQ _ _ c a w) (Or.inl ⟨by simp [Region.wanted, g8.1], run_field4 p8 ?_⟩) rfl ?_
  · rw [act_ne _ _ (Ne.symm e_db__ds1), act_ne _ _ (Ne.symm e_db__dk2), act_ne _ _ (Ne.symm e_db__dk1), act_ne _ _ (Ne.symm e_db__dx1), act_ne _ _ (Ne.symm e_db__dn), act_ne _ _ (Ne.symm e_db__dt), vb]
  refine take_ (i := 9) (N := some dv4) (v := (.int .i64 n.f4)) #[true, true, true, true, true, true, false, false, true, true, false, false] h9 g9.2 hc.f7 (fun c a w => by rw [g9.2]; exact hQ _ _ c a w) (Or.inl ⟨by simp [Region.wanted, g9.1], fun w9 hw9 => run_load3 p9 ?_ ((Mine.blk_cells hw9 4).trans rfl)⟩) hS2 rfl ?_
  · rw [act_same _ _ _ (by (try simp only [act_size]); rw [hsz]; exact s_da4)]
  refine YtdiadmlgeojefaaW.PrintLast.one_ (i := 6) (N := some dc) #[true, true, true, true, true, true, true, false, true, true, false, false] h6 g6.2 hc.f8 (by decide) (fun K hK => step_of g6.1 g6.2 ?_)
  refine goesL_ (some dc) g6.2 g6.1 hf hname hb #[eyeP g, .int .i64 (wrap64 (kk + 1)), .bool bb] p6 ?_ ?_
  · simp only [List.map_toArray, List.map_cons, List.map_nil]
    rw [act_ne _ _ (Ne.symm e_dx1_dv4), act_ne _ _ (Ne.symm e_dx1_da4), act_ne _ _ (Ne.symm e_dx1_ds1), act_ne _ _ (Ne.symm e_dx1_dk2), act_ne _ _ (Ne.symm e_dx1_dk1), act_same _ _ _ (by (try simp only [act_size]); rw [hsz]; exact s_dx1)]
    rw [act_ne _ _ (Ne.symm e_dk2_dv4), act_ne _ _ (Ne.symm e_dk2_da4), act_ne _ _ (Ne.symm e_dk2_ds1), act_same _ _ _ (by (try simp only [act_size]); rw [hsz]; exact s_dk2)]
    rw [act_ne _ _ (Ne.symm e_ds1_dv4), act_ne _ _ (Ne.symm e_ds1_da4), act_same _ _ _ (by (try simp only [act_size]); rw [hsz]; exact s_ds1)]
  refine (hcall W.drew hE).mono ?_
  rintro e W1 ⟨vT, rfl, hVT, hE1, hk⟩
  refine ⟨_, rfl, ?_⟩
  show K _ W1
  have hB1 := keep_blk hk hB hne
  refine hK _ _ hB1 (fun _ => ?_)
  have hV1 : VK W1 ok v n.f3 := Kd.V_keep hV hk (fun q hq => (hokg q hq).1)
  have hT1 : VK W1 ok vT T.f3 := Kd.V_mono hVT (fun q hq => hfr q hq)
  refine YtdiadmlgeojefaaW.PrintLast.one_ (i := 7) (N := some dl) #[true, true, true, true, true, true, true, true, true, true, false, false] h7 g7.2 hc.f9 (by decide) (fun K hK => step_of g7.1 g7.2 ?_)
  refine ev_kid2 g7.1 g7.2 (.tmp dn) (.tmp dc) p7 (S := n) (T := T) (u := v) (v := vT) (ok := ok) ?_ ?_ hV1 hT1 ?_
  · rw [act_ne _ _ (Ne.symm e_dn_dc), act_ne _ _ (Ne.symm e_dn_dv4), act_ne _ _ (Ne.symm e_dn_da4), act_ne _ _ (Ne.symm e_dn_ds1), act_ne _ _ (Ne.symm e_dn_dk2), act_ne _ _ (Ne.symm e_dn_dk1), act_ne _ _ (Ne.symm e_dn_dx1), act_same _ _ _ (by (try simp only [act_size]); rw [hsz]; exact s_dn)]
  · rw [act_same _ _ _ (by (try simp only [act_size]); rw [hsz]; exact s_dc)]
  intro z W3 hV3 hb3
  have hB3 := below_blk hb3 hB1
  show K _ W3
  rw [g7.2]
  refine hK _ _ hB3 (fun _ => ?_)
  refine pure_ (i := 10) (N := some dz) (v := .agg (nc (nd 20 tx 0 [n, T] n.f4) (.slice (some ⟨z, 0, none⟩) 2 2)).toArray) #[true, true, true, true, true, true, true, true, true, true, true, false] h10 g10.2 hc.f10 (fun c a w => by rw [g10.2]; exact hQ _ _ c a w) (Or.inl ⟨by simp [Region.wanted, g10.1], run_build20 p10 ?_ ?_ ?_⟩) rfl ?_
  · rw [act_ne _ _ (Ne.symm e_dt_dl), act_ne _ _ (Ne.symm e_dt_dc), act_ne _ _ (Ne.symm e_dt_dv4), act_ne _ _ (Ne.symm e_dt_da4), act_ne _ _ (Ne.symm e_dt_ds1), act_ne _ _ (Ne.symm e_dt_dk2), act_ne _ _ (Ne.symm e_dt_dk1), act_ne _ _ (Ne.symm e_dt_dx1), act_ne _ _ (Ne.symm e_dt_dn), act_same _ _ _ (by (try simp only [act_size]); rw [hsz]; exact s_dt)]
  · rw [act_same _ _ _ (by (try simp only [act_size]); rw [hsz]; exact s_dl)]
  · rw [act_ne _ _ (Ne.symm e_dv4_dl), act_ne _ _ (Ne.symm e_dv4_dc), act_same _ _ _ (by (try simp only [act_size]); rw [hsz]; exact s_dv4)]
  refine last_ (i := 11) (N := none) #[true, true, true, true, true, true, true, true, true, true, true, true] h11 g11.2 hc.f11 (by simp) (fun K hK => step_of g11.1 g11.2 ?_)
  refine ev_store29 g11.1 g11.2 (.tmp db_) (.tmp dz) p11 (b := b) (z := nd 20 tx 0 [n, T] n.f4) (v := .slice (some ⟨z, 0, none⟩) 2 2) ?_ ?_ hB3 rfl ?_
  · rw [act_ne _ _ (Ne.symm e_db__dz), act_ne _ _ (Ne.symm e_db__dl), act_ne _ _ (Ne.symm e_db__dc), act_ne _ _ (Ne.symm e_db__dv4), act_ne _ _ (Ne.symm e_db__da4), act_ne _ _ (Ne.symm e_db__ds1), act_ne _ _ (Ne.symm e_db__dk2), act_ne _ _ (Ne.symm e_db__dk1), act_ne _ _ (Ne.symm e_db__dx1), act_ne _ _ (Ne.symm e_db__dn), act_ne _ _ (Ne.symm e_db__dt), vb]
  · rw [act_same _ _ _ (by (try simp only [act_size]); rw [hsz]; exact s_dz)]
  intro W5 hB5 hg5 hz5
  have hok3 : ∀ q, ok q ∨ W1.heap.size ≤ q → ok q := fun q hq => hq.elim (fun h => h) (fun h => hfr q (Nat.le_trans hk.1 h))
  refine hK _ _ (done_ hc.f12 (hpost _ _ _ ((hE1.below hb3).grown hg5 hne hlo) hB5 (Kd.V_grown (Kd.V_mono hV3 hok3) hg5 (fun q hq e => by injection e with e; exact (hokg q hq).2 e)) ((RelG.below (RelG.keep (W := W.drew) hk) hb3).grown hg5 (.inr (.inl rfl)))))
end Go.Proofs.Ytdiadmlgeojefaa.A
namespace Go.Proofs.Ytdiadmlgeojefaa.A
open Go.RowKit Go.Proofs.YtdiadmlgeojefaaW.PrintWords Go.Proofs.YtdiadmlgeojefaaW.PrintLast Go.Proofs.YtdiadmlgeojefaaW.PrintMore
set_option linter.unusedVariables false
set_option linter.unusedSimpArgs false
set_option maxHeartbeats 4000000 in
set_option maxRecDepth 100000 in
theorem part_shows {k : Nat} {L : Toks} {m : Nat} (hR : ∀ m', m' ≤ m → Shows L (run k L m')) (kk : Int) (bb : Bool) (s : St) (T : S29) (s' : St) (h : part_ (run k L m) kk bb s = some (T, s')) : Gives 100 [.int .i64 kk, .bool bb] L s T s' := by
  intro w0 w g hE
  show Calls Try.prog 100 #[eyeP g, .int .i64 kk, .bool bb] w _
  have HE := aK hE
  have GL := aK hE.lt
  have HK := aK (KeepBut.refl w g none)
  clear hE
  unfold part_ at h
  by_cases c5 : kk = 5
  · rw [if_pos c5] at h
    have c6 : (kk == 5) = true := beq_iff_eq.2 c5
    clear c5
    have HS := aK (hR m (Nat.le_refl _))
    go_enter Try.func100, Try.ntmps100
    go_wp2_with (first
      | ((with_reducible refine gD 6 rfl ?_); refine ev_alloc29 rfl (N := 6) rfl rfl ?_; intro b1 hbn w1 hblk hbel; have GBb1 := aK (show w.heap.size ≤ b1 by have := HK.out.1; omega); replace HE := Zf HE hbel; replace HK := Zw HK hbel; have BXb1 := aK hblk; clear hblk hbel hbn)
      | ((with_reducible refine gD 13 rfl ?_); refine goesL_ (some 13) rfl rfl Try.func115 (by kernel_rfl) rfl #[eyeP g] rfl (mpT rfl) ?_; refine (HS.out.1 _ _ _ h _ _ _ HE.out).mono ?_; rintro e w1 ⟨v1, rfl, hv, he, hk⟩; refine ⟨_, rfl, ?_⟩; have hv2 := Kd.V_mono hv (ok' := fun q => w.heap.size ≤ q ∧ q ≠ b1) (fun q hq => by have h8 := hq; have h9 := HK.out.1; have h7b1 := blk_lt BXb1.out; refine ⟨?_, ?_⟩ <;> omega); clear hv; replace HE := aK (he); replace HK := Zk HK hk; replace BXb1 := Zb hk BXb1 GBb1 GL; have Vv1 := aK hv2; clear he hk hv2)
      | ((with_reducible refine gate_ (.store 29 (.tmp 6) (.tmp 13)) rfl ?_); refine ev_store29 rfl rfl (.tmp 6) (.tmp 13) rfl (b := b1) (z := T) (v := v1) rfl rfl BXb1.out (VK_one Vv1.out) ?_; intro w1 hblk hg hz; replace HE := Ze HE hg GBb1 GL; replace HK := Zx HK hg GBb1; replace BXb1 := aK (hblk); replace Vv1 := aK (Kd.V_grown Vv1.out hg (fun q hq e => by injection e with e; exact hq.2 e)); clear hblk hg hz))
    refine bodyPost_ret (results_cell_row rfl _ _ b1 29 (nc T v1).toArray _ _ rfl BXb1.out Try.underlying29 rfl info29s) rfl ?_
    exact ⟨v1, rfl, Kd.V_mono Vv1.out (fun q hq => hq.1), HE.out, HK.out⟩
  · rw [if_neg c5] at h
    have c6 : (kk == 5) = false := beq_eq_false_iff_ne.2 c5
    clear c5
    obtain ⟨⟨T1, s1⟩, h1, hr⟩ := Option.bind_eq_some_iff.1 h
    simp only at hr
    have HS := aK (hR m (Nat.le_refl _))
    go_enter Try.func100, Try.ntmps100
    go_wp2_with (first
      | ((with_reducible refine gD 6 rfl ?_); refine ev_alloc29 rfl (N := 6) rfl rfl ?_; intro b1 hbn w1 hblk hbel; have GBb1 := aK (show w.heap.size ≤ b1 by have := HK.out.1; omega); replace HE := Zf HE hbel; replace HK := Zw HK hbel; have BXb1 := aK hblk; clear hblk hbel hbn)
      | ((with_reducible refine gD 18 rfl ?_); refine goesL_ (some 18) rfl rfl Try.func100 (by kernel_rfl) rfl #[eyeP g, .int .i64 (wrap64 (kk + 1)), .bool bb] rfl (mpT rfl) ?_; refine (HS.out.2.1 _ _ _ _ _ h1 _ _ _ HE.out).mono ?_; rintro e w1 ⟨v1, rfl, hv, he, hk⟩; refine ⟨_, rfl, ?_⟩; have hv2 := Kd.V_mono hv (ok' := fun q => w.heap.size ≤ q ∧ q ≠ b1) (fun q hq => by have h8 := hq; have h9 := HK.out.1; have h7b1 := blk_lt BXb1.out; refine ⟨?_, ?_⟩ <;> omega); clear hv; replace HE := aK (he); replace HK := Zk HK hk; replace BXb1 := Zb hk BXb1 GBb1 GL; have Vv1 := aK hv2; clear he hk hv2)
      | ((with_reducible refine gD 7 rfl ?_); refine ev_alloc29 rfl (N := 7) rfl rfl ?_; intro b2 hbn w1 hblk hbel; have GBb2 := aK (show w.heap.size ≤ b2 by have := HK.out.1; omega); have LTb1b2 := aK (show b1 < b2 by have := blk_lt BXb1.out; omega); replace HE := Zf HE hbel; replace HK := Zw HK hbel; replace BXb1 := Zc hbel BXb1; replace Vv1 := aK (Kd.V_below (Kd.V_mono (Kd.V_elderB Vv1.out b2 (Nat.le_of_eq hbn.symm)) (ok' := fun q => w.heap.size ≤ q ∧ q ≠ b2 ∧ q ≠ b1) (fun q hq => ⟨hq.1.1, hq.2, hq.1.2⟩)) hbel); have BXb2 := aK hblk; clear hblk hbel hbn)
      | ((with_reducible refine gate_ (.store 29 (.tmp 7) (.tmp 18)) rfl ?_); refine ev_store29 rfl rfl (.tmp 7) (.tmp 18) rfl (b := b2) (z := T1) (v := v1) rfl rfl BXb2.out (VK_one Vv1.out) ?_; intro w1 hblk hg hz; replace HE := Ze HE hg GBb2 GL; replace HK := Zx HK hg GBb2; replace BXb1 := Zg hg BXb1 LTb1b2; replace BXb2 := aK (hblk); replace Vv1 := aK (Kd.V_grown Vv1.out hg (fun q hq e => by injection e with e; exact hq.2.1 e)); clear hblk hg hz))
    clear HS
    go_loopg [8] m (fun kq v8 w' => ∃ (c : Bool) (n : S29) (s : St) (v : Value), v8 = .bool c ∧ Aside0 ((c = true → run k L kq (.ploop kk bb n) s = some (T, s')) ∧ (c = false → n = T ∧ s = s')) ∧ Aside0 (kq ≤ m) ∧ Aside0 (EyeAt w0 w' g L s) ∧ Aside0 (KeepBut w w' g none) ∧ Aside0 (w'.heap[b1]? = some (.cells (nc z29 (.slice none 0 0)).toArray 29 (0, 0))) ∧ Aside0 (w'.heap[b2]? = some (.cells (nc n v).toArray 29 (0, 0))) ∧ Aside0 (VK w' (fun q => w.heap.size ≤ q ∧ q ≠ b2 ∧ q ≠ b1) v n.f3))
    case atStart => exact ⟨true, _, _, _, rfl, ⟨fun _ => hr, fun h => by cases h⟩, ⟨Nat.le_refl _⟩, HE, HK, BXb1, BXb2, Vv1⟩
    case round =>
      clear HE HK BXb1 BXb2 Vv1
      obtain ⟨c, n, s9, v, rfl, HC, LEN, HE, HK, BXb1, BXb2, VV⟩ := hrel
      cases c
      · obtain ⟨rfl, rfl⟩ := HC.out.2 rfl
        go_wp2_with (first
          | ((with_reducible refine gD 47 rfl ?_); refine ev_load29 rfl (N := 47) rfl (.tmp 7) rfl (b := b2) rfl BXb2.out ?_)
          | ((with_reducible refine gate_ (.store 29 (.tmp 6) (.tmp 47)) rfl ?_); refine ev_store29 rfl rfl (.tmp 6) (.tmp 47) rfl (b := b1) (z := n) (v := v) rfl rfl BXb1.out (VK_one VV.out) ?_; intro w1 hblk hg hz; replace HE := Ze HE hg GBb1 GL; replace HK := Zx HK hg GBb1; replace BXb1 := aK (hblk); replace BXb2 := Zh hg BXb2 LTb1b2; replace VV := aK (Kd.V_grown VV.out hg (fun q hq e => by injection e with e; exact hq.2.2 e)); clear hblk hg hz))
        refine bodyPost_ret (results_cell_row rfl _ _ b1 29 (nc n v).toArray _ _ rfl BXb1.out Try.underlying29 rfl info29s) rfl ?_
        exact ⟨v, rfl, Kd.V_mono VV.out (fun q hq => hq.1), HE.out, HK.out⟩
      · obtain ⟨kq, rfl⟩ : ∃ q, gk = q + 1 := by
          cases gk with
          | zero => exact absurd (HC.out.1 rfl) (by simp [run])
          | succ q => exact ⟨q, rfl⟩
        have hrun : ploop_ k L (run k L kq) kk bb n s9 = some (T, s') := HC.out.1 rfl
        clear HC
        have HS := aK (hR kq (by have := LEN.out; omega))
        obtain ⟨⟨tx, s10⟩, hsee, hrun1⟩ := Option.bind_eq_some_iff.1 hrun
        obtain ⟨lv, hlv, hrun2⟩ := Option.bind_eq_some_iff.1 hrun1
        obtain ⟨bi, hin, hrun3⟩ := Option.bind_eq_some_iff.1 hrun2
        clear hrun hrun1 hrun2
        simp only at hrun3
        cases bi
        · simp only [Bool.false_eq_true, if_false, Option.some.injEq, Prod.mk.injEq] at hrun3
          obtain ⟨rfl, rfl⟩ := hrun3
          go_wp2_with (first
            | ((with_reducible refine gD 21 rfl ?_); refine goesL_ (some 21) rfl rfl Try.func57 (by kernel_rfl) rfl #[eyeP g] rfl (mpT rfl) ?_; refine (eSee_calls hsee HE.out).mono ?_; rintro e w1 ⟨rfl, he, hk⟩; refine ⟨_, rfl, ?_⟩; replace HE := aK (he); replace HK := Zk HK hk; replace BXb1 := Zb hk BXb1 GBb1 GL; replace BXb2 := Zb hk BXb2 GBb2 GL; replace VV := aK (Kd.V_keep VV.out hk (fun q hq e => by have h9 : w.heap.size ≤ q := hq.1; have := GL.out; omega)); clear he hk)
            | ((with_reducible refine gD 24 rfl ?_); refine goesL_ (some 24) rfl rfl Try.func116 (by kernel_rfl) rfl #[.int .i64 kk, .bool bb] rfl (mpT rfl) ?_; refine (podestaref15_level.calls kk bb lv _ hlv).mono ?_; rintro e w1 ⟨vl, rfl, hRl, hbel⟩; refine ⟨_, rfl, ?_⟩; have hVl := Kd.R_V (base' := 0) hRl; obtain ⟨Al, cl, el⟩ := Kd.V_slice hVl; subst el; have HLV := aK (Kd.V_reads' hVl); clear hRl hVl; replace HE := Zf HE hbel; replace HK := Zw HK hbel; replace BXb1 := Zc hbel BXb1; replace BXb2 := Zc hbel BXb2; replace VV := aK (Kd.V_below VV.out hbel); clear hbel)
            | ((with_reducible refine gD 26 rfl ?_); refine goesL_ (some 26) rfl rfl Try.func66 (by kernel_rfl) rfl #[.slice Al lv.length cl, .string tx] rfl (mpT rfl) ?_; refine (podestaref15_in.calls k Al cl lv tx false _ HLV.out.2.2 HLV.out.2.1 hin).mono ?_; rintro e w1 ⟨rfl, hd9⟩; refine ⟨_, rfl, ?_⟩; have hbel := hd9.below; clear hd9 HLV; replace HE := Zf HE hbel; replace HK := Zw HK hbel; replace BXb1 := Zc hbel BXb1; replace BXb2 := Zc hbel BXb2; replace VV := aK (Kd.V_below VV.out hbel); clear hbel))
          try go_wp2
          go_roundg kq
          case rel => exact ⟨false, n, s10, v, rfl, ⟨fun h => (by cases h), fun _ => ⟨rfl, rfl⟩⟩, ⟨by have := LEN.out; omega⟩, HE, HK, BXb1, BXb2, VV⟩
          case measure => omega
        · simp only [if_true] at hrun3
          obtain ⟨⟨r1, s11⟩, hp, hrun⟩ := Option.bind_eq_some_iff.1 hrun3
          clear hrun3
          simp only at hrun
          have HRUN := aK hrun
          clear hrun
          go_wp2_with (first
            | ((with_reducible refine gD 21 rfl ?_); refine goesL_ (some 21) rfl rfl Try.func57 (by kernel_rfl) rfl #[eyeP g] rfl (mpT rfl) ?_; refine (eSee_calls hsee HE.out).mono ?_; rintro e w1 ⟨rfl, he, hk⟩; refine ⟨_, rfl, ?_⟩; replace HE := aK (he); replace HK := Zk HK hk; replace BXb1 := Zb hk BXb1 GBb1 GL; replace BXb2 := Zb hk BXb2 GBb2 GL; replace VV := aK (Kd.V_keep VV.out hk (fun q hq e => by have h9 : w.heap.size ≤ q := hq.1; have := GL.out; omega)); clear he hk)
            | ((with_reducible refine gD 24 rfl ?_); refine goesL_ (some 24) rfl rfl Try.func116 (by kernel_rfl) rfl #[.int .i64 kk, .bool bb] rfl (mpT rfl) ?_; refine (podestaref15_level.calls kk bb lv _ hlv).mono ?_; rintro e w1 ⟨vl, rfl, hRl, hbel⟩; refine ⟨_, rfl, ?_⟩; have hVl := Kd.R_V (base' := 0) hRl; obtain ⟨Al, cl, el⟩ := Kd.V_slice hVl; subst el; have HLV := aK (Kd.V_reads' hVl); clear hRl hVl; replace HE := Zf HE hbel; replace HK := Zw HK hbel; replace BXb1 := Zc hbel BXb1; replace BXb2 := Zc hbel BXb2; replace VV := aK (Kd.V_below VV.out hbel); clear hbel)
            | ((with_reducible refine gD 26 rfl ?_); refine goesL_ (some 26) rfl rfl Try.func66 (by kernel_rfl) rfl #[.slice Al lv.length cl, .string tx] rfl (mpT rfl) ?_; refine (podestaref15_in.calls k Al cl lv tx true _ HLV.out.2.2 HLV.out.2.1 hin).mono ?_; rintro e w1 ⟨rfl, hd9⟩; refine ⟨_, rfl, ?_⟩; have hbel := hd9.below; clear hd9 HLV; replace HE := Zf HE hbel; replace HK := Zw HK hbel; replace BXb1 := Zc hbel BXb1; replace BXb2 := Zc hbel BXb2; replace VV := aK (Kd.V_below VV.out hbel); clear hbel)
            | ((with_reducible refine gD 30 rfl ?_); refine ev_cell rfl (N := 30) rfl 3 (.tmp 29) rfl ⟨g, 1, none⟩ rfl _ _ HE.out.c1 Try.underlying3 rfl ?_)
            | ((with_reducible refine gate_ (.store 3 (.tmp 33) (.tmp 31)) rfl ?_); refine ev_eye1 rfl rfl (.tmp 33) (.tmp 31) rfl (_) rfl rfl HE.out ?_; intro w1 he hg hz; replace HE := aK (he); replace HK := aK (keep_grown HK.out hg (.inr rfl)); replace BXb1 := aK (grown_blk hg BXb1.out (by have := GBb1.out; have := GL.out; omega)); replace BXb2 := aK (grown_blk hg BXb2.out (by have := GBb2.out; have := GL.out; omega)); replace VV := aK (Kd.V_grown VV.out hg (fun q hq e => by injection e with e; have h9 : w.heap.size ≤ q := hq.1; have := GL.out; omega)); clear he hg hz))
          refine app_E (ok := fun q => w.heap.size ≤ q ∧ q ≠ b2 ∧ q ≠ b1) HE.out BXb2.out VV.out (by have := GBb2.out; have := GL.out; omega) (fun q hq => by have h9 : w.heap.size ≤ q := hq.1; have := GL.out; exact ⟨by omega, hq.2.1⟩) (fun q hq => by have h9 := HK.out.1; have h7 := blk_lt BXb1.out; have h8 := blk_lt BXb2.out; exact ⟨by omega, by omega, by omega⟩) (by have := GBb2.out; have := GL.out; have := HE.out.ge; omega)
            34 35 36 37 38 39 42 43 40 41 44 9 7 0 1 2 rfl rfl rfl rfl rfl rfl rfl rfl rfl rfl rfl rfl rfl ⟨rfl, rfl⟩ ⟨rfl, rfl⟩ ⟨rfl, rfl⟩ ⟨rfl, rfl⟩ ⟨rfl, rfl⟩ ⟨rfl, rfl⟩ ⟨rfl, rfl⟩ ⟨rfl, rfl⟩ ⟨rfl, rfl⟩ ⟨rfl, rfl⟩ ⟨rfl, rfl⟩ ⟨rfl, rfl⟩ rfl rfl rfl rfl ⟨rfl, rfl⟩ rfl rfl rfl Try.func100 (by kernel_rfl) rfl rfl rfl rfl rfl 48 rfl (by decide) (by decide) rfl rfl rfl rfl rfl (by constructor <;> kernel_rfl) (fun _ _ _ _ _ h => h) (fun W1 hE1 => HS.out.2.1 _ _ _ _ _ hp w0 W1 g hE1) ?_
          intro vT v1 W1 hE9 hB9 hV9 hR9
          simp only [Act.put, List.setIfInBounds_toArray, List.set_cons_zero, List.set_cons_succ]
          have n1 := aK (keep_chain HK.out hR9 GBb2.out (fun q h => by cases h))
          have n2 := aK ((hR9.2 b1 (blk_lt BXb1.out) (by have := GBb1.out; have := GL.out; omega) (by have := LTb1b2.out; omega) (by simp)).trans BXb1.out)
          clear HE HK BXb1 BXb2 VV hR9
          have HE := aK hE9
          have HK := n1
          have BXb1 := n2
          have BXb2 := aK hB9
          have VV := aK hV9
          clear n1 n2 hE9 hB9 hV9
          have hrun := HRUN.out
          clear HRUN
          by_cases c2 : kk = 2
          · rw [if_pos c2] at hrun
            have c7 : (kk == 2) = true := beq_iff_eq.2 c2
            have c8 : (kk != 2) = false := bne_eq_false_iff_eq.2 c2
            simp only [Option.some.injEq, Prod.mk.injEq] at hrun
            obtain ⟨rfl, rfl⟩ := hrun
            go_wp2
            go_roundg kq
            case rel => exact ⟨false, _, _, v1, rfl, ⟨fun h => (by cases h), fun _ => ⟨rfl, rfl⟩⟩, ⟨by have := LEN.out; omega⟩, HE, HK, BXb1, BXb2, VV⟩
            case measure => omega
          · rw [if_neg c2] at hrun
            have c7 : (kk == 2) = false := beq_eq_false_iff_ne.2 c2
            have c8 : (kk != 2) = true := bne_iff_ne.2 c2
            go_wp2
            go_roundg kq
            case rel => exact ⟨true, _, _, v1, rfl, ⟨fun _ => hrun, fun h => (by cases h)⟩, ⟨by have := LEN.out; omega⟩, HE, HK, BXb1, BXb2, VV⟩
            case measure => omega
end Go.Proofs.Ytdiadmlgeojefaa.A
