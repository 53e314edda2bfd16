/- What is read as data is a kind's value in memory: whole numbers, strings, structs, arrays, slices. -/
import Derived.Test.YtkmodkjjboeoeaaWMore
import Derived.OpenShut
import Derived.SizedLaws
namespace Go.Proofs.Ytkmodkjjboeoeaa.Reading
open Go.RowKit Go.Proofs.YtkmodkjjboeoeaaW.PrintWords Go.Proofs.YtkmodkjjboeoeaaW.PrintLast Go.Proofs.YtkmodkjjboeoeaaW.PrintMore
set_option linter.unusedVariables false
/-- Whatever reads as data of type t is a value of kind d; Bd: what its weights bound. -/
def ReadsB {α : Type} (P : Program) (t : TypeId) (d : Kd α) (Bd : Nat → α → Prop) : Prop :=
  ∀ (H : Type) (enc : TypeId × Value → H) (W : World) (spare : Nat → Bool) (held : Bool) (fuel : Nat) (cs : List Value) (x : DataW H × List MemPlace),
    DataW.trod enc P W 0 spare held fuel t cs = some x → ∃ y, d.K W y cs ∧ ∀ B, (∀ n ∈ x.1.weights P t, n ≤ B) → Bd B y
/-- Fields, one behind the other. -/
def FieldsB {α : Type} (P : Program) (ts : List (TypeId × Nat)) (off : Nat) (d : Kd α) (Bd : Nat → α → Prop) : Prop :=
  ∀ (H : Type) (enc : TypeId × Value → H) (W : World) (spare : Nat → Bool) (held : Bool) (fuel : Nat) (cs : List Value) (xs : List (DataW H × List MemPlace)),
    cs.length = off + d.sz → xs.length = ts.length → (∀ (i : Nat) (f : TypeId × Nat), ts[i]? = some f → DataW.trod enc P W 0 spare held fuel f.1 ((cs.drop f.2).take (P.cellsOf f.1)) = xs[i]?) →
      ∃ y, d.K W y (cs.drop off) ∧ ∀ B, (∀ n ∈ DataW.weightsEach P (ts.map (·.1)) (xs.map (·.1)), n ≤ B) → Bd B y
section
variable {P : Program}
theorem reads_int (t : TypeId) (k : IntKind) (ht : P.underlying t = some (.int k)) : ReadsB P t (Kd.int k) (fun _ n => (Lit.int k n).wf = true) := by
  intro H enc W spare held fuel cs x h
  obtain ⟨n, rfl, rfl, hw⟩ := DataW.trod_int ht h
  exact ⟨n, rfl, fun _ _ => hw⟩
theorem reads_string (t : TypeId) (ht : P.underlying t = some .string) : ReadsB P t Kd.string (fun B s => s.size ≤ B) := by
  intro H enc W spare held fuel cs x h
  obtain ⟨s, rfl, rfl, hw⟩ := DataW.trod_string ht h
  refine ⟨s, rfl, fun B hB => ?_⟩
  have := hB s.data.toList.length (by simp [DataW.weights])
  simpa using this
theorem fields_one {α : Type} {t off : Nat} {d : Kd α} {Bd : Nat → α → Prop} (h : ReadsB P t d Bd) (hs : P.cellsOf t = d.sz) : FieldsB P [(t, off)] off d Bd := by
  intro H enc W spare held fuel cs xs hl hx hf
  have h0 := hf 0 (t, off) rfl
  match xs, hx with
  | [x], _ =>
    simp only [List.getElem?_cons_zero] at h0
    rw [hs, List.take_of_length_le (by rw [List.length_drop]; omega)] at h0
    obtain ⟨y, hy, hb⟩ := h H enc W spare held fuel _ x h0
    exact ⟨y, hy, fun B hB => hb B (fun n hn => hB n (by simp [DataW.weightsEach, hn]))⟩
theorem fields_cons {α β : Type} {t off : Nat} {ts : List (TypeId × Nat)} {d : Kd α} {d' : Kd β} {Bd : Nat → α → Prop} {Bd' : Nat → β → Prop} (h : ReadsB P t d Bd) (hs : P.cellsOf t = d.sz) (h' : FieldsB P ts (off + d.sz) d' Bd') :
    FieldsB P ((t, off) :: ts) off (Kd.pair d d') (fun B p => Bd B p.1 ∧ Bd' B p.2) := by
  intro H enc W spare held fuel cs xs hl hx hf
  have hl' : cs.length = off + (d.sz + d'.sz) := hl
  have h0 := hf 0 (t, off) rfl
  match xs, hx with
  | x :: xs, hx =>
    simp only [List.getElem?_cons_zero] at h0
    rw [hs] at h0
    obtain ⟨y, hy, hb⟩ := h H enc W spare held fuel _ x h0
    obtain ⟨z, hz, hc⟩ := h' H enc W spare held fuel cs xs (by omega) (by simpa using hx) (fun i f hi => by have := hf (i + 1) f (by simpa using hi); simpa using this)
    refine ⟨(y, z), ⟨(cs.drop off).take d.sz, cs.drop (off + d.sz), ?_, hy, hz⟩, fun B hB => ⟨hb B fun n hn => hB n (by simp [DataW.weightsEach, hn]), hc B fun n hn => hB n (by simp only [List.map_cons, DataW.weightsEach, List.mem_append]; exact .inr hn)⟩⟩
    rw [← List.drop_drop, List.take_append_drop]
theorem reads_struct {α β : Type} (t : TypeId) {fs : Array Field} (ht : P.underlying t = some (.struct fs)) {ts : List (TypeId × Nat)} (hts : fs.toList.map (fun f => (f.type, f.offset)) = ts) {d : Kd α} {Bd : Nat → α → Prop} (f : β → α) (g : α → β) (hfg : ∀ a, f (g a) = a) (hs : P.cellsOf t = d.sz) (h : FieldsB P ts 0 d Bd) : ReadsB P t (Kd.iso d f) (fun B y => Bd B (f y)) := by
  intro H enc W spare held fuel cs x hx
  obtain ⟨xs, n, rfl, rfl, hl, hxl, hf⟩ := DataW.trod_struct ht hx
  subst hts
  obtain ⟨y, hy, hb⟩ := h H enc W spare held n cs xs (by omega) (by simpa using hxl) (fun i p hp => by
    rw [List.getElem?_map] at hp
    obtain ⟨q, hq, rfl⟩ := Option.map_eq_some_iff.1 hp
    exact hf i q (by simpa using hq))
  refine ⟨g y, ?_, fun B hB => ?_⟩
  · show d.K W (f (g y)) cs
    rw [hfg]
    simpa using hy
  · show Bd B (f (g y))
    rw [hfg]
    exact hb B (fun m hm => hB m (by simpa [DataW.weights, ht, List.map_map, Function.comp_def] using hm))
theorem weights_all {H : Type} (e : TypeId) : ∀ ds : List (DataW H), DataW.weightsAll P e ds = DataW.weightsEach P (List.replicate ds.length e) ds
  | [] => by simp [DataW.weightsAll, DataW.weightsEach]
  | d :: r => by simp [DataW.weightsAll, DataW.weightsEach, List.replicate_succ, weights_all e r]
theorem reads_array {α β : Type} (t e n : Nat) (ht : P.underlying t = some (.array n e)) {d : Kd α} {Bd : Nat → α → Prop} (f : β → α) (g : α → β) (hfg : ∀ a, f (g a) = a) (hs : P.cellsOf t = d.sz) {ts : List (TypeId × Nat)} (hts : (List.range n).map (fun i => (e, i * P.cellsOf e)) = ts) (h : FieldsB P ts 0 d Bd) : ReadsB P t (Kd.iso d f) (fun B y => Bd B (f y)) := by
  intro H enc W spare held fuel cs x hx
  obtain ⟨xs, m, rfl, rfl, hl, hxl, hf⟩ := DataW.trod_array ht hx
  subst hts
  obtain ⟨y, hy, hb⟩ := h H enc W spare held m cs xs (by omega) (by simpa using hxl) (fun i p hp => by
    rw [List.getElem?_map] at hp
    obtain ⟨q, hq, rfl⟩ := Option.map_eq_some_iff.1 hp
    obtain ⟨hq1, hq2⟩ := List.getElem?_eq_some_iff.1 hq
    rw [List.getElem_range] at hq2
    subst hq2
    exact hf i (by simpa using hq1))
  refine ⟨g y, ?_, fun B hB => ?_⟩
  · show d.K W (f (g y)) cs
    rw [hfg]
    simpa using hy
  · show Bd B (f (g y))
    rw [hfg]
    refine hb B (fun q hq => hB q ?_)
    have e1 : ((List.range n).map (fun i => (e, i * P.cellsOf e))).map (·.1) = List.replicate n e := by
      apply List.ext_getElem?
      intro i
      by_cases hi : i < n <;> simp [hi]
    rw [e1] at hq
    simp only [DataW.weights, ht]
    rw [weights_all, List.length_map, hxl]
    exact hq
theorem list_of {α : Type} {p : Nat → α → Prop} : ∀ (n : Nat), (∀ i, i < n → ∃ y, p i y) → ∃ ys : List α, ys.length = n ∧ ∀ i y, ys[i]? = some y → p i y
  | 0, _ => ⟨[], rfl, fun i y h => by simp at h⟩
  | n + 1, h => by
    obtain ⟨ys, hl, hy⟩ := list_of n (fun i hi => h i (by omega))
    obtain ⟨y, hn⟩ := h n (by omega)
    refine ⟨ys ++ [y], by simp [hl], fun i z hz => ?_⟩
    by_cases hi : i < n
    · rw [List.getElem?_append_left (by omega)] at hz
      exact hy i z hz
    · rw [List.getElem?_append_right (by omega)] at hz
      have : i = n := by
        have := (List.getElem?_eq_some_iff.1 hz).1
        simp at this
        omega
      subst this
      simp [hl] at hz
      exact hz ▸ hn
theorem weights_mem_all {H : Type} {e : TypeId} {d : DataW H} {n : Nat} (hn : n ∈ d.weights P e) : ∀ ds : List (DataW H), d ∈ ds → n ∈ DataW.weightsAll P e ds
  | [], h => by cases h
  | d' :: r, h => by
    simp only [DataW.weightsAll, List.mem_append]
    rcases List.mem_cons.1 h with rfl | h
    · exact .inl hn
    · exact .inr (weights_mem_all hn r h)
theorem reads_slice {α : Type} (t e bytes : Nat) (ht : P.underlying t = some (.slice e)) {d : Kd α} {Bd : Nat → α → Prop} (hs : P.cellsOf e = d.sz) (hb : P.bytesOf e = bytes) (h : ReadsB P e d Bd) : ReadsB P t (Kd.slice e d) (fun B ys => ys.length * bytes ≤ B ∧ ∀ y ∈ ys, Bd B y) := by
  intro H enc W spare held fuel cs x hx
  rcases DataW.trod_slice ht hx with ⟨rfl, rfl⟩ | ⟨a, len, cap, elems, rest, n, rfl, rfl, rfl, _, hlc, hcm, hel, hel2, _, _⟩
  · exact ⟨[], ⟨none, 0, rfl, Nat.le_refl _, Kd.C_nil _ _⟩, fun B _ => ⟨by simp, fun y hy => by cases hy⟩⟩
  · have key : ∀ i, i < len → ∃ y, ∃ c, c.length = d.sz ∧ d.K W y c ∧ (∀ j u, c[j]? = some u → W.cell? (a.add (i * d.sz + j)) = some u) ∧ ∀ B, (∀ m ∈ DataW.weightsAll P e (elems.map (·.1)), m ≤ B) → Bd B y := by
      intro i hi
      have h1 := hel2 i hi
      rw [List.getElem?_eq_getElem (by omega)] at h1
      obtain ⟨c, hc, htr⟩ := Option.bind_eq_some_iff.1 h1
      obtain ⟨y, hy, hyb⟩ := h H enc W spare held n c _ htr
      obtain ⟨_, hcl, hcc⟩ := World.cells?_some hc
      refine ⟨y, c, by omega, hy, fun j u hu => ?_, fun B hB => hyb B (fun m hm => hB m (weights_mem_all hm _ (List.mem_map_of_mem (List.getElem_mem (by omega)))))⟩
      have hj : j < P.cellsOf e := by have := (List.getElem?_eq_some_iff.1 hu).1; omega
      have := hcc j hj
      rw [hu, hs] at this
      have e2 : (a.add (i * d.sz)).add j = a.add (i * d.sz + j) := by
        unfold Addr.add
        by_cases h1 : i * d.sz = 0 <;> by_cases h2 : j = 0 <;> simp [h1, h2, Nat.add_assoc]
      rwa [e2] at this
    obtain ⟨ys, hyl, hys⟩ := list_of len key
    subst hyl
    refine ⟨ys, ⟨some a, cap, rfl, hlc, rfl, by unfold maxLen at hcm; omega, fun _ => ⟨a, rfl, fun j p hp => ?_⟩⟩, fun B hB => ⟨?_, fun y hy => ?_⟩⟩
    · obtain ⟨c, h1, h2, h3, _⟩ := hys j p hp
      exact ⟨c, h1, h2, h3⟩
    · have := hB ((elems.length + rest.length) * P.bytesOf e) (by simp [DataW.weights, ht])
      rw [hb] at this
      exact Nat.le_trans (Nat.mul_le_mul_right _ (by omega)) this
    · obtain ⟨j, hj, rfl⟩ := List.mem_iff_getElem.1 hy
      obtain ⟨c, _, _, _, h4⟩ := hys j _ (List.getElem?_eq_getElem hj)
      exact h4 B (fun m hm => hB m (by simp only [DataW.weights, ht]; simp [hm]))
end
end Go.Proofs.Ytkmodkjjboeoeaa.Reading
