/- Flow, nineteenth part: arguments of any type opened, with what their weights allow. Own work; plain theorems. -/
import Derived.Test.YtheaipbnbnjlgaaFlowT
namespace Go.Proofs.Ytheaipbnbnjlgaa.Flow
open Go.RowKit Go.Proofs.YtheaipbnbnjlgaaW.PrintWords Go.Proofs.YtheaipbnbnjlgaaW.PrintLast Go.Proofs.YtheaipbnbnjlgaaW.PrintMore
open Go.ChangeShapes Go.WideShapes Go.ChangeAt Go.Deep
set_option linter.unusedVariables false
set_option linter.unusedSimpArgs false
section
variable {H : Type} {enc : TypeId × Value → H} {P : Program} {W : World}
/-- All weights are within reach. -/
def Light (P : Program) (t : TypeId) (d : DataW H) : Prop := ∀ n ∈ d.weights P t, n ≤ reachBytes
theorem light_arg {ts : List TypeId} {ds : List (DataW H)} {j : Nat} {t : TypeId} {d : DataW H} (hsz : (DataW.weightsEach P ts ds).all (· ≤ reachBytes) = true) (ht : ts[j]? = some t) (hd : ds[j]? = some d) : Light P t d := fun n hn => by
  have h := List.all_eq_true.1 hsz n (DataW.weights_mem_each ht hd n hn)
  simpa using h
theorem weights_all_mem {e : TypeId} : ∀ {l : List (DataW H)} {d : DataW H}, d ∈ l → ∀ n ∈ d.weights P e, n ∈ DataW.weightsAll P e l
  | [], _, h, _, _ => by cases h
  | d0 :: l, d, h, n, hn => by
    simp only [DataW.weightsAll, List.mem_append]
    rcases List.mem_cons.1 h with rfl | h
    · exact .inl hn
    · exact .inr (weights_all_mem h n hn)
def OpW (enc : TypeId × Value → H) (P : Program) (W : World) {α : Type} (t : TypeId) (d : Kd α) (ok : α → Prop) : Prop :=
  ∀ (m : Nat) (cs : List Value) (y : DataW H × List MemPlace), DataW.trod enc P W 0 (fun _ => true) true m t cs = some y → Light P t y.1 → ∃ x, d.K W x cs ∧ ok x
theorem Opn.w {α : Type} {t : TypeId} {d : Kd α} {ok : α → Prop} (h : Opn enc P W t d ok) : OpW enc P W t d ok := fun m cs y hy _ => h m cs y hy
theorem OpW.as {α β : Type} {t : TypeId} {d : Kd α} {d' : Kd β} {ok : α → Prop} {ok' : β → Prop} (h : OpW enc P W t d ok) (f : α → β) (hk : ∀ x cs, d.K W x cs → d'.K W (f x) cs) (hi : ∀ x, ok x → ok' (f x)) : OpW enc P W t d' ok' := fun m cs y hy hl => by
  obtain ⟨x, h1, h2⟩ := h m cs y hy hl
  exact ⟨f x, hk _ _ h1, hi x h2⟩
theorem opw_string {t : TypeId} (hu : P.underlying t = some .string) : OpW enc P W t Kd.string (fun s => s.size ≤ 140737488351232) := fun m cs y h hl => by
  obtain ⟨x, hx, hy, hw⟩ := DataW.trod_string hu h
  subst hy
  have := hl x.data.toList.length (by simp [DataW.weights])
  refine ⟨x, hx, ?_⟩
  simp [reachBytes] at this
  exact this
theorem opw_slice {α : Type} {t e : TypeId} {d : Kd α} {ok : α → Prop} (ht : P.underlying t = some (.slice e)) (hsz : P.cellsOf e = d.sz) (hB : 1 ≤ P.bytesOf e) (z : α) (he : OpW enc P W e d ok) : OpW enc P W t (Kd.slice e d) (fun xs => xs.length ≤ 140737488351232 ∧ ∀ x ∈ xs, ok x) := fun m cs y h hL => by
  rcases open_slice ht h with ⟨rfl, _⟩ | ⟨a, len, cap, m2, n, D, Pl, rfl, _, hl, hm, hmm, hy, hx⟩
  · exact ⟨[], ⟨none, 0, rfl, Nat.le_refl _, ⟨rfl, by simp, fun h => absurd h (by simp)⟩⟩, by simp, fun x hx => by cases hx⟩
  · simp only [if_true] at hmm
    subst hy
    have hw : len * 1 ≤ 140737488351232 := by
      have h1 := hL ((((List.range len).map D).length + ((List.range (m2 - len)).map fun j => D (len + j)).length) * P.bytesOf e) (by simp [DataW.weights, ht])
      simp only [List.length_map, List.length_range] at h1
      exact Nat.le_trans (Nat.mul_le_mul (by omega) hB) h1
    have each : ∀ i, i < len → ∃ x : α, ok x ∧ ∃ c, c.length = d.sz ∧ d.K W x c ∧ ∀ j u, c[j]? = some u → W.cell? (a.add (i * d.sz + j)) = some u := fun i hi => by
      obtain ⟨cs', h1, h2⟩ := hx i (by omega)
      obtain ⟨x, h3, h4⟩ := he _ _ _ h2 (fun n hn => hL n (by
        simp only [DataW.weights, ht, List.mem_cons, List.mem_append]
        exact .inr (.inl (weights_all_mem (List.mem_map.2 ⟨i, List.mem_range.2 hi, rfl⟩) n hn))))
      rw [hsz] at h1
      refine ⟨x, h4, cs', d.K_len h3, h3, fun j u hu => ?_⟩
      obtain ⟨_, hlen, hc⟩ := World.cells?_some h1
      rw [← Go.Deep.add_add]
      exact (hc j (by rw [← hlen]; exact (List.getElem?_eq_some_iff.1 hu).1)).trans hu
    have each2 : ∀ i, ∃ x : α, i < len → ok x ∧ ∃ c, c.length = d.sz ∧ d.K W x c ∧ ∀ j u, c[j]? = some u → W.cell? (a.add (i * d.sz + j)) = some u := fun i => by
      by_cases hi : i < len
      · obtain ⟨x, hx⟩ := each i hi
        exact ⟨x, fun _ => hx⟩
      · exact ⟨z, fun h => absurd h hi⟩
    obtain ⟨f, hf⟩ := Classical.skolem.1 each2
    have hlen : ((List.range len).map f).length = len := by simp
    refine ⟨(List.range len).map f, ⟨some a, cap, by rw [hlen], by omega, ⟨rfl, ?_, fun hn => ⟨a, rfl, fun j p hj => ?_⟩⟩⟩, by rw [hlen]; omega, fun x hx => ?_⟩
    · rw [hlen]
      omega
    · obtain ⟨hl2, hp⟩ := List.getElem?_eq_some_iff.1 hj
      rw [hlen] at hl2
      rw [List.getElem_map, List.getElem_range] at hp
      subst hp
      exact (hf j hl2).2
    · obtain ⟨i, hi, rfl⟩ := List.mem_map.1 hx
      exact (hf i (List.mem_range.1 hi)).1
theorem opwAt_last {α : Type} {t : TypeId} {d : Kd α} {ok : α → Prop} {cs : List Value} {a n : Nat} {y : DataW H × List MemPlace} (h : OpW enc P W t d ok) (hc : P.cellsOf t = d.sz) (hl : cs.length = a + d.sz) (hf : DataW.trod enc P W 0 (fun _ => true) true n t ((cs.drop a).take (P.cellsOf t)) = some y) (hL : Light P t y.1) : OpnAt enc P W cs a d ok := by
  obtain ⟨x, h1, h2⟩ := h _ _ _ hf hL
  rw [hc, take_all cs a d.sz hl] at h1
  exact ⟨x, h1, h2⟩
theorem opwAt_cons {α β : Type} {t : TypeId} {d : Kd α} {d2 : Kd β} {ok : α → Prop} {ok2 : β → Prop} {cs : List Value} {a b n : Nat} {y : DataW H × List MemPlace} (h : OpW enc P W t d ok) (hc : P.cellsOf t = d.sz) (hb : b = a + d.sz) (hf : DataW.trod enc P W 0 (fun _ => true) true n t ((cs.drop a).take (P.cellsOf t)) = some y) (hL : Light P t y.1) (hr : OpnAt enc P W cs b d2 ok2) : OpnAt enc P W cs a (Kd.pair d d2) (fun x => ok x.1 ∧ ok2 x.2) := by
  obtain ⟨x, h1, h2⟩ := h _ _ _ hf hL
  obtain ⟨x2, h3, h4⟩ := hr
  subst hb
  rw [hc] at h1
  exact ⟨(x, x2), ⟨_, _, split_at cs a d.sz, h1, h3⟩, h2, h4⟩
theorem opw_struct {α : Type} {t : TypeId} {fs : Array Field} {d : Kd α} {ok : α → Prop} (ht : P.underlying t = some (.struct fs)) (hf : ∀ (n : Nat) (cs : List Value) (ys : List (DataW H × List MemPlace)), cs.length = P.cellsOf t → (∀ (j : Nat) (f : Field), fs[j]? = some f → DataW.trod enc P W 0 (fun _ => true) true n f.type ((cs.drop f.offset).take (P.cellsOf f.type)) = ys[j]?) → ys.length = fs.size → (∀ (j : Nat) (f : Field) (y : DataW H × List MemPlace), fs[j]? = some f → ys[j]? = some y → Light P f.type y.1) → OpnAt enc P W cs 0 d ok) : OpW enc P W t d ok := fun m cs y h hL => by
  obtain ⟨ys, n, _, hy, hcl, hyl, hg⟩ := DataW.trod_struct ht h
  subst hy
  refine hf n cs ys hcl hg hyl (fun j f y hj hyj k hk => hL k ?_)
  simp only [DataW.weights, ht]
  exact DataW.weights_mem_each (j := j) (t := f.type) (d := y.1) (by rw [List.getElem?_map, Array.getElem?_toList, hj]; rfl) (by rw [List.getElem?_map, hyj]; rfl) k hk
end
theorem argw_row {H : Type} {enc : TypeId × Value → H} {P : Program} {W : World} {α : Type} {t e : TypeId} {d : Kd α} {ok : List α → Prop} {v : Value} {dd : DataW H} {p : List MemPlace} (ho : OpW enc P W t (Kd.slice e d) ok) (hL : Light P t dd) (hv : ∃ a len cap, v = .slice a len cap) (h : DataW.Trod enc P W 0 (fun _ => true) true t v dd p) :
    ∃ (A : Option Addr) (c : Nat) (xs : List α), v = .slice A xs.length c ∧ d.C W A xs.length xs ∧ xs.length ≤ c ∧ ok xs := by
  obtain ⟨a, len, cap, rfl⟩ := hv
  obtain ⟨m, hm⟩ := h
  obtain ⟨xs, ⟨A, c, h1, h2, h3⟩, h4⟩ := ho _ _ _ hm hL
  exact ⟨A, c, xs, by simpa [Value.cells] using h1, h3, h2, h4⟩
theorem argw_struct {H : Type} {enc : TypeId × Value → H} {P : Program} {W : World} {α : Type} {t : TypeId} {d : Kd α} {ok : α → Prop} {v : Value} {dd : DataW H} {p : List MemPlace} (ho : OpW enc P W t d ok) (hL : Light P t dd) (hv : ∃ cs, v = .agg cs) (h : DataW.Trod enc P W 0 (fun _ => true) true t v dd p) :
    ∃ (x : α) (cs : List Value), v = .agg cs.toArray ∧ d.K W x cs ∧ ok x := by
  obtain ⟨⟨l⟩, rfl⟩ := hv
  obtain ⟨m, hm⟩ := h
  obtain ⟨x, h1, h2⟩ := ho _ _ _ hm hL
  exact ⟨x, l, rfl, h1, h2⟩
end Go.Proofs.Ytheaipbnbnjlgaa.Flow
