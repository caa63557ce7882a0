/- Flow, eighteenth part: arguments of any type opened, as the kinds say it. Own work; plain theorems. -/
import Derived.Test.YtheaipbnbnjlgaaFlowS
import Derived.Test.YtheaipbnbnjlgaaFlowJ
namespace Go.Proofs.Ytheaipbnbnjlgaa.Flow
open Go.RowKit Go.Proofs.YtheaipbnbnjlgaaW.PrintWords Go.Proofs.YtheaipbnbnjlgaaW.PrintLast Go.Proofs.YtheaipbnbnjlgaaW.PrintMore
open Go.ChangeShapes Go.WideShapes Go.ChangeAt Go.Deep
set_option linter.unusedVariables false
set_option linter.unusedSimpArgs false
section
variable {H : Type} {enc : TypeId × Value → H} {P : Program} {W : World}
/-- What is laid out as type t is of this kind. -/
def Opn (enc : TypeId × Value → H) (P : Program) (W : World) {α : Type} (t : TypeId) (d : Kd α) (ok : α → Prop) : Prop :=
  ∀ (m : Nat) (cs : List Value) (y : DataW H × List MemPlace), DataW.trod enc P W 0 (fun _ => true) true m t cs = some y → ∃ x, d.K W x cs ∧ ok x
theorem opn_int {t : TypeId} {k : IntKind} (hu : P.underlying t = some (.int k)) : Opn enc P W t (Kd.int k) (fun x => (Lit.int k x).wf = true) := fun m cs y h => by
  obtain ⟨x, hx, _, hw⟩ := DataW.trod_int hu h
  exact ⟨x, hx, hw⟩
theorem opn_bool {t : TypeId} (hu : P.underlying t = some .bool) : Opn enc P W t Kd.bool (fun _ => True) := fun m cs y h => by
  obtain ⟨x, hx, _⟩ := DataW.trod_bool hu h
  exact ⟨x, hx, trivial⟩
theorem opn_string {t : TypeId} (hu : P.underlying t = some .string) : Opn enc P W t Kd.string (fun s => s.size ≤ maxLen) := fun m cs y h => by
  obtain ⟨x, hx, _, hw⟩ := DataW.trod_string hu h
  exact ⟨x, hx, hw⟩
theorem Opn.imp {α : Type} {t : TypeId} {d : Kd α} {ok ok' : α → Prop} (h : Opn enc P W t d ok) (hi : ∀ x, ok x → ok' x) : Opn enc P W t d ok' := fun m cs y hy => by
  obtain ⟨x, h1, h2⟩ := h m cs y hy
  exact ⟨x, h1, hi x h2⟩
/-- The same cells as another kind. -/
theorem Opn.as {α β : Type} {t : TypeId} {d : Kd α} {d' : Kd β} {ok : α → Prop} {ok' : β → Prop} (h : Opn enc P W t d ok) (f : α → β) (hk : ∀ x cs, d.K W x cs → d'.K W (f x) cs) (hi : ∀ x, ok x → ok' (f x)) : Opn enc P W t d' ok' := fun m cs y hy => by
  obtain ⟨x, h1, h2⟩ := h m cs y hy
  exact ⟨f x, hk _ _ h1, hi x h2⟩
theorem opn_slice {α : Type} {t e : TypeId} {d : Kd α} {ok : α → Prop} (ht : P.underlying t = some (.slice e)) (hsz : P.cellsOf e = d.sz) (z : α) (he : Opn enc P W e d ok) : Opn enc P W t (Kd.slice e d) (fun xs => ∀ x ∈ xs, ok x) := fun m cs y h => by
  rcases open_slice ht h with ⟨rfl, _⟩ | ⟨a, len, cap, m2, n, D, Pl, rfl, _, hl, hm, hmm, _, hx⟩
  · exact ⟨[], ⟨none, 0, rfl, Nat.le_refl _, ⟨rfl, by simp, fun h => absurd h (by simp)⟩⟩, fun x hx => by cases hx⟩
  · simp only [if_true] at hmm
    have each : ∀ i, i < len → ∃ x : α, ok x ∧ ∃ c, c.length = d.sz ∧ d.K W x c ∧ ∀ j u, c[j]? = some u → W.cell? (a.add (i * d.sz + j)) = some u := fun i hi => by
      obtain ⟨cs', h1, h2⟩ := hx i (by omega)
      obtain ⟨x, h3, h4⟩ := he _ _ _ h2
      rw [hsz] at h1
      refine ⟨x, h4, cs', d.K_len h3, h3, fun j u hu => ?_⟩
      obtain ⟨_, hlen, hc⟩ := World.cells?_some h1
      rw [← Go.Deep.add_add]
      exact (hc j (by rw [← hlen]; exact (List.getElem?_eq_some_iff.1 hu).1)).trans hu
    have each2 : ∀ i, ∃ x : α, i < len → ok x ∧ ∃ c, c.length = d.sz ∧ d.K W x c ∧ ∀ j u, c[j]? = some u → W.cell? (a.add (i * d.sz + j)) = some u := fun i => by
      by_cases hi : i < len
      · obtain ⟨x, hx⟩ := each i hi
        exact ⟨x, fun _ => hx⟩
      · exact ⟨z, fun h => absurd h hi⟩
    obtain ⟨f, hf⟩ := Classical.skolem.1 each2
    have hlen : ((List.range len).map f).length = len := by simp
    refine ⟨(List.range len).map f, ⟨some a, cap, by rw [hlen], by omega, ⟨rfl, ?_, fun hn => ⟨a, rfl, fun j p hj => ?_⟩⟩⟩, fun x hx => ?_⟩
    · rw [hlen]
      simp [maxLen] at hm
      omega
    · obtain ⟨hl2, hp⟩ := List.getElem?_eq_some_iff.1 hj
      rw [hlen] at hl2
      rw [List.getElem_map, List.getElem_range] at hp
      subst hp
      exact (hf j hl2).2
    · obtain ⟨i, hi, rfl⟩ := List.mem_map.1 hx
      exact (hf i (List.mem_range.1 hi)).1
theorem split_at (cs : List Value) (a s : Nat) : cs.drop a = (cs.drop a).take s ++ cs.drop (a + s) := by
  rw [← List.drop_drop]
  exact (List.take_append_drop s _).symm
theorem take_all (cs : List Value) (a s : Nat) (h : cs.length = a + s) : (cs.drop a).take s = cs.drop a := List.take_of_length_le (by rw [List.length_drop]; omega)
/-- The cells behind a place, field by field. -/
def OpnAt (enc : TypeId × Value → H) (P : Program) (W : World) {α : Type} (cs : List Value) (a : Nat) (d : Kd α) (ok : α → Prop) : Prop := ∃ x, d.K W x (cs.drop a) ∧ ok x
theorem opnAt_last {α : Type} {t : TypeId} {d : Kd α} {ok : α → Prop} {cs : List Value} {a n : Nat} {y : DataW H × List MemPlace} (h : Opn enc P W t d ok) (hc : P.cellsOf t = d.sz) (hl : cs.length = a + d.sz) (hf : DataW.trod enc P W 0 (fun _ => true) true n t ((cs.drop a).take (P.cellsOf t)) = some y) : OpnAt enc P W cs a d ok := by
  obtain ⟨x, h1, h2⟩ := h _ _ _ hf
  rw [hc, take_all cs a d.sz hl] at h1
  exact ⟨x, h1, h2⟩
theorem opnAt_cons {α β : Type} {t : TypeId} {d : Kd α} {d2 : Kd β} {ok : α → Prop} {ok2 : β → Prop} {cs : List Value} {a b n : Nat} {y : DataW H × List MemPlace} (h : Opn enc P W t d ok) (hc : P.cellsOf t = d.sz) (hb : b = a + d.sz) (hf : DataW.trod enc P W 0 (fun _ => true) true n t ((cs.drop a).take (P.cellsOf t)) = some y) (hr : OpnAt enc P W cs b d2 ok2) : OpnAt enc P W cs a (Kd.pair d d2) (fun x => ok x.1 ∧ ok2 x.2) := by
  obtain ⟨x, h1, h2⟩ := h _ _ _ hf
  obtain ⟨x2, h3, h4⟩ := hr
  subst hb
  rw [hc] at h1
  exact ⟨(x, x2), ⟨_, _, split_at cs a d.sz, h1, h3⟩, h2, h4⟩
theorem OpnAt.opn {α : Type} {cs : List Value} {d : Kd α} {ok : α → Prop} (h : OpnAt enc P W cs 0 d ok) : ∃ x, d.K W x cs ∧ ok x := h
/-- A struct, by its fields. -/
theorem opn_struct {α : Type} {t : TypeId} {fs : Array Field} {d : Kd α} {ok : α → Prop} (ht : P.underlying t = some (.struct fs)) (hf : ∀ (n : Nat) (cs : List Value) (ys : List (DataW H × List MemPlace)), cs.length = P.cellsOf t → (∀ (j : Nat) (f : Field), fs[j]? = some f → DataW.trod enc P W 0 (fun _ => true) true n f.type ((cs.drop f.offset).take (P.cellsOf f.type)) = ys[j]?) → ys.length = fs.size → OpnAt enc P W cs 0 d ok) : Opn enc P W t d ok := fun m cs y h => by
  obtain ⟨ys, n, _, _, hcl, hyl, hg⟩ := DataW.trod_struct ht h
  exact hf n cs ys hcl hg hyl
end
/-- An argument that is a row. -/
theorem arg_row {H : Type} {enc : TypeId × Value → H} {P : Program} {W : World} {α : Type} {t e : TypeId} {d : Kd α} {ok : List α → Prop} {v : Value} {dd : DataW H} {p : List MemPlace} (ho : Opn enc P W t (Kd.slice e d) ok) (hv : ∃ a len cap, v = .slice a len cap) (h : DataW.Trod enc P W 0 (fun _ => true) true t v dd p) :
    ∃ (A : Option Addr) (c : Nat) (xs : List α), v = .slice A xs.length c ∧ d.C W A xs.length xs ∧ xs.length ≤ c ∧ ok xs := by
  obtain ⟨a, len, cap, rfl⟩ := hv
  obtain ⟨m, hm⟩ := h
  obtain ⟨xs, ⟨A, c, h1, h2, h3⟩, h4⟩ := ho _ _ _ hm
  exact ⟨A, c, xs, by simpa [Value.cells] using h1, h3, h2, h4⟩
/-- An argument that is a struct. -/
theorem arg_struct {H : Type} {enc : TypeId × Value → H} {P : Program} {W : World} {α : Type} {t : TypeId} {d : Kd α} {ok : α → Prop} {v : Value} {dd : DataW H} {p : List MemPlace} (ho : Opn enc P W t d ok) (hv : ∃ cs, v = .agg cs) (h : DataW.Trod enc P W 0 (fun _ => true) true t v dd p) :
    ∃ (x : α) (cs : List Value), v = .agg cs.toArray ∧ d.K W x cs ∧ ok x := by
  obtain ⟨⟨l⟩, rfl⟩ := hv
  obtain ⟨m, hm⟩ := h
  obtain ⟨x, h1, h2⟩ := ho _ _ _ hm
  exact ⟨x, l, rfl, h1, h2⟩
end Go.Proofs.Ytheaipbnbnjlgaa.Flow
