/- Flow: what a law's row wants: arguments opened. Own work; plain theorems. -/
import Derived.ProofKit
import Derived.OpenShut
import Derived.ShutString
import Derived.ChangeOld
import Derived.SizedLaws
import Derived.Deep.Fields
import Derived.Test.YtheaipbnbnjlgaaFlowA
namespace Go.Proofs.Ytheaipbnbnjlgaa.Flow
open Go.ChangeShapes Go.WideShapes Go.ChangeAt Go.RowKit Go.Deep
set_option linter.unusedVariables false
section
variable {H : Type} {enc : TypeId × Value → H} {P : Program} {w : World} {base : Nat} {spare : Nat → Bool} {held : Bool}
theorem cells_ints {n : Nat} {kd : IntKind} : ∀ (cs : List Value) (ts : List TypeId) (k : Nat → TypeId), (∀ j, j < cs.length → ∃ m y, P.underlying (k j) = some (.int kd) ∧ DataW.trod enc P w base spare held m (k j) ((cs.drop j).take 1) = some y) →
    ∃ xs : List Int, xs.length = cs.length ∧ cs = xs.map (.int kd) ∧ ∀ x ∈ xs, (Lit.int kd x).wf = true
  | [], _, _, _ => ⟨[], rfl, rfl, by simp⟩
  | c :: cs, ts, k, h => by
    obtain ⟨xs, h1, h2, h3⟩ := cells_ints (n := n) cs ts (fun j => k (j + 1)) (fun j hj => by simpa using h (j + 1) (by simpa using hj))
    obtain ⟨m, y, hu, ht⟩ := h 0 (by simp)
    simp only [List.drop_zero, List.take_succ_cons, List.take_zero] at ht
    obtain ⟨x, hx, _, hw⟩ := DataW.trod_int hu ht
    refine ⟨x :: xs, by simp [h1], by rw [h2, List.map_cons]; congr 1; simpa using hx, fun z hz => ?_⟩
    rcases List.mem_cons.1 hz with rfl | hz
    · exact hw
    · exact h3 z hz
/-- A struct by value, all of whose fields are whole numbers of one kind. -/
theorem open_struct_ints {r : Reach} {b0 : Nat} {t : TypeId} {fs : Array Field} {kd : IntKind} {v : Value} {d : DataW H} {p : List MemPlace} (hs : P.underlying t = some (.struct fs)) (hone : oneCellFields P fs = true) (hC : P.cellsOf t = fs.size)
    (hi : ∀ (j : Nat) (f : Field), fs[j]? = some f → P.underlying f.type = some (.int kd)) (hv : Value.okWide P w r b0 t v) (h : DataW.Trod enc P w base spare held t v d p) :
    ∃ xs : List Int, xs.length = fs.size ∧ v = .agg (xs.map (.int kd)).toArray ∧ ∀ x ∈ xs, (Lit.int kd x).wf = true := by
  obtain ⟨cs, rfl, hsz⟩ := okWide_struct hs hv
  obtain ⟨l⟩ := cs
  obtain ⟨fuel, hf⟩ := h
  obtain ⟨ys, n, _, _, hcl, hyl, hg⟩ := DataW.trod_struct hs hf
  simp only [Value.cells] at hcl hg
  obtain ⟨xs, h1, h2, h3⟩ := cells_ints (enc := enc) (P := P) (w := w) (base := base) (spare := spare) (held := held) (n := 0) (kd := kd) l [] (fun j => (fs[j]?.map (·.type)).getD 0) (fun j hj => by
    have hjf : j < fs.size := by rw [hcl, hC] at hj; exact hj
    have hfj : fs[j]? = some fs[j] := Array.getElem?_eq_getElem hjf
    obtain ⟨ho, hk⟩ := hone_of hone j _ hfj
    have hgj := hg j _ hfj
    rw [ho, hk] at hgj
    have hy : ys[j]? = some (ys[j]'(by omega)) := List.getElem?_eq_getElem (by omega)
    refine ⟨n, ys[j]'(by omega), ?_, ?_⟩
    · simp only [hfj, Option.map_some, Option.getD_some]; exact hi j _ hfj
    · simp only [hfj, Option.map_some, Option.getD_some]; rw [← hy]; exact hgj)
  refine ⟨xs, by rw [h1, hcl, hC], by rw [← h2], h3⟩
/-- A struct by value, each field in one cell: its cells, and what each is. -/
theorem open_struct_cells {r : Reach} {b0 : Nat} {t : TypeId} {fs : Array Field} {v : Value} {d : DataW H} {p : List MemPlace} (hs : P.underlying t = some (.struct fs)) (hone : oneCellFields P fs = true) (hC : P.cellsOf t = fs.size)
    (hv : Value.okWide P w r b0 t v) (h : DataW.Trod enc P w base spare held t v d p) :
    ∃ cs : List Value, cs.length = fs.size ∧ v = .agg cs.toArray ∧ ∀ (j : Nat) (f : Field), fs[j]? = some f → ∃ c m y, cs[j]? = some c ∧ DataW.trod enc P w base spare held m f.type [c] = some y := by
  obtain ⟨cs, rfl, hsz⟩ := okWide_struct hs hv
  obtain ⟨l⟩ := cs
  obtain ⟨fuel, hf⟩ := h
  obtain ⟨ys, n, _, _, hcl, hyl, hg⟩ := DataW.trod_struct hs hf
  simp only [Value.cells] at hcl hg
  refine ⟨l, by rw [hcl, hC], rfl, fun j f hfj => ?_⟩
  have hj : j < fs.size := (Array.getElem?_eq_some_iff.1 hfj).1
  obtain ⟨ho, hk⟩ := hone_of hone j _ hfj
  have hgj := hg j _ hfj
  rw [ho, hk] at hgj
  have hjl : j < l.length := by rw [hcl, hC]; exact hj
  have hy : ys[j]? = some (ys[j]'(by omega)) := List.getElem?_eq_getElem (by omega)
  refine ⟨l[j], n, ys[j]'(by omega), List.getElem?_eq_getElem hjl, ?_⟩
  have e : (l.drop j).take 1 = [l[j]] := by
    rw [List.drop_eq_getElem_cons hjl]
    rfl
  rw [← e, ← hy]
  exact hgj
theorem cell_int {m : Nat} {t : TypeId} {kd : IntKind} {c : Value} {y} (hu : P.underlying t = some (.int kd)) (h : DataW.trod enc P w base spare held m t [c] = some y) : ∃ x, c = .int kd x ∧ (Lit.int kd x).wf = true := by
  obtain ⟨x, hx, _, hw⟩ := DataW.trod_int hu h
  exact ⟨x, by simpa using hx, hw⟩
theorem i64_bounds {x : Int} (h : (Lit.int .i64 x).wf = true) : -9223372036854775808 ≤ x ∧ x ≤ 9223372036854775807 := bounds_i64 h
theorem len1 {α : Type} {xs : List α} (h : xs.length = 1) : ∃ a0, xs = [a0] :=
  match xs, h with
  | [a0], _ => ⟨_, rfl⟩
theorem len2 {α : Type} {xs : List α} (h : xs.length = 2) : ∃ a0 a1, xs = [a0, a1] :=
  match xs, h with
  | [a0, a1], _ => ⟨_, _, rfl⟩
theorem len3 {α : Type} {xs : List α} (h : xs.length = 3) : ∃ a0 a1 a2, xs = [a0, a1, a2] :=
  match xs, h with
  | [a0, a1, a2], _ => ⟨_, _, _, rfl⟩
theorem len4 {α : Type} {xs : List α} (h : xs.length = 4) : ∃ a0 a1 a2 a3, xs = [a0, a1, a2, a3] :=
  match xs, h with
  | [a0, a1, a2, a3], _ => ⟨_, _, _, _, rfl⟩
theorem len5 {α : Type} {xs : List α} (h : xs.length = 5) : ∃ a0 a1 a2 a3 a4, xs = [a0, a1, a2, a3, a4] :=
  match xs, h with
  | [a0, a1, a2, a3, a4], _ => ⟨_, _, _, _, _, rfl⟩
theorem len6 {α : Type} {xs : List α} (h : xs.length = 6) : ∃ a0 a1 a2 a3 a4 a5, xs = [a0, a1, a2, a3, a4, a5] :=
  match xs, h with
  | [a0, a1, a2, a3, a4, a5], _ => ⟨_, _, _, _, _, _, rfl⟩
theorem len7 {α : Type} {xs : List α} (h : xs.length = 7) : ∃ a0 a1 a2 a3 a4 a5 a6, xs = [a0, a1, a2, a3, a4, a5, a6] :=
  match xs, h with
  | [a0, a1, a2, a3, a4, a5, a6], _ => ⟨_, _, _, _, _, _, _, rfl⟩
theorem len8 {α : Type} {xs : List α} (h : xs.length = 8) : ∃ a0 a1 a2 a3 a4 a5 a6 a7, xs = [a0, a1, a2, a3, a4, a5, a6, a7] :=
  match xs, h with
  | [a0, a1, a2, a3, a4, a5, a6, a7], _ => ⟨_, _, _, _, _, _, _, _, rfl⟩
theorem len9 {α : Type} {xs : List α} (h : xs.length = 9) : ∃ a0 a1 a2 a3 a4 a5 a6 a7 a8, xs = [a0, a1, a2, a3, a4, a5, a6, a7, a8] :=
  match xs, h with
  | [a0, a1, a2, a3, a4, a5, a6, a7, a8], _ => ⟨_, _, _, _, _, _, _, _, _, rfl⟩
end
end Go.Proofs.Ytheaipbnbnjlgaa.Flow
