/- Flow, fourth part: a row of whole numbers that the function owns, as a block. Own work; plain theorems. -/
import Derived.Test.YtheaipbnbnjlgaaFlowC
namespace Go.Proofs.Ytheaipbnbnjlgaa.Flow
open Go.RowKit Go.Proofs.YtheaipbnbnjlgaaW.PrintWords Go.Proofs.YtheaipbnbnjlgaaW.PrintLast Go.Proofs.YtheaipbnbnjlgaaW.PrintMore
set_option linter.unusedVariables false
set_option linter.unusedSimpArgs false
/-- The cells of a block begin with these numbers. -/
def Nums (k : IntKind) (cur : Array Value) (xs : List Int) : Prop := ∀ j, j < xs.length → cur[j]? = some (.int k (xs.getD j 0))
theorem row_block {k : IntKind} {e : TypeId} {w : World} {base : Nat} {ok : Nat → Prop} {v : Value} {xs : List Int} (h : (Kd.int k).R e w base ok v xs) (hne : xs ≠ []) :
    ∃ g cap cur, v = .slice (some ⟨g, 0, none⟩) xs.length cap ∧ base ≤ g ∧ Blk w g e cur ∧ xs.length ≤ cap ∧ cur.size = cap ∧ Nums k cur xs := by
  have ho := Kd.own_of_R h
  rcases ho.2 with ⟨_, hn⟩ | ⟨g, cap, cur, hv, hb, hg, hn, hc, hsz, ht⟩
  · exact absurd (List.eq_nil_of_length_eq_zero hn) hne
  · refine ⟨g, cap, cur, hv, hb, hg, hn, by omega, fun j hj => ?_⟩
    have h1 : (cur.toList.take (xs.length * 1))[j]? = some (.int k (xs.getD j 0)) := by
      rw [ht]
      simp [encs, List.getElem?_eq_getElem hj]
    rw [List.getElem?_take_of_lt (by omega)] at h1
    simpa using h1
theorem Nums.set {k : IntKind} {cur : Array Value} {xs : List Int} (h : Nums k cur xs) (hl : xs.length ≤ cur.size) (i : Nat) (x : Int) : Nums k (cur.setIfInBounds i (.int k x)) (xs.set i x) := fun j hj => by
  have hj' : j < xs.length := by simpa using hj
  by_cases hij : i = j
  · subst hij
    simp [Array.getElem?_setIfInBounds, hj', show i < cur.size by omega]
  · have := h j hj'
    simpa [Array.getElem?_setIfInBounds, hij, List.getElem?_set] using this
theorem Nums.C {k : IntKind} {w : World} {g e : Nat} {cur : Array Value} {xs : List Int} (h : Nums k cur xs) (hb : Blk w g e cur) (hm : xs.length ≤ 9223372036854775807) : Kd.C (Kd.int k) w (some ⟨g, 0, none⟩) xs.length xs := by
  refine ⟨rfl, hm, fun hn => ⟨_, rfl, fun j p hj => ⟨[.int k p], rfl, rfl, fun i u hu => ?_⟩⟩⟩
  obtain ⟨hl, hp⟩ := List.getElem?_eq_some_iff.1 hj
  have h2 := h j hl
  have hi : i = 0 := by
    rcases i with _ | i
    · rfl
    · simp at hu
  subst hi
  have hu' : u = .int k p := by simpa using hu.symm
  subst hu'
  have e : (⟨g, 0, none⟩ : Addr).add (j * 1 + 0) = ⟨g, j, none⟩ := by rw [add_plain]; simp
  show w.cell? ((⟨g, 0, none⟩ : Addr).add (j * 1 + 0)) = _
  rw [e, hb.cell, h2]
  simp [List.getD_eq_getElem?_getD, hj]
end Go.Proofs.Ytheaipbnbnjlgaa.Flow
