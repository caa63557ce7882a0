/- Flow, seventh part: arguments that are rows; rows side by side. Own work; plain theorems. -/
import Derived.Test.YtheaipbnbnjlgaaFlowF
import Derived.Test.YtheaipbnbnjlgaaFlowR
import Derived.Test.YtheaipbnbnjlgaaWSized
namespace Go.Proofs.Ytheaipbnbnjlgaa.Flow
open Go.RowKit Go.Proofs.YtheaipbnbnjlgaaW.PrintWords Go.Proofs.YtheaipbnbnjlgaaW.PrintLast Go.Proofs.YtheaipbnbnjlgaaW.PrintMore
open Go.ChangeShapes Go.WideShapes Go.ChangeAt
set_option linter.unusedVariables false
set_option linter.unusedSimpArgs false
theorem row_ints {H : Type} {enc : TypeId × Value → H} {P : Program} {W : World} {t e : TypeId} {k : IntKind} {a : Option Addr} {len cap : Nat} {d : DataW H} {p : List MemPlace} (ht : P.underlying t = some (.slice e)) (he : P.underlying e = some (.int k)) (hc : P.cellsOf e = 1)
    (h : DataW.Trod enc P W 0 (fun _ => true) true t (.slice a len cap) d p) : ∃ xs : List Int, len = xs.length ∧ (Kd.int k).C W a xs.length xs ∧ xs.length ≤ cap ∧ ∀ x ∈ xs, (Lit.int k x).wf = true := by
  obtain ⟨fuel, hf⟩ := h
  rcases open_ints ht he hc hf with ⟨hcs, _⟩ | ⟨x, l, c, zs, hcs, _, hl, hm, hz, _, hcell, hwz⟩
  · simp [Value.cells] at hcs
    obtain ⟨rfl, rfl, rfl⟩ := hcs
    exact ⟨[], rfl, ⟨rfl, by simp, fun h => absurd h (by simp)⟩, by simp, fun x hx => by simp at hx⟩
  · simp [Value.cells] at hcs
    obtain ⟨rfl, rfl, rfl⟩ := hcs
    simp only [if_true] at hz
    have hlen : (zs.take len).length = len := by simp; omega
    refine ⟨zs.take len, hlen.symm, ⟨rfl, ?_, fun hn => ⟨x, rfl, fun j p hj => ⟨[.int k p], rfl, rfl, fun i u hu => ?_⟩⟩⟩, by omega, fun y hy => hwz y (List.mem_of_mem_take hy)⟩
    · rw [hlen]
      have := hm
      simp [maxLen] at this
      omega
    · obtain ⟨hl2, hp⟩ := List.getElem?_eq_some_iff.1 hj
      rcases i with _ | i
      · have hu' : u = .int k p := by simpa using hu.symm
        subst hu'
        rw [hlen] at hl2
        have h2 := hcell j (by omega)
        show W.cell? (x.add (j * 1 + 0)) = _
        rw [Nat.mul_one, Nat.add_zero, h2]
        have h3 : zs.getD j 0 = p := by
          rw [← hp, List.getElem_take, List.getD_eq_getElem?_getD, List.getElem?_eq_getElem (by omega)]
          rfl
        rw [h3]
      · simp at hu
section
variable {k : IntKind} {e t : TypeId} {w : World} {g : Nat} {A1 A2 A3 : Option Addr} {c1 c2 c3 : Nat} {x1 x2 x3 : List Int}
theorem rows1 (hb : Blk w g t #[.slice A1 x1.length c1]) (h1 : x1.length ≤ c1) (f1 : (Kd.int k).C w A1 x1.length x1) : (Kd.slice e (Kd.int k)).C w (some ⟨g, 0, none⟩) [x1].length [x1] :=
  rows_C hb (by simp) (fun j xs hj => by
    match j, hj with
    | 0, hj => obtain rfl := Option.some.inj hj; exact ⟨A1, c1, rfl, h1, f1⟩
    | j + 1, hj => simp at hj)
theorem rows2 (hb : Blk w g t #[.slice A1 x1.length c1, .slice A2 x2.length c2]) (h1 : x1.length ≤ c1) (f1 : (Kd.int k).C w A1 x1.length x1) (h2 : x2.length ≤ c2) (f2 : (Kd.int k).C w A2 x2.length x2) : (Kd.slice e (Kd.int k)).C w (some ⟨g, 0, none⟩) [x1, x2].length [x1, x2] :=
  rows_C hb (by simp) (fun j xs hj => by
    match j, hj with
    | 0, hj => obtain rfl := Option.some.inj hj; exact ⟨A1, c1, rfl, h1, f1⟩
    | 1, hj => obtain rfl := Option.some.inj hj; exact ⟨A2, c2, rfl, h2, f2⟩
    | j + 2, hj => simp at hj)
theorem rows3 (hb : Blk w g t #[.slice A1 x1.length c1, .slice A2 x2.length c2, .slice A3 x3.length c3]) (h1 : x1.length ≤ c1) (f1 : (Kd.int k).C w A1 x1.length x1) (h2 : x2.length ≤ c2) (f2 : (Kd.int k).C w A2 x2.length x2) (h3 : x3.length ≤ c3) (f3 : (Kd.int k).C w A3 x3.length x3) : (Kd.slice e (Kd.int k)).C w (some ⟨g, 0, none⟩) [x1, x2, x3].length [x1, x2, x3] :=
  rows_C hb (by simp) (fun j xs hj => by
    match j, hj with
    | 0, hj => obtain rfl := Option.some.inj hj; exact ⟨A1, c1, rfl, h1, f1⟩
    | 1, hj => obtain rfl := Option.some.inj hj; exact ⟨A2, c2, rfl, h2, f2⟩
    | 2, hj => obtain rfl := Option.some.inj hj; exact ⟨A3, c3, rfl, h3, f3⟩
    | j + 3, hj => simp at hj)
end
end Go.Proofs.Ytheaipbnbnjlgaa.Flow
