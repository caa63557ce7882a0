/- Flow, tenth part: arguments that hold rows: in a struct's cell, rows of rows. Own work; plain theorems. -/
import Derived.Test.YtheaipbnbnjlgaaFlowG
import Derived.Deep.Slices
namespace Go.Proofs.Ytheaipbnbnjlgaa.Flow
open Go.RowKit Go.Proofs.YtheaipbnbnjlgaaW.PrintWords Go.Proofs.YtheaipbnbnjlgaaW.PrintLast Go.Proofs.YtheaipbnbnjlgaaW.PrintMore
open Go.ChangeShapes Go.WideShapes Go.ChangeAt Go.Deep
set_option linter.unusedVariables false
set_option linter.unusedSimpArgs false
section
variable {H : Type} {enc : TypeId × Value → H} {P : Program} {W : World}
/-- A cell that holds a row of whole numbers. -/
theorem cell_row {m : Nat} {t e : TypeId} {k : IntKind} {c : Value} {y} (ht : P.underlying t = some (.slice e)) (he : P.underlying e = some (.int k)) (hc : P.cellsOf e = 1) (h : DataW.trod enc P W 0 (fun _ => true) true m t [c] = some y) :
    ∃ (a : Option Addr) (cap : Nat) (xs : List Int), c = .slice a xs.length cap ∧ (Kd.int k).C W a xs.length xs ∧ xs.length ≤ cap ∧ ∀ x ∈ xs, (Lit.int k x).wf = true := by
  have key : ∃ a len cap, c = .slice a len cap := by
    rcases open_ints ht he hc h with ⟨hcs, _⟩ | ⟨x, l, cc, zs, hcs, _⟩
    · exact ⟨_, _, _, List.head_eq_of_cons_eq hcs⟩
    · exact ⟨_, _, _, List.head_eq_of_cons_eq hcs⟩
  obtain ⟨a, len, cap, rfl⟩ := key
  obtain ⟨xs, rfl, h1, h2, h3⟩ := row_ints (d := y.1) (p := y.2) ht he hc ⟨m, h⟩
  exact ⟨a, cap, xs, rfl, h1, h2, h3⟩
theorem cell_bool {m : Nat} {t : TypeId} {c : Value} {y} (hu : P.underlying t = some .bool) (h : DataW.trod enc P W 0 (fun _ => true) true m t [c] = some y) : ∃ x, c = .bool x := by
  obtain ⟨x, hx, _⟩ := DataW.trod_bool hu h
  exact ⟨x, by simpa using hx⟩
/-- Rows of rows of whole numbers. -/
theorem row_rows {t e q : TypeId} {k : IntKind} {a : Option Addr} {len cap : Nat} {d : DataW H} {p : List MemPlace} (E : Nat) (ht : P.underlying t = some (.slice e)) (he : P.underlying e = some (.slice q)) (hq : P.underlying q = some (.int k)) (ce : P.cellsOf e = 1) (cq : P.cellsOf q = 1)
    (h : DataW.Trod enc P W 0 (fun _ => true) true t (.slice a len cap) d p) : ∃ xss : List (List Int), len = xss.length ∧ (Kd.slice E (Kd.int k)).C W a xss.length xss ∧ xss.length ≤ cap ∧ ∀ xs ∈ xss, ∀ x ∈ xs, (Lit.int k x).wf = true := by
  obtain ⟨fuel, hf⟩ := h
  rcases open_slice1 ht ce hf with ⟨hcs, _⟩ | ⟨ad, l, c, m, n, V, D, Pl, hcs, _, hl, hm, hmm, _, hx⟩
  · simp [Value.cells] at hcs
    obtain ⟨rfl, rfl, rfl⟩ := hcs
    exact ⟨[], rfl, ⟨rfl, by simp, fun h => absurd h (by simp)⟩, by simp, fun x hx => by simp at hx⟩
  · simp [Value.cells] at hcs
    obtain ⟨rfl, rfl, rfl⟩ := hcs
    simp only [if_true] at hmm
    have each : ∀ i, i < len → ∃ z : Option Addr × Nat × List Int, V i = .slice z.1 z.2.2.length z.2.1 ∧ (Kd.int k).C W z.1 z.2.2.length z.2.2 ∧ z.2.2.length ≤ z.2.1 ∧ ∀ x ∈ z.2.2, (Lit.int k x).wf = true := fun i hi => by
      obtain ⟨a1, c1, xs, h1, h2, h3, h4⟩ := cell_row he hq cq (hx i (by omega)).2
      exact ⟨(a1, c1, xs), h1, h2, h3, h4⟩
    obtain ⟨z, hz⟩ := choose_lt each
    have hlen : ((List.range len).map fun i => (z i).2.2).length = len := by simp
    refine ⟨(List.range len).map fun i => (z i).2.2, hlen.symm, ⟨rfl, ?_, fun hn => ⟨ad, rfl, fun j p hj => ?_⟩⟩, by omega, fun xs hxs => ?_⟩
    · rw [hlen]
      have := hm
      simp [maxLen] at this
      omega
    · obtain ⟨hl2, hp⟩ := List.getElem?_eq_some_iff.1 hj
      rw [hlen] at hl2
      rw [List.getElem_map, List.getElem_range] at hp
      obtain ⟨q1, q2, q3, q4⟩ := hz j hl2
      subst hp
      refine ⟨[V j], rfl, ⟨_, _, by rw [q1], q3, q2⟩, fun i u hu => ?_⟩
      rcases i with _ | i
      · have hu' : u = V j := by simpa using hu.symm
        subst hu'
        have q5 := (hx j (by omega)).1
        show W.cell? (ad.add (j * 1 + 0)) = _
        rw [Nat.mul_one, Nat.add_zero]
        exact q5
      · simp at hu
    · obtain ⟨i, hi, rfl⟩ := List.mem_map.1 hxs
      exact (hz i (List.mem_range.1 hi)).2.2.2
end
/-- A row of rows is no longer than its weight allows. -/
theorem sized_rows {H : Type} {enc : TypeId × Value → H} {P : Program} {W : World} {t e : TypeId} {a : Option Addr} {len cap : Nat} {d : DataW H} {ps : List MemPlace} {ts : List TypeId} {ds : List (DataW H)} {j : Nat}
    (hsz : (DataW.weightsEach P ts ds).all (· ≤ reachBytes) = true) (ht : ts[j]? = some t) (hd : ds[j]? = some d) (hu : P.underlying t = some (.slice e)) (hc : P.cellsOf e = 1) {B : Nat} (hB : P.bytesOf e = B)
    (h : DataW.Trod enc P W 0 (fun _ => true) true t (.slice a len cap) d ps) : len * B ≤ 140737488351232 := by
  obtain ⟨fuel, hf⟩ := h
  rcases open_slice1 hu hc hf with ⟨hcs, _⟩ | ⟨ad, l, c, m, n, V, D, Pl, hcs, _, hl, hm, hmm, hx, _⟩
  · simp [Value.cells] at hcs
    obtain ⟨rfl, rfl, rfl⟩ := hcs
    simp
  · simp [Value.cells] at hcs
    obtain ⟨rfl, rfl, rfl⟩ := hcs
    obtain ⟨hx, _⟩ := Prod.mk.inj hx
    subst hx
    have z := sized_slice hsz ht hd hu
    rw [hB] at z
    simp only [List.length_map, List.length_range] at z
    exact Nat.le_trans (Nat.mul_le_mul_right _ (by omega)) z
/-- A drawn literal: a row in a new block. -/
def SlcSpec (B : Nat) (t : TypeId) (cs : Array Value) (n : Nat) : Spec where
  s := fun v w => ∃ g, v = .slice (some ⟨g, 0, none⟩) n n ∧ B ≤ g ∧ Blk w g t cs
  pl := fun v => ∃ g, v = .slice (some ⟨g, 0, none⟩) n n
  stab := fun v w w' hb ⟨g, h1, h2, h3⟩ => ⟨g, h1, h2, h3.on hb⟩
  imp := fun v w ⟨g, h1, _⟩ => ⟨g, h1⟩
  inh := ⟨.slice (some ⟨0, 0, none⟩) n n, 0, rfl⟩
theorem slc_gives {P : Program} {o : Oper} {G : Env} {w : World} (B : Nat) (t : TypeId) (cs : Array Value) (n : Nat) (hB : B ≤ w.heap.size)
    (hrun : (execOp (sEv G) o).run P w = .ok (.value (.slice (some ⟨w.heap.size, 0, none⟩) n n)) (w.alloc (.cells cs t))) :
    ∃ v w', (execOp (sEv G) o).run P w = .ok (.value v) w' ∧ (SlcSpec B t cs n).s v w' ∧ Below w.heap.size w w' :=
  ⟨_, _, hrun, ⟨_, rfl, hB, Blk.alloc_new _ _ _⟩, below_alloc (Below.refl _ _) _⟩
theorem slc_fact {B : Nat} {t : TypeId} {cs : Array Value} {n g : Nat} {w : World} (h : (SlcSpec B t cs n).s (.slice (some ⟨g, 0, none⟩) n n) w) : B ≤ g ∧ Blk w g t cs := by
  obtain ⟨g', he, h2, h3⟩ := h
  injection he with he
  injection he with he
  injection he with he
  subst he
  exact ⟨h2, h3⟩
end Go.Proofs.Ytheaipbnbnjlgaa.Flow
