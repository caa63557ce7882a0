/- Flow, third part: words for memory. Own work; plain theorems. -/
import Derived.Test.YtheaipbnbnjlgaaFlowB
import Derived.Test.YtheaipbnbnjlgaaWMore
namespace Go.Proofs.Ytheaipbnbnjlgaa.Flow
open Go.RowKit Go.Proofs.YtheaipbnbnjlgaaW.PrintWords Go.Proofs.YtheaipbnbnjlgaaW.PrintLast Go.Proofs.YtheaipbnbnjlgaaW.PrintMore
set_option linter.unusedVariables false
set_option linter.unusedSimpArgs false
set_option linter.unusedSectionVars false

theorem nbeq (a b : Nat) : Nat.beq a b = decide (a = b) := by
  by_cases h : a = b
  · subst h; simp
  · rw [decide_eq_false h]
    cases hb : Nat.beq a b
    · rfl
    · exact absurd (Nat.eq_of_beq_eq_true hb) h
theorem not_true {b : Bool} (h : (!b) = true) : b = false := by simpa using h
theorem not_false {b : Bool} (h : (!b) = false) : b = true := by simpa using h
theorem bcase (b : Bool) : b = false ∨ b = true := by cases b <;> simp
/-- A block that is known whole. -/
def Blk (w : World) (g : Nat) (t : TypeId) (cs : Array Value) : Prop := w.heap[g]? = some (.cells cs t (0, 0))
section
variable {w w' : World} {g : Nat} {t : TypeId} {cs : Array Value}
theorem Blk.lt (h : Blk w g t cs) : g < w.heap.size := by
  rcases Nat.lt_or_ge g w.heap.size with hlt | hge
  · exact hlt
  · unfold Blk at h; rw [Array.getElem?_eq_none hge] at h; cases h
theorem Blk.cell (h : Blk w g t cs) (i : Nat) : w.cell? ⟨g, i, none⟩ = cs[i]? := by
  unfold Blk at h
  simp [World.cell?, h]
theorem Blk.cellv (h : Blk w g t cs) {i : Nat} {v : Value} (hv : cs[i]? = some v) : w.cell? ⟨g, i, none⟩ = some v := (h.cell i).trans hv
theorem Blk.frozen (h : Blk w g t cs) (i : Nat) : w.frozen? ⟨g, i, none⟩ = false := by
  unfold Blk at h
  simp [World.frozen?, h]
theorem Blk.below {B : Nat} (h : Blk w g t cs) (hb : Below B w w') (hB : w.heap.size ≤ B) : Blk w' g t cs := (hb.block g (Nat.lt_of_lt_of_le h.lt hB)).trans h
theorem Blk.on (h : Blk w g t cs) (hb : Below w.heap.size w w') : Blk w' g t cs := h.below hb (Nat.le_refl _)
theorem Blk.alloc_new (w : World) (t : TypeId) (cs : Array Value) : Blk (w.alloc (.cells cs t)) w.heap.size t cs := by
  exact heap_alloc_new w _
theorem cellB {v : Value} {i : Nat} (h : Blk w g t cs) (hb : Below w.heap.size w w') (hv : cs[i]? = some v) : w'.cell? ⟨g, i, none⟩ = some v := (h.on hb).cellv hv
theorem cellOn {v : Value} {a : Addr} (h : w.cell? a = some v) (hb : Below w.heap.size w w') : w'.cell? a = some v := pw_cell_below hb h
end
theorem below_of_drew {w w' : World} (h : Below w.drew.heap.size w.drew w') : Below w.heap.size w w' := ⟨h.os, h.tape, h.output, h.size, h.block⟩
theorem chain {w w1 w2 : World} (h : Below w.heap.size w w1) (k : Below w1.heap.size w1 w2) : Below w.heap.size w w2 := h.trans (k.mono h.size)
theorem size_le {w w1 : World} (h : Below w.heap.size w w1) : w.heap.size ≤ w1.heap.size := h.size

section
variable {P : Program} {cx : Cx} {n : Nat} {Q : Exit → Act → World → Prop} {st : List Itm} {G : Env} {w : World} {ops : Array Oper} {o : Oper} {rest : List Oper}
/-- A new block: a box, a made row. -/
theorem rw_new {d : Nat} {cs : Array Value} {t : TypeId} (v : Nat → Value) (hg : o.guard = none) (hd : o.dst = some d) (hdn : Nat.blt d n = true) (hk : known G o = true)
    (hrun : (execOp (sEv G) o).run P w = .ok (.value (v w.heap.size)) (w.alloc (.cells cs t)))
    (k : ∀ (g : Nat) (w' : World), g = w.heap.size → w'.heap.size = g + 1 → Below w.heap.size w w' → Blk w' g t cs → RW P ops cx n Q rest ((d, v g) :: G) w') : RW P ops cx n Q (o :: rest) G w :=
  rw_val hg hd hdn hk hrun (k _ _ rfl (by simp) (below_alloc (Below.refl _ _) _) (Blk.alloc_new _ _ _))
end
/-- One block has been written, nothing made. -/
structure Keep (g : Nat) (w w' : World) : Prop where
  os : w'.os = w.os
  tape : w'.tape = w.tape
  output : w'.output = w.output
  size : w'.heap.size = w.heap.size
  block : ∀ k, k ≠ g → w'.heap[k]? = w.heap[k]?
section
variable {w w' w0 : World} {g : Nat}
theorem Keep.refl (g : Nat) (w : World) : Keep g w w := ⟨rfl, rfl, rfl, rfl, fun _ _ => rfl⟩
theorem Keep.trans {w'' : World} (h : Keep g w w') (k : Keep g w' w'') : Keep g w w'' := ⟨k.os.trans h.os, k.tape.trans h.tape, k.output.trans h.output, k.size.trans h.size, fun i hi => (k.block i hi).trans (h.block i hi)⟩
theorem Keep.below (h : Keep g w w') (hg : w0.heap.size ≤ g) (hb : Below w0.heap.size w0 w) : Below w0.heap.size w0 w' :=
  ⟨h.os.trans hb.os, h.tape.trans hb.tape, h.output.trans hb.output, by rw [h.size]; exact hb.size, fun k hk => (h.block k (by omega)).trans (hb.block k hk)⟩
theorem Keep.set (w : World) (g i : Nat) (v : Value) : Keep g w (w.setCell ⟨g, i, none⟩ v) :=
  ⟨rfl, rfl, rfl, by simp [World.setCell], fun k hk => by simp [World.setCell, Array.getElem?_modify, Ne.symm hk]⟩
theorem Blk.keep {g2 : Nat} {t : TypeId} {cs : Array Value} (h : Blk w g2 t cs) (k : Keep g w w') (hne : g2 ≠ g) : Blk w' g2 t cs := (k.block g2 hne).trans h
theorem Blk.set {t : TypeId} {cs : Array Value} (h : Blk w g t cs) (i : Nat) (v : Value) : Blk (w.setCell ⟨g, i, none⟩ v) g t (cs.setIfInBounds i v) := by
  unfold Blk at h ⊢
  simp [World.setCell, Array.getElem?_modify, h]
theorem Keep.grown (k : Keep g w w') : w.grownBy w' (some g) := ⟨k.os, k.tape, k.output, by rw [k.size]; exact Nat.le_refl _, fun i hi hne => k.block i (fun e => hne (by rw [e]))⟩
/-- Cells written one behind the other. -/
def putCells (w : World) (g : Nat) : Nat → List Value → World
  | _, [] => w
  | i, v :: r => putCells (w.setCell ⟨g, i, none⟩ v) g (i + 1) r
def putArr (cs : Array Value) : Nat → List Value → Array Value
  | _, [] => cs
  | i, v :: r => putArr (cs.setIfInBounds i v) (i + 1) r
theorem putCells_keep : ∀ (l : List Value) (w : World) (i : Nat), Keep g w (putCells w g i l)
  | [], w, i => Keep.refl g w
  | v :: r, w, i => (Keep.set w g i v).trans (putCells_keep r _ _)
theorem putCells_blk {t : TypeId} : ∀ (l : List Value) {w : World} {cs : Array Value} (i : Nat), Blk w g t cs → Blk (putCells w g i l) g t (putArr cs i l)
  | [], _, _, _, h => h
  | v :: r, _, _, i, h => putCells_blk r (i + 1) (h.set i v)
end
section
variable {P : Program} {cx : Cx} {n : Nat} {Q : Exit → Act → World → Prop} {st : List Itm} {G : Env} {w : World} {ops : Array Oper} {o : Oper} {rest : List Oper}
/-- A store into a block that is known whole. -/
theorem rw_store {g i : Nat} {t : TypeId} {cs cs' : Array Value} {l : List Value} (hg : o.guard = none) (hd : o.dst = none) (hk : known G o = true) (hb : Blk w g t cs) (hcs : putArr cs i l = cs')
    (hrun : (execOp (sEv G) o).run P w = .ok .skip (putCells w g i l))
    (k : ∀ w', Keep g w w' → Blk w' g t cs' → RW P ops cx n Q rest G w') : RW P ops cx n Q (o :: rest) G w :=
  rw_skip hg hd hk hrun (k _ (putCells_keep l w i) (hcs ▸ putCells_blk l i hb))
end
/-- A result that lies in memory. -/
theorem post_retc {P : Program} {n : Nat} {G : Env} {w : World} {fn : Func} {R : Ending → World → Prop} {t ty : Nat} {a : Addr} {v : Value} (hr : fn.results = #[.cell t ty]) (hl : sLook G t = some (.pointer (some a))) (hload : (Instr.loadAt ty (.pointer (some a))).run P w = .ok v w) (hR : R (.returned v) w) : ∀ c, Fits cx0 n G c → bodyPost P fn R .ret c w := fun c hc => by
  refine ⟨hc.defers, v, ?_, hR⟩
  have h1 := fits_getD hc hl
  simp only [Array.getD_eq_getD_getElem?] at h1
  have h2 : (loadVar ty a).run P w = .ok v w := by simpa [Instr.loadAt, Instr.sureAddr] using hload
  simp [results, hr, h1, asAddr, h2]
/-- A value told otherwise. -/
theorem run_int {P : Program} {s : Sem Next} {w : World} {k : IntKind} {a b : Int} (h : s.run P w = .ok (.value (.int k a)) w) (e : a = b) : s.run P w = .ok (.value (.int k b)) w := by rw [h, e]
/-- A drawn call's answer that is a row: its shape is told at once. -/
def RowSpec {α : Type} (d : Kd α) (e base : Nat) (xs : List α) : Spec where
  s := fun v w => d.R e w base (fun _ => True) v xs
  pl := fun v => ∃ A c, v = .slice A xs.length c ∧ xs.length ≤ c
  stab := fun v w w' hb h => Kd.R_below h hb
  imp := fun v w h => by obtain ⟨A, c, h1, h2, _⟩ := Kd.R_reads h; exact ⟨A, c, h1, h2⟩
  inh := ⟨.slice none xs.length xs.length, none, xs.length, rfl, Nat.le_refl _⟩
/-- A drawn literal of whole numbers. -/
def LitSpec (k : IntKind) (xs : List Int) : Spec where
  s := fun v w => ∃ A c, v = .slice A xs.length c ∧ xs.length ≤ c ∧ Kd.C (Kd.int k) w A xs.length xs
  pl := fun v => ∃ A c, v = .slice A xs.length c ∧ xs.length ≤ c
  stab := fun v w w' hb ⟨A, c, h1, h2, h3⟩ => ⟨A, c, h1, h2, Kd.C_below h3 hb⟩
  imp := fun v w ⟨A, c, h1, h2, _⟩ => ⟨A, c, h1, h2⟩
  inh := ⟨.slice none xs.length xs.length, none, xs.length, rfl, Nat.le_refl _⟩
theorem new_ints (W : World) (e : TypeId) (k : IntKind) (xs : List Int) (hm : xs.length ≤ 9223372036854775807) :
    (Kd.int k).R e (W.alloc (.cells (nums k xs).toArray e)) W.heap.size (fun _ => True) (.slice (some ⟨W.heap.size, 0, none⟩) xs.length xs.length) xs :=
  Kd.R_of_own (own_lit W W.heap.size e k xs (Nat.le_refl _) hm) (fun _ _ => trivial)
theorem new_intsC (W : World) (e : TypeId) (k : IntKind) (xs : List Int) (hm : xs.length ≤ 9223372036854775807) :
    Kd.C (Kd.int k) (W.alloc (.cells (nums k xs).toArray e)) (some ⟨W.heap.size, 0, none⟩) xs.length xs := (Kd.R_reads' (new_ints W e k xs hm)).2.2
/-- A drawn literal of whole numbers, shown. -/
theorem lit_gives {P : Program} {o : Oper} {G : Env} {w : World} (e : TypeId) (k : IntKind) (xs : List Int) (hm : xs.length ≤ 9223372036854775807)
    (hrun : (execOp (sEv G) o).run P w = .ok (.value (.slice (some ⟨w.heap.size, 0, none⟩) xs.length xs.length)) (w.alloc (.cells (nums k xs).toArray e))) :
    ∃ v w', (execOp (sEv G) o).run P w = .ok (.value v) w' ∧ (LitSpec k xs).s v w' ∧ Below w.heap.size w w' :=
  ⟨_, _, hrun, ⟨_, _, rfl, Nat.le_refl _, new_intsC w e k xs hm⟩, below_alloc (Below.refl _ _) _⟩
theorem lit_fact {k : IntKind} {xs : List Int} {A : Option Addr} {n c : Nat} {w : World} (h : (LitSpec k xs).s (.slice A n c) w) : n = xs.length ∧ n ≤ c ∧ Kd.C (Kd.int k) w A xs.length xs := by
  obtain ⟨A', c', he, h2, h3⟩ := h
  injection he with h4 h5 h6
  subst h4 h5 h6
  exact ⟨rfl, h2, h3⟩
/-- An element of a row at a number that is known: its cells. -/
theorem row_at {α : Type} {d : Kd α} {w : World} {A : Option Addr} {n : Nat} {xs : List α} (h : d.C w A n xs) (z : α) (k : Nat) (hk : k < n) :
    ∃ ad c, A = some ad ∧ c.length = d.sz ∧ d.K w (xs.getD k z) c ∧ ∀ j u, c[j]? = some u → w.cell? (ad.add (k * d.sz + j)) = some u := by
  obtain ⟨ad, c, h1, h2, h3, h4⟩ := Kd.C_get h z (k : Int) (by omega) (by omega)
  exact ⟨ad, c, h1, h2, by simpa using h3, by simpa using h4⟩
theorem add_zero (ad : Addr) : ad.add 0 = ad := by simp [Addr.add]
theorem add_pos (ad : Addr) (j : Nat) : ad.add (j + 1) = ⟨ad.block, ad.off + (j + 1), none⟩ := by simp [Addr.add]
end Go.Proofs.Ytheaipbnbnjlgaa.Flow
