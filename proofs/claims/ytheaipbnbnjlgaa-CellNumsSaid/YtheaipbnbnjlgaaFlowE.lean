/- Flow, fifth part: strings. Own work; plain theorems. -/
import Derived.Test.YtheaipbnbnjlgaaFlowD
namespace Go.Proofs.Ytheaipbnbnjlgaa.Flow
open Go.RowKit Go.Proofs.YtheaipbnbnjlgaaW.PrintWords Go.Proofs.YtheaipbnbnjlgaaW.PrintLast Go.Proofs.YtheaipbnbnjlgaaW.PrintMore
set_option linter.unusedVariables false
set_option linter.unusedSimpArgs false
/-- What an instruction yields, as an operation's value. -/
theorem run_as {P : Program} {s : Sem Value} {v : Value} {w w' : World} (h : s.run P w = .ok v w') : (do pure (Next.value (← s)) : Sem Next).run P w = .ok (.value v) w' := by simp [h]
/-- A byte of a string. -/
theorem str_at {P : Program} {t : TypeId} {s : ByteArray} {k : IntKind} (hu : P.underlying t = some .string) (i : Int) (h0 : 0 ≤ i) (h : i < s.size) (w : World) : (Instr.index t (.string s) (.int k i)).run P w = .ok (.int .u8 (bt s i)) w := by
  rw [run_index_string (w := w) t s k i hu, dif_pos ⟨h0, h⟩]
  rw [bt_at s i]
theorem toList_inj {s t : ByteArray} (h : s.toList = t.toList) : s = t := by
  apply ByteArray.ext
  rw [ByteArray.toList_eq, ByteArray.toList_eq] at h
  exact Array.toList_inj.1 h
theorem beq_toList (s t : ByteArray) : (s.toList == t.toList) = decide (s = t) := by
  by_cases h : s = t
  · subst h
    simp
  · rw [decide_eq_false h]
    exact beq_eq_false_iff_ne.2 (fun h2 => h (toList_inj h2))
theorem bne_toList (s t : ByteArray) : (s.toList != t.toList) = !decide (s = t) := by
  unfold bne
  rw [beq_toList]
theorem run_str_eql {P : Program} (t : TypeId) (a b : ByteArray) (w : World) : (binOp .eql t (.string a) (.string b)).run P w = .ok (.bool (decide (a = b))) w := by
  rw [binOp_string_eql, beq_toList]
  rfl
theorem run_str_neq {P : Program} (t : TypeId) (a b : ByteArray) (w : World) : (binOp .neq t (.string a) (.string b)).run P w = .ok (.bool (!decide (a = b))) w := by
  rw [binOp_string_neq, beq_toList]
  rfl
theorem nonempty (s : ByteArray) : (s = ⟨#[]⟩) ↔ s.size = 0 := by
  constructor
  · intro h
    subst h
    rfl
  · intro h
    apply ByteArray.ext
    exact Array.eq_empty_of_size_eq_zero h
theorem ne_false {s : ByteArray} (h : s.size = 0) : (!decide (s = ⟨#[]⟩)) = false := by rw [decide_eq_true ((nonempty s).2 h)]; rfl
theorem ne_true {s : ByteArray} (h : 0 < s.size) : (!decide (s = ⟨#[]⟩)) = true := by rw [decide_eq_false (fun e => by have := (nonempty s).1 e; omega)]; rfl
/-- The string without its first byte. -/
theorem bt_tail (s : ByteArray) (i : Nat) (h : i + 1 < s.size) : bt (s.extract 1 s.size) (i : Int) = bt s ((1 + i : Nat) : Int) := by
  unfold bt
  rw [dif_pos (by rw [ByteArray.size_extract]; omega), dif_pos (by omega)]
  congr 2
  have e1 : ((i : Int)).toNat = i := by omega
  have e2 : (((1 + i : Nat) : Int)).toNat = 1 + i := by omega
  simp only [e1, e2]
  show (s.extract 1 s.size).data[i]'_ = s.data[1 + i]'_
  simp
/-- The bytes of a string as a new row. -/
theorem conv_bytes {P : Program} (src dst e : TypeId) (hs : P.underlying src = some .string) (hd : P.underlying dst = some (.slice e)) (he : P.underlying e = some (.int .u8)) (w : World) (s : ByteArray) :
    ∃ (g cap : Nat) (w' : World), (convert src dst (.string s)).run P w = .ok (.slice (some ⟨g, 0, none⟩) s.size cap) w' ∧ Below w.heap.size w w' ∧ w.heap.size = g ∧ w'.heap.size = g + 1 ∧ ∀ i, i < s.size → w'.cell? ⟨g, i, none⟩ = some (.int .u8 (bt s (i : Int))) := by
  refine ⟨w.heap.size, Go.grownCap w s.size 0 e, Go.Lib.bytesWorld w e s, Go.Lib.run_convert_string_bytes w src dst e s hs hd he, ⟨rfl, rfl, rfl, ?_, fun k hk => Go.Lib.bytesWorld_at_old w e s k hk⟩, rfl, Go.Lib.bytesWorld_size w e s, fun i hi => ?_⟩
  · rw [Go.Lib.bytesWorld_size]
    omega
  · rw [Go.Lib.bytesWorld_cell w e s i hi]
    unfold bt
    rw [dif_pos (by omega)]
    congr 2
    rw [List.getD_eq_getElem?_getD, List.getElem?_eq_getElem (by simpa using hi)]
    have e1 : ((i : Int)).toNat = i := by omega
    simp only [e1]
    rfl
theorem Keep.cell {g : Nat} {w w' : World} (h : Keep g w w') {a : Addr} (ha : a.block ≠ g) : w'.cell? a = w.cell? a := by
  unfold World.cell?
  rw [h.block a.block ha]
/-- A drawn variable's place. -/
def BlkSpec (B : Nat) (t : TypeId) (cs : Array Value) : Spec where
  s := fun v w => ∃ g, v = .pointer (some ⟨g, 0, none⟩) ∧ B ≤ g ∧ Blk w g t cs
  pl := fun v => ∃ g, v = .pointer (some ⟨g, 0, none⟩)
  stab := fun v w w' hb ⟨g, h1, h2, h3⟩ => ⟨g, h1, h2, h3.on hb⟩
  imp := fun v w ⟨g, h1, _⟩ => ⟨g, h1⟩
  inh := ⟨.pointer (some ⟨0, 0, none⟩), 0, rfl⟩
theorem blk_gives {P : Program} {o : Oper} {G : Env} {w : World} (B : Nat) (t : TypeId) (cs : Array Value) (hB : B ≤ w.heap.size)
    (hrun : (execOp (sEv G) o).run P w = .ok (.value (.pointer (some ⟨w.heap.size, 0, none⟩))) (w.alloc (.cells cs t))) :
    ∃ v w', (execOp (sEv G) o).run P w = .ok (.value v) w' ∧ (BlkSpec B t cs).s v w' ∧ Below w.heap.size w w' :=
  ⟨_, _, hrun, ⟨_, rfl, hB, Blk.alloc_new _ _ _⟩, below_alloc (Below.refl _ _) _⟩
theorem blk_fact {B : Nat} {t : TypeId} {cs : Array Value} {g : Nat} {w : World} (h : (BlkSpec B t cs).s (.pointer (some ⟨g, 0, none⟩)) w) : B ≤ g ∧ Blk w g t cs := by
  obtain ⟨g', he, h2, h3⟩ := h
  injection he with he
  injection he with he
  injection he with he
  subst he
  exact ⟨h2, h3⟩
theorem run_bool {P : Program} {s : Sem Next} {w : World} {a b : Bool} (h : s.run P w = .ok (.value (.bool a)) w) (e : a = b) : s.run P w = .ok (.value (.bool b)) w := by rw [h, e]
/-- Two results: a place in memory, a value. -/
theorem post_retct {P : Program} {n : Nat} {G : Env} {w : World} {fn : Func} {R : Ending → World → Prop} {t ty u : Nat} {a : Addr} {v x : Value} (hr : fn.results = #[.cell t ty, .tmp u]) (hl : sLook G t = some (.pointer (some a))) (hl2 : sLook G u = some x) (hload : (Instr.loadAt ty (.pointer (some a))).run P w = .ok v w) (hR : R (.returned (.tuple #[v, x])) w) : ∀ c, Fits cx0 n G c → bodyPost P fn R .ret c w := fun c hc => by
  refine ⟨hc.defers, .tuple #[v, x], ?_, hR⟩
  have h1 := fits_getD hc hl
  have h3 := fits_getD hc hl2
  simp only [Array.getD_eq_getD_getElem?] at h1 h3
  have h2 : (loadVar ty a).run P w = .ok v w := by simpa [Instr.loadAt, Instr.sureAddr] using hload
  simp [results, hr, h1, h3, asAddr, h2]
end Go.Proofs.Ytheaipbnbnjlgaa.Flow
