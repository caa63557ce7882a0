/- A cell in memory: a struct of nine words and sixty-five counts, loaded, stored, compared whole or in part. -/
import Derived.Test.YtheaipbnbnjlgaaFlowV
import Derived.Test.YtheaipbnbnjlgaaFlowX
import Derived.Test.YtheaipbnbnjlgaaProg
import Derived.ChangeKeysEq
import Derived.Laws.StructEq
namespace Go.Proofs.Ytheaipbnbnjlgaa.Ce
open Go.RowKit Go.Proofs.YtheaipbnbnjlgaaW.PrintWords Go.Proofs.YtheaipbnbnjlgaaW.PrintLast Go.Proofs.YtheaipbnbnjlgaaW.PrintMore
open Go.Proofs.Ytheaipbnbnjlgaa.Flow
set_option linter.unusedVariables false
set_option linter.unusedSimpArgs false
/-! ### Parts of blocks -/
section
variable {P : Program} {w : World} {g : Nat} {t : TypeId} {cs : Array Value}
theorem add_off (g o j : Nat) : (⟨g, o, none⟩ : Addr).add j = ⟨g, o + j, none⟩ := by unfold Addr.add; split <;> simp_all
theorem load_seg {ty : TypeId} (hb : Blk w g t cs) (off : Nat) (l : List Value) (hagg : (isAgg ty).run P w = .ok true w) (hsz : (sizeOf ty).run P w = .ok l.length w) (hl : ∀ j v, l[j]? = some v → cs[off + j]? = some v) :
    (Instr.loadAt ty (.pointer (some ⟨g, off, none⟩))).run P w = .ok (.agg l.toArray) w := by
  have h1 := run_loadCells_list (P := P) w ⟨g, off, none⟩ l (fun j v hj => by rw [add_off]; exact hb.cellv (hl j v hj))
  unfold loadCells at h1
  simp [go_sem, Instr.loadAt, loadVar, hagg, hsz, h1]
/-- A block with a part written. -/
def segd (cs : Array Value) (off : Nat) (l : List Value) : Array Value := (cs.toList.take off ++ l ++ cs.toList.drop (off + l.length)).toArray
theorem below_drew (w : World) : Below w.heap.size w w.drew := ⟨rfl, rfl, rfl, Nat.le_refl _, fun _ _ => rfl⟩
theorem setRow_keep (w : World) (g : Nat) (c : Array Value) : Keep g w (w.setRow g c) :=
  ⟨rfl, rfl, rfl, by simp [World.setRow], fun k hk => by simp [World.setRow, Array.getElem?_modify, Ne.symm hk]⟩
theorem store_seg {ty : TypeId} {v : Value} (hb : Blk w g t cs) (off : Nat) (hsz : (sizeOf ty).run P w = .ok v.cells.size w) (hfit : off + v.cells.size ≤ cs.size) (h1 : ∀ u ∈ v.cells.toList, u.oneCell' = true) :
    (Instr.storeAt ty (.pointer (some ⟨g, off, none⟩)) v).run P w = .ok () (w.setRow g (segd cs off v.cells.toList)) := by
  have h2 := run_storeCells_at (P := P) g off t v.cells.toList 0 cs w hb (by simpa using hfit) h1
  simp only [Nat.add_zero] at h2
  have h3 : (segd cs off v.cells.toList) = (cs.toList.take off ++ v.cells.toList ++ cs.toList.drop (off + v.cells.toList.length)).toArray := rfl
  rw [h3, ← h2]
  simp [go_sem, Instr.storeAt, storeVar, hsz]
theorem Blk.setRow (hb : Blk w g t cs) (c : Array Value) : Blk (w.setRow g c) g t c := setRow_heap w g cs c t _ hb
end
section
variable {P : Program} {cx : Cx} {n : Nat} {Q : Exit → Act → World → Prop} {st : List Itm} {G : Env} {w : World} {ops : Array Oper} {o : Oper} {rest : List Oper}
theorem run_sk {s : Sem Unit} {w w' : World} (h : s.run P w = .ok () w') : (do let _ ← s; pure Next.skip : Sem Next).run P w = .ok .skip w' := by simp [h]
/-- A store of a part. -/
theorem rw_seg {g off : Nat} {t ty : TypeId} {p x : Operand} {v : Value} {cs cs' : Array Value} (hg : o.guard = none) (hd : o.dst = none) (hk : known G o = true) (ho : o.op = .store ty p x) (hp : sEv G p = .pointer (some ⟨g, off, none⟩)) (hx : sEv G x = v) (hb : Blk w g t cs)
    (hsz : (sizeOf ty).run P w = .ok v.cells.size w) (hfit : off + v.cells.size ≤ cs.size) (h1 : ∀ u ∈ v.cells.toList, u.oneCell' = true) (hcs : segd cs off v.cells.toList = cs')
    (k : ∀ w', Keep g w w' → Blk w' g t cs' → RW P ops cx n Q rest G w') : RW P ops cx n Q (o :: rest) G w := by
  refine rw_skip hg hd hk ?_ (k _ (setRow_keep w g cs') (Blk.setRow hb cs'))
  have h2 := store_seg (P := P) hb off hsz hfit h1
  rw [hcs] at h2
  unfold execOp
  simp only [ho, hp, hx]
  simp [h2]
end
/-! ### Cells -/
structure CL where
  cnt : Int
  hi : Int
  lo : Int
  mn : Int
  mx : Int
  t : Int
  src : Int
  seq : Int
  v : Int
  h : Fin 65 → Int
def encH (f : Fin 65 → Int) : List Value := List.ofFn (fun i => Value.int .i64 (f i))
def encC (c : CL) : List Value := .int .i64 c.cnt :: .int .i64 c.hi :: .int .u64 c.lo :: .int .i64 c.mn :: .int .i64 c.mx :: .int .i64 c.t :: .int .i64 c.src :: .int .i64 c.seq :: .int .i64 c.v :: encH c.h
def carr (c : CL) : Array Value := (encC c).toArray
def CL.unit : CL := ⟨0, 0, 0, 0, 0, 0, 0, 0, 0, fun _ => 0⟩
def CL.at (c : CL) (i : Nat) : Int := if h : i < 65 then c.h ⟨i, h⟩ else 0
def updF (f : Fin 65 → Int) (i : Nat) (x : Int) : Fin 65 → Int := fun k => if k.val = i then x else f k
theorem encH_len (f : Fin 65 → Int) : (encH f).length = 65 := by simp [encH]
theorem encC_len (c : CL) : (encC c).length = 74 := by simp [encC, encH_len]
theorem carr_size (c : CL) : (carr c).size = 74 := by simp [carr, encC_len]
theorem encH_one (f : Fin 65 → Int) (u : Value) (hu : u ∈ encH f) : u.oneCell' = true := by
  unfold encH at hu
  obtain ⟨i, hi⟩ := List.mem_ofFn.1 hu
  rw [← hi]
  rfl
theorem encC_one (c : CL) (u : Value) (hu : u ∈ encC c) : u.oneCell' = true := by
  unfold encC at hu
  simp only [List.mem_cons] at hu
  rcases hu with rfl | rfl | rfl | rfl | rfl | rfl | rfl | rfl | rfl | hu
  iterate 9 rfl
  exact encH_one _ _ hu
abbrev kCell : Kd CL := flat 74 encC encC_len encC_one
theorem encH_get (f : Fin 65 → Int) (i : Nat) (h : i < 65) : (encH f)[i]? = some (.int .i64 (f ⟨i, h⟩)) := by
  unfold encH
  rw [List.getElem?_ofFn, dif_pos h]
theorem cH (c : CL) (i : Nat) (h : i < 65) : (carr c)[9 + i]? = some (.int .i64 (c.at i)) := by
  have e : c.at i = c.h ⟨i, h⟩ := by unfold CL.at; rw [dif_pos h]
  rw [e]
  have h2 := encH_get c.h i h
  simp only [carr, encC, List.getElem?_toArray]
  rw [show 9 + i = i + 9 by omega]
  exact h2
theorem set_H (f : Fin 65 → Int) (i : Nat) (h : i < 65) (x : Int) : (encH f).take i ++ [Value.int .i64 x] ++ (encH f).drop (i + 1) = encH (updF f i x) := by
  have h1 : (encH f).set i (.int .i64 x) = encH (updF f i x) := by
    apply List.ext_getElem?
    intro j
    rw [List.getElem?_set]
    by_cases hj : j < 65
    · rw [encH_get f j hj, encH_get (updF f i x) j hj, encH_len]
      unfold updF
      by_cases hij : i = j
      · subst hij
        simp [h]
      · rw [if_neg hij, if_neg (by simpa using Ne.symm hij)]
    · rw [List.getElem?_eq_none (by rw [encH_len]; omega), List.getElem?_eq_none (by rw [encH_len]; omega), if_neg (by omega)]
  rw [← h1, List.set_eq_take_append_cons_drop, if_pos (by rw [encH_len]; exact h)]
  simp
theorem seg_h (c : CL) (i : Nat) (h : i < 65) (x : Int) : segd (carr c) (9 + i) [Value.int .i64 x] = carr { c with h := updF c.h i x } := by
  have h1 := set_H c.h i h x
  have e : ∀ (l : List Value), (encC c).take (9 + i) = .int .i64 c.cnt :: .int .i64 c.hi :: .int .u64 c.lo :: .int .i64 c.mn :: .int .i64 c.mx :: .int .i64 c.t :: .int .i64 c.src :: .int .i64 c.seq :: .int .i64 c.v :: (encH c.h).take i := fun l => by
    rw [show 9 + i = i + 9 by omega]
    rfl
  have e2 : (encC c).drop (9 + i + 1) = (encH c.h).drop (i + 1) := by
    rw [show 9 + i + 1 = (i + 1) + 9 by omega]
    rfl
  unfold segd
  show ((encC c).take (9 + i) ++ [Value.int .i64 x] ++ (encC c).drop (9 + i + 1)).toArray = _
  rw [e [], e2]
  unfold carr encC
  rw [← h1]
  simp
theorem load_cell {w : World} {g t : Nat} {c : CL} (hb : Blk w g t (carr c)) : (Instr.loadAt 31 (.pointer (some ⟨g, 0, none⟩))).run Try.prog w = .ok (.agg (carr c)) w :=
  load_seg hb 0 (encC c) (by kernel_rfl) (by rw [encC_len]; kernel_rfl) (fun j v hj => by simpa [carr] using hj)
theorem load_hist {w : World} {g t : Nat} {c : CL} (hb : Blk w g t (carr c)) : (Instr.loadAt 29 (.pointer (some ⟨g, 9, none⟩))).run Try.prog w = .ok (.agg (encH c.h).toArray) w :=
  load_seg hb 9 (encH c.h) (by kernel_rfl) (by rw [encH_len]; kernel_rfl) (fun j v hj => by
    simp only [carr, encC, List.getElem?_toArray]
    rw [show 9 + j = j + 9 by omega]
    exact hj)
theorem index_hist (f : Fin 65 → Int) (i : Nat) (h : i < 65) (w : World) : (Instr.index 29 (.agg (encH f).toArray) (.int .i64 ((i : Nat) : Int))).run Try.prog w = .ok (.int .i64 (f ⟨i, h⟩)) w := by
  have h1 := encH_get f i h
  have h2 : (part 3 (encH f).toArray i).run Try.prog w = .ok (.int .i64 (f ⟨i, h⟩)) w := by
    have ha : (isAgg 3).run Try.prog w = .ok false w := by kernel_rfl
    simp [part, ha, h1, go_sem]
  have h3 : (sizeOf 3).run Try.prog w = .ok 1 w := by kernel_rfl
  have h4 : ((i : Nat) : Int) < 65 := by omega
  simp [Instr.index, asIntOf, run_underlying Try.underlying29, h2, h3, h4, h]
theorem addr_hist {g : Nat} (i : Nat) (h : i < 65) (w : World) : (Instr.indexAt 29 (.pointer (some ⟨g, 9, none⟩)) (.int .i64 ((i : Nat) : Int))).run Try.prog w = .ok (.pointer (some ⟨g, 9 + i, none⟩)) w := by
  have h3 : (sizeOf 3).run Try.prog w = .ok 1 w := by kernel_rfl
  have h4 : ((i : Nat) : Int) < 65 := by omega
  simp [Instr.indexAt, asIntOf, run_underlying Try.underlying29, h3, h4, h, add_off, go_sem]
/-! ### Comparison -/
def eqH (a b : Fin 65 → Int) : List Nat → Bool
  | [] => true
  | i :: is => (if h : i < 65 then a ⟨i, h⟩ == b ⟨i, h⟩ else true) && eqH a b is
theorem items_hist (d : Nat) (a b : Fin 65 → Int) (w : World) : ∀ (is : List Nat), (∀ i ∈ is, i < 65) → (Op.eqItems (d + 1) 3 1 (encH a).toArray (encH b).toArray is).run Try.prog w = .ok (eqH a b is) w
  | [], _ => by simp [Op.eqItems, eqH]
  | i :: is, hi => by
    have h := hi i (by simp)
    have ih := items_hist d a b w is (fun j hj => hi j (by simp [hj]))
    have p : ∀ (f : Fin 65 → Int), (part 3 (encH f).toArray (i * 1)).run Try.prog w = .ok (.int .i64 (f ⟨i, h⟩)) w := fun f => by
      have ha : (isAgg 3).run Try.prog w = .ok false w := by kernel_rfl
      have h1 := encH_get f i h
      simp [part, ha, h1, go_sem]
    have he : (Op.equalIn (d + 1) 3 (.int .i64 (a ⟨i, h⟩)) (.int .i64 (b ⟨i, h⟩))).run Try.prog w = .ok (a ⟨i, h⟩ == b ⟨i, h⟩) w := by
      simp [Op.equalIn, run_underlying Try.underlying3]
    simp only [Op.eqItems, Sem.run_bind, p a, p b, he, Result.andThen_ok, eqH, dif_pos h]
    cases (a ⟨i, h⟩ == b ⟨i, h⟩)
    · simp
    · simpa using ih
theorem eqH_iff (a b : Fin 65 → Int) : eqH a b (List.range 65) = true ↔ a = b := by
  have gen : ∀ is : List Nat, eqH a b is = true ↔ ∀ i ∈ is, ∀ h : i < 65, a ⟨i, h⟩ = b ⟨i, h⟩ := by
    intro is
    induction is with
    | nil => simp [eqH]
    | cons i is ih =>
      simp only [eqH, Bool.and_eq_true, ih, List.forall_mem_cons]
      constructor
      · rintro ⟨h1, h2⟩
        exact ⟨fun h => by rw [dif_pos h] at h1; simpa using h1, h2⟩
      · rintro ⟨h1, h2⟩
        refine ⟨?_, h2⟩
        split
        · rename_i h
          simpa using h1 h
        · rfl
  rw [gen]
  constructor
  · intro h
    funext i
    exact h i.val (List.mem_range.2 i.isLt) i.isLt
  · rintro rfl i _ _
    rfl
end Go.Proofs.Ytheaipbnbnjlgaa.Ce
