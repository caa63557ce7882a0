/- Cells held against one another; their parts. -/
import Derived.Test.YtheaipbnbnjlgaaCeFloor
import Derived.Test.YtheaipbnbnjlgaaWEqStruct
import Derived.Scope
namespace Go.Proofs.Ytheaipbnbnjlgaa.Ce
open Go.RowKit Go.Proofs.YtheaipbnbnjlgaaW.PrintWords Go.Proofs.YtheaipbnbnjlgaaW.PrintLast Go.Proofs.YtheaipbnbnjlgaaW.PrintMore
open Go.Proofs.Ytheaipbnbnjlgaa.Flow
set_option linter.unusedVariables false
set_option linter.unusedSimpArgs false
theorem eqA26 (d : Nat) (w : World) (x0 y0 : Int) (x1 y1 : Int) :
    (Op.equalIn (d + 2) 26 (.agg #[.int .i64 x0, .int .u64 x1]) (.agg #[.int .i64 y0, .int .u64 y1])).run Try.prog w = .ok (x0 == y0 && (x1 == y1)) w := by
  refine eqA_of Try.underlying26 (by kernel_rfl) ?_
  refine eqf_cons (by rfl) (by go_simp; rfl) (by go_simp; rfl) (by go_simp) ?_
  exact eqf_last (by rfl) (by go_simp; rfl) (by go_simp; rfl) (by go_simp)
theorem eqA28 (d : Nat) (w : World) (x0 y0 : Int) (x1 y1 : Int) (x2 y2 : Int) (x3 y3 : Int) :
    (Op.equalIn (d + 2) 28 (.agg #[.int .i64 x0, .int .i64 x1, .int .i64 x2, .int .i64 x3]) (.agg #[.int .i64 y0, .int .i64 y1, .int .i64 y2, .int .i64 y3])).run Try.prog w = .ok (x0 == y0 && (x1 == y1 && (x2 == y2 && (x3 == y3)))) w := by
  refine eqA_of Try.underlying28 (by kernel_rfl) ?_
  refine eqf_cons (by rfl) (by go_simp; rfl) (by go_simp; rfl) (by go_simp) ?_
  refine eqf_cons (by rfl) (by go_simp; rfl) (by go_simp; rfl) (by go_simp) ?_
  refine eqf_cons (by rfl) (by go_simp; rfl) (by go_simp; rfl) (by go_simp) ?_
  exact eqf_last (by rfl) (by go_simp; rfl) (by go_simp; rfl) (by go_simp)
theorem part_int {ty : TypeId} {cs : Array Value} {off : Nat} {v : Value} {w : World} (ha : (isAgg ty).run Try.prog w = .ok false w) (h : cs[off]? = some v) : (part ty cs off).run Try.prog w = .ok v w := by simp [part, ha, h]
theorem part_agg {ty : TypeId} {cs r : Array Value} {off n : Nat} {w : World} (ha : (isAgg ty).run Try.prog w = .ok true w) (hs : (sizeOf ty).run Try.prog w = .ok n w) (h : cs.extract off (off + n) = r) : (part ty cs off).run Try.prog w = .ok (.agg r) w := by simp [part, ha, hs, h]
theorem cA0 (c : CL) : (carr c)[0]? = some (.int .i64 c.cnt) := rfl
theorem cA1 (c : CL) : (carr c)[1]? = some (.int .i64 c.hi) := rfl
theorem cA2 (c : CL) : (carr c)[2]? = some (.int .u64 c.lo) := rfl
theorem cA3 (c : CL) : (carr c)[3]? = some (.int .i64 c.mn) := rfl
theorem cA4 (c : CL) : (carr c)[4]? = some (.int .i64 c.mx) := rfl
theorem cA5 (c : CL) : (carr c)[5]? = some (.int .i64 c.t) := rfl
theorem cA6 (c : CL) : (carr c)[6]? = some (.int .i64 c.src) := rfl
theorem cA7 (c : CL) : (carr c)[7]? = some (.int .i64 c.seq) := rfl
theorem cA8 (c : CL) : (carr c)[8]? = some (.int .i64 c.v) := rfl
theorem carr_ext (c : CL) (a b : Nat) : (carr c).extract a b = ((encC c).extract a b).toArray := by simp [carr]
theorem ext_sum (c : CL) : (carr c).extract 1 (1 + 2) = #[.int .i64 c.hi, .int .u64 c.lo] := by rw [carr_ext]; rfl
theorem ext_last (c : CL) : (carr c).extract 5 (5 + 4) = #[.int .i64 c.t, .int .i64 c.src, .int .i64 c.seq, .int .i64 c.v] := by rw [carr_ext]; rfl
theorem ext_hist (c : CL) : (carr c).extract 9 (9 + 65) = (encH c.h).toArray := by
  have h : ((encC c).extract 9 (9 + 65)) = encH c.h := by
    show ((encH c.h).take 65) = encH c.h
    exact List.take_of_length_le (by rw [encH_len]; omega)
  rw [carr_ext, h]
def eqC (a b : CL) : Bool := a.cnt == b.cnt && ((a.hi == b.hi && a.lo == b.lo) && (a.mn == b.mn && (a.mx == b.mx && ((a.t == b.t && (a.src == b.src && (a.seq == b.seq && a.v == b.v))) && eqH a.h b.h (List.range 65)))))
theorem eqC_iff (a b : CL) : eqC a b = true ↔ a = b := by
  unfold eqC
  simp only [Bool.and_eq_true, beq_iff_eq, eqH_iff]
  constructor
  · rintro ⟨h0, ⟨h1, h2⟩, h3, h4, ⟨h5, h6, h7, h8⟩, h9⟩
    cases a
    cases b
    simp_all
  · rintro rfl
    exact ⟨rfl, ⟨rfl, rfl⟩, rfl, rfl, ⟨rfl, rfl, rfl, rfl⟩, rfl⟩
theorem eqC_run (d : Nat) (w : World) (a b : CL) : (Op.equalIn (d + 4) 31 (.agg (carr a)) (.agg (carr b))).run Try.prog w = .ok (eqC a b) w := by
  have i3 : (isAgg 3).run Try.prog w = .ok false w := by kernel_rfl
  have iW : (isAgg 26).run Try.prog w = .ok true w := by kernel_rfl
  have sW : (sizeOf 26).run Try.prog w = .ok 2 w := by kernel_rfl
  have iL : (isAgg 28).run Try.prog w = .ok true w := by kernel_rfl
  have sL : (sizeOf 28).run Try.prog w = .ok 4 w := by kernel_rfl
  have iH : (isAgg 29).run Try.prog w = .ok true w := by kernel_rfl
  have sH : (sizeOf 29).run Try.prog w = .ok 65 w := by kernel_rfl
  have e3 : ∀ x y : Int, (Op.equalIn (d + 3) 3 (.int .i64 x) (.int .i64 y)).run Try.prog w = .ok (x == y) w := fun x y => by simp [Op.equalIn, run_underlying Try.underlying3]
  refine eqA_of Try.underlying31 (by kernel_rfl) ?_
  refine eqf_cons (by rfl) (part_int i3 (cA0 a)) (part_int i3 (cA0 b)) (e3 _ _) ?_
  refine eqf_cons (by rfl) (part_agg iW sW (ext_sum a)) (part_agg iW sW (ext_sum b)) (eqA26 (d + 1) w _ _ _ _) ?_
  refine eqf_cons (by rfl) (part_int i3 (cA3 a)) (part_int i3 (cA3 b)) (e3 _ _) ?_
  refine eqf_cons (by rfl) (part_int i3 (cA4 a)) (part_int i3 (cA4 b)) (e3 _ _) ?_
  refine eqf_cons (by rfl) (part_agg iL sL (ext_last a)) (part_agg iL sL (ext_last b)) (eqA28 (d + 1) w _ _ _ _ _ _ _ _) ?_
  refine eqf_last (by rfl) (part_agg iH sH (ext_hist a)) (part_agg iH sH (ext_hist b)) ?_
  obtain ⟨i, hi, hc⟩ : ∃ i, Try.prog.info? 3 = some i ∧ Try.prog.cellsOf 3 = 1 := ⟨_, rfl, by kernel_rfl⟩
  rw [show d + 3 = (d + 2) + 1 from rfl, run_equalIn_array (P := Try.prog) w (d + 2) _ _ Try.underlying29 hi, hc]
  exact items_hist (d + 1) a.h b.h w (List.range 65) (fun i hi => List.mem_range.1 hi)
theorem run_eq_cell (a b : CL) (w : World) : (binOp .eql 31 (.agg (carr a)) (.agg (carr b))).run Try.prog w = .ok (.bool (eqC a b)) w := by
  have h : (Op.equalIn Op.maxDepth 31 (.agg (carr a)) (.agg (carr b))).run Try.prog w = .ok (eqC a b) w := eqC_run 9996 w a b
  simp [binOp, Op.equal, h]
theorem run_ne_cell (a b : CL) (w : World) : (binOp .neq 31 (.agg (carr a)) (.agg (carr b))).run Try.prog w = .ok (.bool (!eqC a b)) w := by
  have h : (Op.equalIn Op.maxDepth 31 (.agg (carr a)) (.agg (carr b))).run Try.prog w = .ok (eqC a b) w := eqC_run 9996 w a b
  simp [binOp, Op.equal, h]
theorem guard_eq_cell (x y : Operand) (a b : CL) (w : World) : (do eqGuard .eql 31 x y (.agg (carr a)) (.agg (carr b)); binOp .eql 31 (.agg (carr a)) (.agg (carr b)) : Sem Value).run Try.prog w = .ok (.bool (eqC a b)) w := by
  have h : Try.prog.eqGuardType Try.prog.depth 31 = false := by kernel_rfl
  have h2 := run_eq_cell a b w
  simp [eqGuard, h, h2]
theorem guard_ne_cell (x y : Operand) (a b : CL) (w : World) : (do eqGuard .neq 31 x y (.agg (carr a)) (.agg (carr b)); binOp .neq 31 (.agg (carr a)) (.agg (carr b)) : Sem Value).run Try.prog w = .ok (.bool (!eqC a b)) w := by
  have h : Try.prog.eqGuardType Try.prog.depth 31 = false := by kernel_rfl
  have h2 := run_ne_cell a b w
  simp [eqGuard, h, h2]
def atF (f : Fin 65 → Int) (i : Nat) : Int := if h : i < 65 then f ⟨i, h⟩ else 0
theorem index_at (f : Fin 65 → Int) (i : Nat) (h : i < 65) (w : World) : (Instr.index 29 (.agg (encH f).toArray) (.int .i64 ((i : Nat) : Int))).run Try.prog w = .ok (.int .i64 (atF f i)) w := by
  rw [index_hist f i h, atF, dif_pos h]
theorem cHA (c : CL) (i : Nat) (h : i < 65) : (carr c)[9 + i]? = some (.int .i64 (atF c.h i)) := cH c i h
/-- The first j counts added. -/
def sumF (f g : Fin 65 → Int) (j : Nat) : Fin 65 → Int := fun i => if i.val < j then wrap64 (f i + g i) else f i
theorem sumF_zero (f g : Fin 65 → Int) : sumF f g 0 = f := by funext i; simp [sumF]
theorem sumF_full (f g : Fin 65 → Int) : sumF f g 65 = fun i => wrap64 (f i + g i) := by funext i; simp [sumF, i.isLt]
theorem sumF_at (f g : Fin 65 → Int) (j : Nat) : atF (sumF f g j) j = atF f j := by
  unfold atF sumF
  split
  · simp
  · rfl
theorem sumF_step (f g : Fin 65 → Int) (j : Nat) (h : j < 65) : updF (sumF f g j) j (wrap64 (atF f j + atF g j)) = sumF f g (j + 1) := by
  funext i
  unfold updF sumF atF
  rw [dif_pos h, dif_pos h]
  by_cases hi : i.val = j
  · have : i = ⟨j, h⟩ := Fin.ext hi
    subst this
    simp
  · rw [if_neg hi]
    by_cases h2 : i.val < j
    · rw [if_pos h2, if_pos (by omega)]
    · rw [if_neg h2, if_neg (by omega)]
/-- A sample's cell. -/
def oneC (src seq t v : Int) : CL := ⟨1, v / 9223372036854775808, v % 18446744073709551616, v, v, t, src, seq, v, updF (fun _ => 0) (blen v.natAbs) 1⟩
def laterC (a b : CL) : Bool := later a.t a.src a.seq a.v b.t b.src b.seq b.v
/-- Two cells joined. -/
def twoC (a b : CL) : CL := ⟨wrap64 (a.cnt + b.cnt), wrap64 (a.hi + b.hi + (a.lo + b.lo) / 18446744073709551616), (a.lo + b.lo) % 18446744073709551616, min a.mn b.mn, max a.mx b.mx,
  if laterC b a then b.t else a.t, if laterC b a then b.src else a.src, if laterC b a then b.seq else a.seq, if laterC b a then b.v else a.v, fun i => wrap64 (a.h i + b.h i)⟩
def LoOk (c : CL) : Prop := 0 ≤ c.lo ∧ c.lo < 18446744073709551616
theorem w_scope {P : Program} {ds : List Deferred} {m : Nat} {n : Nat} {Q : Exit → Act → World → Prop} {G : Env} {w : World} {c : Code} (h : W P ⟨ds, none, m⟩ n (Exit.noGoto Q) [Itm.code c] G w) : W P ⟨ds, none, m⟩ n Q [Itm.code (.scope c)] G w := fun a ha => by
  refine wpIn_wide.2 (wp_scope_straight ((wpIn_wide (n := m)).1 (wpIn_mono (h a ha) fun e a' w' q => ?_)))
  cases e <;> exact q
theorem w_retG {P : Program} {cx : Cx} {n : Nat} {Q : Exit → Act → World → Prop} {st : List Itm} {G : Env} {w : World} (h : ∀ a, Fits cx n G a → Q .ret a w) : W P cx n (Exit.noGoto Q) (Itm.code .ret :: st) G w := w_ret h
theorem w_label {P : Program} {cx : Cx} {n : Nat} {Q : Exit → Act → World → Prop} {st : List Itm} {G : Env} {w : World} {l : Nat} (h : W P cx n Q st G w) : W P cx n Q (Itm.code (.label l) :: st) G w := fun a ha => wpIn_label (h a ha)
/-! ### Cells joined -/
def joinStep (s : CL × Bool) (c : CL) : CL × Bool := if eqC c CL.unit then s else if s.2 then (twoC s.1 c, true) else (c, true)
def joinS (l : List CL) : CL × Bool := l.foldl joinStep (CL.unit, false)
def joinC (l : List CL) : CL := (joinS l).1
theorem joinS_succ (l : List CL) (j : Nat) (h : j < l.length) : joinS (l.take (j + 1)) = joinStep (joinS (l.take j)) (l.getD j CL.unit) := by
  have e : l.getD j CL.unit = l[j] := by rw [List.getD_eq_getElem?_getD, List.getElem?_eq_getElem h]; rfl
  unfold joinS
  rw [List.take_succ_eq_append_getElem h, List.foldl_append, e]
  rfl
theorem two_lo (a b : CL) : LoOk (twoC a b) := by
  unfold LoOk twoC
  simp only
  omega
theorem joinS_lo : ∀ (l : List CL) (s : CL × Bool), LoOk s.1 → (∀ c ∈ l, LoOk c) → LoOk (l.foldl joinStep s).1
  | [], s, h, _ => h
  | c :: l, s, h, hl => by
    rw [List.foldl_cons]
    refine joinS_lo l _ ?_ (fun x hx => hl x (List.mem_cons_of_mem _ hx))
    unfold joinStep
    split
    · exact h
    · split
      · exact two_lo _ _
      · exact hl c (by simp)
theorem join_lo {l : List CL} (h : ∀ c ∈ l, LoOk c) : LoOk (joinC l) := joinS_lo l _ (by unfold LoOk; decide) h
theorem getD_mem {α : Type} (l : List α) (j : Nat) (z : α) (h : j < l.length) : l.getD j z ∈ l := by
  rw [List.getD_eq_getElem?_getD, List.getElem?_eq_getElem h]
  exact List.getElem_mem h
theorem seg_cnt (c : CL) (x : Int) : segd (carr c) 0 [.int .i64 x] = carr { c with cnt := x } := rfl
theorem seg_sum (c : CL) (x y : Int) : segd (carr c) 1 [.int .i64 x, .int .u64 y] = carr { c with hi := x, lo := y } := rfl
theorem seg_mn (c : CL) (x : Int) : segd (carr c) 3 [.int .i64 x] = carr { c with mn := x } := rfl
theorem seg_mx (c : CL) (x : Int) : segd (carr c) 4 [.int .i64 x] = carr { c with mx := x } := rfl
theorem seg_last (c : CL) (a b d e : Int) : segd (carr c) 5 [.int .i64 a, .int .i64 b, .int .i64 d, .int .i64 e] = carr { c with t := a, src := b, seq := d, v := e } := rfl
theorem seg_all (c d : CL) : segd (carr c) 0 (encC d) = carr d := by
  unfold segd
  have h1 : (carr c).toList.drop (0 + (encC d).length) = [] := List.drop_of_length_le (by rw [encC_len]; simp [carr, encC_len])
  rw [h1]
  simp [carr]
end Go.Proofs.Ytheaipbnbnjlgaa.Ce
