/- Parts of the proofs of noteReads_holds: CeEq, FlowN, Xn, CeNums, CeUnit, FlowW, FlowO, WTab, WRepsOne, PNoteReadsx0, FrLen, FrCut, FrPlain, FrCut2, FrPlain2, FrPlain4, FrWrap, FrCut4, FrPlain5, FrRef, FlowL, FrCopy. -/
import Derived.Scope
import Derived.Laws.Bits64b
import Derived.Laws.Bits64
import Derived.Test.YtbbhdohjhipalaaQD1
section
namespace Go.Proofs.Ytbbhdohjhipalaa.Ce
open Go.RowKit Go.Proofs.YtbbhdohjhipalaaW.PrintWords Go.Proofs.YtbbhdohjhipalaaW.PrintLast Go.Proofs.YtbbhdohjhipalaaW.PrintMore
open Go.Proofs.Ytbbhdohjhipalaa.Flow
set_option linter.unusedVariables false
set_option linter.unusedSimpArgs false
theorem eqA76 (d : Nat) (w : World) (x0 y0 : Int) (x1 y1 : Int) :
    (Op.equalIn (d + 2) 76 (.agg #[.int .i64 x0, .int .u64 x1]) (.agg #[.int .i64 y0, .int .u64 y1])).run Try.prog w = .ok (x0 == y0 && (x1 == y1)) w := by
  refine eqA_of Try.underlying76 (by kernel_rfl) ?_
  refine eqf_cons (by rfl) (by go_simp; rfl) (by go_simp; rfl) (by go_simp) ?_
  exact eqf_last (by rfl) (by go_simp; rfl) (by go_simp; rfl) (by go_simp)
theorem eqA78 (d : Nat) (w : World) (x0 y0 : Int) (x1 y1 : Int) (x2 y2 : Int) (x3 y3 : Int) :
    (Op.equalIn (d + 2) 78 (.agg #[.int .i64 x0, .int .i64 x1, .int .i64 x2, .int .i64 x3]) (.agg #[.int .i64 y0, .int .i64 y1, .int .i64 y2, .int .i64 y3])).run Try.prog w = .ok (x0 == y0 && (x1 == y1 && (x2 == y2 && (x3 == y3)))) w := by
  refine eqA_of Try.underlying78 (by kernel_rfl) ?_
  refine eqf_cons (by rfl) (by go_simp; rfl) (by go_simp; rfl) (by go_simp) ?_
  refine eqf_cons (by rfl) (by go_simp; rfl) (by go_simp; rfl) (by go_simp) ?_
  refine eqf_cons (by rfl) (by go_simp; rfl) (by go_simp; rfl) (by go_simp) ?_
  exact eqf_last (by rfl) (by go_simp; rfl) (by go_simp; rfl) (by go_simp)
theorem part_int {ty : TypeId} {cs : Array Value} {off : Nat} {v : Value} {w : World} (ha : (isAgg ty).run Try.prog w = .ok false w) (h : cs[off]? = some v) : (part ty cs off).run Try.prog w = .ok v w := by simp [part, ha, h]
theorem part_agg {ty : TypeId} {cs r : Array Value} {off n : Nat} {w : World} (ha : (isAgg ty).run Try.prog w = .ok true w) (hs : (sizeOf ty).run Try.prog w = .ok n w) (h : cs.extract off (off + n) = r) : (part ty cs off).run Try.prog w = .ok (.agg r) w := by simp [part, ha, hs, h]
theorem cA0 (c : CL) : (carr c)[0]? = some (.int .i64 c.cnt) := rfl
theorem cA1 (c : CL) : (carr c)[1]? = some (.int .i64 c.hi) := rfl
theorem cA2 (c : CL) : (carr c)[2]? = some (.int .u64 c.lo) := rfl
theorem cA3 (c : CL) : (carr c)[3]? = some (.int .i64 c.mn) := rfl
theorem cA4 (c : CL) : (carr c)[4]? = some (.int .i64 c.mx) := rfl
theorem cA5 (c : CL) : (carr c)[5]? = some (.int .i64 c.t) := rfl
theorem cA6 (c : CL) : (carr c)[6]? = some (.int .i64 c.src) := rfl
theorem cA7 (c : CL) : (carr c)[7]? = some (.int .i64 c.seq) := rfl
theorem cA8 (c : CL) : (carr c)[8]? = some (.int .i64 c.v) := rfl
theorem carr_ext (c : CL) (a b : Nat) : (carr c).extract a b = ((encC c).extract a b).toArray := by simp [carr]
theorem ext_sum (c : CL) : (carr c).extract 1 (1 + 2) = #[.int .i64 c.hi, .int .u64 c.lo] := by rw [carr_ext]; rfl
theorem ext_last (c : CL) : (carr c).extract 5 (5 + 4) = #[.int .i64 c.t, .int .i64 c.src, .int .i64 c.seq, .int .i64 c.v] := by rw [carr_ext]; rfl
theorem ext_hist (c : CL) : (carr c).extract 9 (9 + 65) = (encH c.h).toArray := by
  have h : ((encC c).extract 9 (9 + 65)) = encH c.h := by
    show ((encH c.h).take 65) = encH c.h
    exact List.take_of_length_le (by rw [encH_len]; omega)
  rw [carr_ext, h]
def eqC (a b : CL) : Bool := a.cnt == b.cnt && ((a.hi == b.hi && a.lo == b.lo) && (a.mn == b.mn && (a.mx == b.mx && ((a.t == b.t && (a.src == b.src && (a.seq == b.seq && a.v == b.v))) && eqH a.h b.h (List.range 65)))))
theorem eqC_iff (a b : CL) : eqC a b = true ↔ a = b := by
  unfold eqC
  simp only [Bool.and_eq_true, beq_iff_eq, eqH_iff]
  constructor
  · rintro ⟨h0, ⟨h1, h2⟩, h3, h4, ⟨h5, h6, h7, h8⟩, h9⟩
    cases a
    cases b
    simp_all
  · rintro rfl
    exact ⟨rfl, ⟨rfl, rfl⟩, rfl, rfl, ⟨rfl, rfl, rfl, rfl⟩, rfl⟩
set_option maxRecDepth 100000 in
theorem eqC_run (d : Nat) (w : World) (a b : CL) : (Op.equalIn (d + 4) 81 (.agg (carr a)) (.agg (carr b))).run Try.prog w = .ok (eqC a b) w := by
  have i3 : (isAgg 3).run Try.prog w = .ok false w := by kernel_rfl
  have iW : (isAgg 76).run Try.prog w = .ok true w := by kernel_rfl
  have sW : (sizeOf 76).run Try.prog w = .ok 2 w := by kernel_rfl
  have iL : (isAgg 78).run Try.prog w = .ok true w := by kernel_rfl
  have sL : (sizeOf 78).run Try.prog w = .ok 4 w := by kernel_rfl
  have iH : (isAgg 79).run Try.prog w = .ok true w := by kernel_rfl
  have sH : (sizeOf 79).run Try.prog w = .ok 65 w := by kernel_rfl
  have e3 : ∀ x y : Int, (Op.equalIn (d + 3) 3 (.int .i64 x) (.int .i64 y)).run Try.prog w = .ok (x == y) w := fun x y => by simp [Op.equalIn, run_underlying Try.underlying3]
  refine eqA_of Try.underlying81 (by kernel_rfl) ?_
  refine eqf_cons (by rfl) (part_int i3 (cA0 a)) (part_int i3 (cA0 b)) (e3 _ _) ?_
  refine eqf_cons (by rfl) (part_agg iW sW (ext_sum a)) (part_agg iW sW (ext_sum b)) (eqA76 (d + 1) w _ _ _ _) ?_
  refine eqf_cons (by rfl) (part_int i3 (cA3 a)) (part_int i3 (cA3 b)) (e3 _ _) ?_
  refine eqf_cons (by rfl) (part_int i3 (cA4 a)) (part_int i3 (cA4 b)) (e3 _ _) ?_
  refine eqf_cons (by rfl) (part_agg iL sL (ext_last a)) (part_agg iL sL (ext_last b)) (eqA78 (d + 1) w _ _ _ _ _ _ _ _) ?_
  refine eqf_last (by rfl) (part_agg iH sH (ext_hist a)) (part_agg iH sH (ext_hist b)) ?_
  obtain ⟨i, hi, hc⟩ : ∃ i, Try.prog.info? 3 = some i ∧ Try.prog.cellsOf 3 = 1 := ⟨_, rfl, by kernel_rfl⟩
  rw [show d + 3 = (d + 2) + 1 from rfl, run_equalIn_array (P := Try.prog) w (d + 2) _ _ Try.underlying79 hi, hc]
  exact items_hist (d + 1) a.h b.h w (List.range 65) (fun i hi => List.mem_range.1 hi)
def atF (f : Fin 65 → Int) (i : Nat) : Int := if h : i < 65 then f ⟨i, h⟩ else 0
theorem index_at (f : Fin 65 → Int) (i : Nat) (h : i < 65) (w : World) : (Instr.index 79 (.agg (encH f).toArray) (.int .i64 ((i : Nat) : Int))).run Try.prog w = .ok (.int .i64 (atF f i)) w := by
  rw [index_hist f i h, atF, dif_pos h]
theorem cHA (c : CL) (i : Nat) (h : i < 65) : (carr c)[9 + i]? = some (.int .i64 (atF c.h i)) := cH c i h
def LoOk (c : CL) : Prop := 0 ≤ c.lo ∧ c.lo < 18446744073709551616
theorem w_scope {P : Program} {ds : List Deferred} {m : Nat} {n : Nat} {Q : Exit → Act → World → Prop} {G : Env} {w : World} {c : Code} (h : W P ⟨ds, none, m⟩ n (Exit.noGoto Q) [Itm.code c] G w) : W P ⟨ds, none, m⟩ n Q [Itm.code (.scope c)] G w := fun a ha => by
  refine wpIn_wide.2 (wp_scope_straight ((wpIn_wide (n := m)).1 (wpIn_mono (h a ha) fun e a' w' q => ?_)))
  cases e <;> exact q
theorem w_retG {P : Program} {cx : Cx} {n : Nat} {Q : Exit → Act → World → Prop} {st : List Itm} {G : Env} {w : World} (h : ∀ a, Fits cx n G a → Q .ret a w) : W P cx n (Exit.noGoto Q) (Itm.code .ret :: st) G w := w_ret h
theorem w_label {P : Program} {cx : Cx} {n : Nat} {Q : Exit → Act → World → Prop} {st : List Itm} {G : Env} {w : World} {l : Nat} (h : W P cx n Q st G w) : W P cx n Q (Itm.code (.label l) :: st) G w := fun a ha => wpIn_label (h a ha)
theorem getD_mem {α : Type} (l : List α) (j : Nat) (z : α) (h : j < l.length) : l.getD j z ∈ l := by
  rw [List.getD_eq_getElem?_getD, List.getElem?_eq_getElem h]
  exact List.getElem_mem h
theorem seg_all (c d : CL) : segd (carr c) 0 (encC d) = carr d := by
  unfold segd
  have h1 : (carr c).toList.drop (0 + (encC d).length) = [] := List.drop_of_length_le (by rw [encC_len]; simp [carr, encC_len])
  rw [h1]
  simp [carr]
end Go.Proofs.Ytbbhdohjhipalaa.Ce
end
section
namespace Go.Proofs.Ytbbhdohjhipalaa.Flow
open Go.RowKit
section
variable {P : Program} {cx : Cx} {n : Nat} {Q : Exit → Act → World → Prop} {G : Env} {w : World} {ops : Array Oper} {o : Oper} {rest : List Oper}
theorem rv {d : Nat} (v : Value) (k : RW P ops cx n Q rest ((d, v) :: G) w) (hg : o.guard = none := by rfl) (hd : o.dst = some d := by rfl) (hdn : Nat.blt d n = true := by rfl) (hk : known G o = true := by rfl) (hrun : (execOp (sEv G) o).run P w = .ok (.value v) w := by rfl) : RW P ops cx n Q (o :: rest) G w := rw_val hg hd hdn hk hrun k
theorem rz {d : Nat} (v : Value) (hrun : (execOp (sEv G) o).run P w = .ok (.value v) w) (k : RW P ops cx n Q rest ((d, v) :: G) w) (hg : o.guard = none := by rfl) (hd : o.dst = some d := by rfl) (hdn : Nat.blt d n = true := by rfl) (hk : known G o = true := by rfl) : RW P ops cx n Q (o :: rest) G w := rw_val hg hd hdn hk hrun k
end
end Go.Proofs.Ytbbhdohjhipalaa.Flow
end
section
namespace Go.Proofs.Ytbbhdohjhipalaa.Flow
open Go.RowKit
set_option linter.unusedVariables false
section
variable {P : Program} {cx : Cx} {n : Nat} {Q : Exit → Act → World → Prop} {st : List Itm} {G : Env} {w : World} {ops : Array Oper} {o : Oper} {rest : List Oper}
theorem rs {d : Nat} (v : Value) (k : RW P ops cx n Q rest ((d, v) :: G) w) (hg : o.guard = none := by rfl) (hd : o.dst = some d := by rfl) (hdn : Nat.blt d n = true := by rfl) (hk : known G o = true := by rfl) (hrun : (execOp (sEv G) o).run P w = .ok (.value v) w := by simp [go_sem, sEv, sLook, nbeq, i64_w, -List.getD_eq_getElem?_getD]) : RW P ops cx n Q (o :: rest) G w := rw_val hg hd hdn hk hrun k
theorem ru {d : Nat} (v : Value) (k : RW Try.prog ops cx n Q rest ((d, v) :: G) w) (hg : o.guard = none := by rfl) (hd : o.dst = some d := by rfl) (hdn : Nat.blt d n = true := by rfl) (hk : known G o = true := by rfl) (hrun : (execOp (sEv G) o).run Try.prog w = .ok (.value v) w := by simp [go_sem, sEv, sLook, nbeq, i64_w, -List.getD_eq_getElem?_getD, Try.underlying22, Try.underlying23, Try.underlying24, Try.underlying26, Try.underlying3, Try.underlying47, Try.underlying55, Try.underlying68, Try.underlying73, Try.underlying76, Try.underlying78, Try.underlying81, Try.underlying83, Try.underlying90]) : RW Try.prog ops cx n Q (o :: rest) G w := rw_val hg hd hdn hk hrun k
theorem rl {d g t : Nat} {cs : Array Value} (hb : Blk w g t cs) (i : Nat) (v : Value) (k : RW Try.prog ops cx n Q rest ((d, v) :: G) w) (hc : cs[i]? = some v := by rfl) (hg : o.guard = none := by rfl) (hd : o.dst = some d := by rfl) (hdn : Nat.blt d n = true := by rfl) (hk : known G o = true := by rfl) (hrun : w.cell? ⟨g, i, none⟩ = some v → (execOp (sEv G) o).run Try.prog w = .ok (.value v) w := by intro e0_; simp [go_sem, sEv, sLook, nbeq, i64_w, -List.getD_eq_getElem?_getD, e0_, Try.underlying22, Try.underlying23, Try.underlying24, Try.underlying26, Try.underlying3, Try.underlying47, Try.underlying55, Try.underlying68, Try.underlying73, Try.underlying76, Try.underlying78, Try.underlying81, Try.underlying83, Try.underlying90]) : RW Try.prog ops cx n Q (o :: rest) G w := rw_val hg hd hdn hk (hrun (hb.cellv hc)) k
theorem rp {d : Nat} {c b : Bool} (hq : c = b) (v : Value) (k : RW P ops cx n Q rest ((d, v) :: G) w) (hg : o.guard = none := by rfl) (hd : o.dst = some d := by rfl) (hdn : Nat.blt d n = true := by rfl) (hk : known G o = true := by rfl) (hrun : c = b → (execOp (sEv G) o).run P w = .ok (.value v) w := by intro h_; first | (simp [go_sem, sEv, sLook, nbeq, i64_w, -List.getD_eq_getElem?_getD, h_]; done) | (rw [h_]; simp [go_sem, sEv, sLook, nbeq, i64_w, -List.getD_eq_getElem?_getD]; done) | (simp [go_sem, sEv, sLook, nbeq, i64_w, -List.getD_eq_getElem?_getD] <;> omega) | (simp [go_sem, sEv, sLook, nbeq, i64_w, -List.getD_eq_getElem?_getD]; intro h2_; exact absurd (by omega) h2_)) : RW P ops cx n Q (o :: rest) G w := rw_val hg hd hdn hk (hrun hq) k
theorem ro {g t d : Nat} {b : Bool} (c : Bool) (k : RW P ops cx n Q rest ((d, undef) :: G) w) (hgd : o.guard = some (g, b) := by rfl) (ht : (ops[g]?).bind (·.dst) = some t := by rfl) (hl : sLook G t = some (.bool c) := by rfl) (hne : (c == b) = false := by rfl) (hd : o.dst = some d := by rfl) (hdn : Nat.blt d n = true := by rfl) : RW P ops cx n Q (o :: rest) G w := rw_off hgd ht hl hne hd hdn k
theorem rok {g t d : Nat} {b c c2 : Bool} (hq : c = c2) (k : RW P ops cx n Q rest ((d, undef) :: G) w) (hgd : o.guard = some (g, b) := by rfl) (ht : (ops[g]?).bind (·.dst) = some t := by rfl) (hl : sLook G t = some (.bool c) := by rfl) (hne : (c2 == b) = false := by rfl) (hd : o.dst = some d := by rfl) (hdn : Nat.blt d n = true := by rfl) : RW P ops cx n Q (o :: rest) G w := rw_off hgd ht hl (by rw [hq]; exact hne) hd hdn k
theorem rn {g t : Nat} {b : Bool} (c : Bool) (k : RW P ops cx n Q ({ o with guard := none } :: rest) G w) (hgd : o.guard = some (g, b) := by rfl) (ht : (ops[g]?).bind (·.dst) = some t := by rfl) (hl : sLook G t = some (.bool c) := by rfl) (he : (c == b) = true := by rfl) : RW P ops cx n Q (o :: rest) G w := rw_on hgd ht hl he k
theorem rnk {g t : Nat} {b c c2 : Bool} (hq : c = c2) (k : RW P ops cx n Q ({ o with guard := none } :: rest) G w) (hgd : o.guard = some (g, b) := by rfl) (ht : (ops[g]?).bind (·.dst) = some t := by rfl) (hl : sLook G t = some (.bool c) := by rfl) (he : (c2 == b) = true := by rfl) : RW P ops cx n Q (o :: rest) G w := rw_on hgd ht hl (by rw [hq]; exact he) k
theorem rs2 {d : Nat} (v : Value) (k : RW P ops cx n Q rest ((d, v) :: G) w) (hg : o.guard = none := by rfl) (hd : o.dst = some d := by rfl) (hdn : Nat.blt d n = true := by rfl) (hk : known G o = true := by rfl) (hrun : (execOp (sEv G) o).run P w = .ok (.value v) w := by simp [go_sem, sEv, sLook, nbeq, i64_w, -List.length_flatten]) : RW P ops cx n Q (o :: rest) G w := rw_val hg hd hdn hk hrun k
theorem rk {d : Nat} (v : Value) (k : RW P ops cx n Q rest ((d, v) :: G) w) (hg : o.guard = none := by rfl) (hd : o.dst = some d := by rfl) (hdn : Nat.blt d n = true := by rfl) (hk : known G o = true := by rfl) (hrun : (execOp (sEv G) o).run P w = .ok (.value v) w := by kernel_rfl) : RW P ops cx n Q (o :: rest) G w := rw_val hg hd hdn hk hrun k
theorem rw1 {d : Nat} (v : Value) (k : RW P ops cx n Q rest ((d, v) :: G) w) (hg : o.guard = none := by rfl) (hd : o.dst = some d := by rfl) (hdn : Nat.blt d n = true := by rfl) (hk : known G o = true := by rfl) (hrun : (execOp (sEv G) o).run P w = .ok (.value v) w := by simp [go_sem, sEv, sLook, nbeq, i64_w, -List.getD_eq_getElem?_getD]; unfold wrap64; omega) : RW P ops cx n Q (o :: rest) G w := rw_val hg hd hdn hk hrun k
theorem rst {g t : Nat} {cs : Array Value} (hb : Blk w g t cs) (i : Nat) (l : List Value) (cs' : Array Value) (k : ∀ w', Keep g w w' → Blk w' g t cs' → RW Try.prog ops cx n Q rest G w') (hg : o.guard = none := by rfl) (hd : o.dst = none := by rfl) (hk : known G o = true := by rfl) (hcs : putArr cs i l = cs' := by rfl) (hrun : (∀ j v, cs[j]? = some v → w.cell? ⟨g, j, none⟩ = some v) → (∀ j, w.frozen? ⟨g, j, none⟩ = false) → (execOp (sEv G) o).run Try.prog w = .ok .skip (putCells w g i l) := by intro e_ f_; first | (have e0_ := e_ 0 _ rfl; simp [go_sem, sEv, sLook, nbeq, i64_w, -List.getD_eq_getElem?_getD, putCells, e0_, f_, Try.underlying22, Try.underlying23, Try.underlying24, Try.underlying26, Try.underlying3, Try.underlying47, Try.underlying55, Try.underlying68, Try.underlying73, Try.underlying76, Try.underlying78, Try.underlying81, Try.underlying83, Try.underlying90]; done) | (have e1_ := e_ 1 _ rfl; simp [go_sem, sEv, sLook, nbeq, i64_w, -List.getD_eq_getElem?_getD, putCells, e1_, f_, Try.underlying22, Try.underlying23, Try.underlying24, Try.underlying26, Try.underlying3, Try.underlying47, Try.underlying55, Try.underlying68, Try.underlying73, Try.underlying76, Try.underlying78, Try.underlying81, Try.underlying83, Try.underlying90]; done) | (have e2_ := e_ 2 _ rfl; simp [go_sem, sEv, sLook, nbeq, i64_w, -List.getD_eq_getElem?_getD, putCells, e2_, f_, Try.underlying22, Try.underlying23, Try.underlying24, Try.underlying26, Try.underlying3, Try.underlying47, Try.underlying55, Try.underlying68, Try.underlying73, Try.underlying76, Try.underlying78, Try.underlying81, Try.underlying83, Try.underlying90]; done) | (have e3_ := e_ 3 _ rfl; simp [go_sem, sEv, sLook, nbeq, i64_w, -List.getD_eq_getElem?_getD, putCells, e3_, f_, Try.underlying22, Try.underlying23, Try.underlying24, Try.underlying26, Try.underlying3, Try.underlying47, Try.underlying55, Try.underlying68, Try.underlying73, Try.underlying76, Try.underlying78, Try.underlying81, Try.underlying83, Try.underlying90]; done) | (have e4_ := e_ 4 _ rfl; simp [go_sem, sEv, sLook, nbeq, i64_w, -List.getD_eq_getElem?_getD, putCells, e4_, f_, Try.underlying22, Try.underlying23, Try.underlying24, Try.underlying26, Try.underlying3, Try.underlying47, Try.underlying55, Try.underlying68, Try.underlying73, Try.underlying76, Try.underlying78, Try.underlying81, Try.underlying83, Try.underlying90]; done) | (have e5_ := e_ 5 _ rfl; simp [go_sem, sEv, sLook, nbeq, i64_w, -List.getD_eq_getElem?_getD, putCells, e5_, f_, Try.underlying22, Try.underlying23, Try.underlying24, Try.underlying26, Try.underlying3, Try.underlying47, Try.underlying55, Try.underlying68, Try.underlying73, Try.underlying76, Try.underlying78, Try.underlying81, Try.underlying83, Try.underlying90]; done) | (have e0_ := e_ 0 _ rfl; have e1_ := e_ 1 _ rfl; simp [go_sem, sEv, sLook, nbeq, i64_w, -List.getD_eq_getElem?_getD, putCells, e0_, e1_, f_, Try.underlying22, Try.underlying23, Try.underlying24, Try.underlying26, Try.underlying3, Try.underlying47, Try.underlying55, Try.underlying68, Try.underlying73, Try.underlying76, Try.underlying78, Try.underlying81, Try.underlying83, Try.underlying90]; done) | (have e0_ := e_ 0 _ rfl; have e1_ := e_ 1 _ rfl; have e2_ := e_ 2 _ rfl; simp [go_sem, sEv, sLook, nbeq, i64_w, -List.getD_eq_getElem?_getD, putCells, e0_, e1_, e2_, f_, Try.underlying22, Try.underlying23, Try.underlying24, Try.underlying26, Try.underlying3, Try.underlying47, Try.underlying55, Try.underlying68, Try.underlying73, Try.underlying76, Try.underlying78, Try.underlying81, Try.underlying83, Try.underlying90]; done) | (have e0_ := e_ 0 _ rfl; have e1_ := e_ 1 _ rfl; have e2_ := e_ 2 _ rfl; have e3_ := e_ 3 _ rfl; have e4_ := e_ 4 _ rfl; simp [go_sem, sEv, sLook, nbeq, i64_w, -List.getD_eq_getElem?_getD, putCells, e0_, e1_, e2_, e3_, e4_, f_, Try.underlying22, Try.underlying23, Try.underlying24, Try.underlying26, Try.underlying3, Try.underlying47, Try.underlying55, Try.underlying68, Try.underlying73, Try.underlying76, Try.underlying78, Try.underlying81, Try.underlying83, Try.underlying90]; done) | (have e0_ := e_ 0 _ rfl; have e1_ := e_ 1 _ rfl; have e2_ := e_ 2 _ rfl; have e3_ := e_ 3 _ rfl; have e4_ := e_ 4 _ rfl; have e5_ := e_ 5 _ rfl; simp [go_sem, sEv, sLook, nbeq, i64_w, -List.getD_eq_getElem?_getD, putCells, e0_, e1_, e2_, e3_, e4_, e5_, f_, Try.underlying22, Try.underlying23, Try.underlying24, Try.underlying26, Try.underlying3, Try.underlying47, Try.underlying55, Try.underlying68, Try.underlying73, Try.underlying76, Try.underlying78, Try.underlying81, Try.underlying83, Try.underlying90]; done)) : RW Try.prog ops cx n Q (o :: rest) G w := rw_store hg hd hk hb hcs (hrun (fun j v h => hb.cellv h) (fun j => hb.frozen j)) k
theorem rsa {g t : Nat} {cs : Array Value} (hb : Blk w g t cs) (l : List Value) (k : ∀ w', Keep g w w' → Blk w' g t l.toArray → RW Try.prog ops cx n Q rest G w') (hg : o.guard = none := by rfl) (hd : o.dst = none := by rfl) (hk : known G o = true := by rfl) (hcs : putArr cs 0 l = l.toArray := by rfl) (hrun : (∀ j v, cs[j]? = some v → w.cell? ⟨g, j, none⟩ = some v) → (∀ j, w.frozen? ⟨g, j, none⟩ = false) → (execOp (sEv G) o).run Try.prog w = .ok .skip (putCells w g 0 l) := by intro e_ f_; first | (have e0_ := e_ 0 _ rfl; simp [go_sem, sEv, sLook, nbeq, i64_w, -List.getD_eq_getElem?_getD, putCells, e0_, f_, Try.underlying22, Try.underlying23, Try.underlying24, Try.underlying26, Try.underlying3, Try.underlying47, Try.underlying55, Try.underlying68, Try.underlying73, Try.underlying76, Try.underlying78, Try.underlying81, Try.underlying83, Try.underlying90]; done) | (have e1_ := e_ 1 _ rfl; simp [go_sem, sEv, sLook, nbeq, i64_w, -List.getD_eq_getElem?_getD, putCells, e1_, f_, Try.underlying22, Try.underlying23, Try.underlying24, Try.underlying26, Try.underlying3, Try.underlying47, Try.underlying55, Try.underlying68, Try.underlying73, Try.underlying76, Try.underlying78, Try.underlying81, Try.underlying83, Try.underlying90]; done) | (have e2_ := e_ 2 _ rfl; simp [go_sem, sEv, sLook, nbeq, i64_w, -List.getD_eq_getElem?_getD, putCells, e2_, f_, Try.underlying22, Try.underlying23, Try.underlying24, Try.underlying26, Try.underlying3, Try.underlying47, Try.underlying55, Try.underlying68, Try.underlying73, Try.underlying76, Try.underlying78, Try.underlying81, Try.underlying83, Try.underlying90]; done) | (have e3_ := e_ 3 _ rfl; simp [go_sem, sEv, sLook, nbeq, i64_w, -List.getD_eq_getElem?_getD, putCells, e3_, f_, Try.underlying22, Try.underlying23, Try.underlying24, Try.underlying26, Try.underlying3, Try.underlying47, Try.underlying55, Try.underlying68, Try.underlying73, Try.underlying76, Try.underlying78, Try.underlying81, Try.underlying83, Try.underlying90]; done) | (have e4_ := e_ 4 _ rfl; simp [go_sem, sEv, sLook, nbeq, i64_w, -List.getD_eq_getElem?_getD, putCells, e4_, f_, Try.underlying22, Try.underlying23, Try.underlying24, Try.underlying26, Try.underlying3, Try.underlying47, Try.underlying55, Try.underlying68, Try.underlying73, Try.underlying76, Try.underlying78, Try.underlying81, Try.underlying83, Try.underlying90]; done) | (have e5_ := e_ 5 _ rfl; simp [go_sem, sEv, sLook, nbeq, i64_w, -List.getD_eq_getElem?_getD, putCells, e5_, f_, Try.underlying22, Try.underlying23, Try.underlying24, Try.underlying26, Try.underlying3, Try.underlying47, Try.underlying55, Try.underlying68, Try.underlying73, Try.underlying76, Try.underlying78, Try.underlying81, Try.underlying83, Try.underlying90]; done) | (have e0_ := e_ 0 _ rfl; have e1_ := e_ 1 _ rfl; simp [go_sem, sEv, sLook, nbeq, i64_w, -List.getD_eq_getElem?_getD, putCells, e0_, e1_, f_, Try.underlying22, Try.underlying23, Try.underlying24, Try.underlying26, Try.underlying3, Try.underlying47, Try.underlying55, Try.underlying68, Try.underlying73, Try.underlying76, Try.underlying78, Try.underlying81, Try.underlying83, Try.underlying90]; done) | (have e0_ := e_ 0 _ rfl; have e1_ := e_ 1 _ rfl; have e2_ := e_ 2 _ rfl; simp [go_sem, sEv, sLook, nbeq, i64_w, -List.getD_eq_getElem?_getD, putCells, e0_, e1_, e2_, f_, Try.underlying22, Try.underlying23, Try.underlying24, Try.underlying26, Try.underlying3, Try.underlying47, Try.underlying55, Try.underlying68, Try.underlying73, Try.underlying76, Try.underlying78, Try.underlying81, Try.underlying83, Try.underlying90]; done) | (have e0_ := e_ 0 _ rfl; have e1_ := e_ 1 _ rfl; have e2_ := e_ 2 _ rfl; have e3_ := e_ 3 _ rfl; have e4_ := e_ 4 _ rfl; simp [go_sem, sEv, sLook, nbeq, i64_w, -List.getD_eq_getElem?_getD, putCells, e0_, e1_, e2_, e3_, e4_, f_, Try.underlying22, Try.underlying23, Try.underlying24, Try.underlying26, Try.underlying3, Try.underlying47, Try.underlying55, Try.underlying68, Try.underlying73, Try.underlying76, Try.underlying78, Try.underlying81, Try.underlying83, Try.underlying90]; done) | (have e0_ := e_ 0 _ rfl; have e1_ := e_ 1 _ rfl; have e2_ := e_ 2 _ rfl; have e3_ := e_ 3 _ rfl; have e4_ := e_ 4 _ rfl; have e5_ := e_ 5 _ rfl; simp [go_sem, sEv, sLook, nbeq, i64_w, -List.getD_eq_getElem?_getD, putCells, e0_, e1_, e2_, e3_, e4_, e5_, f_, Try.underlying22, Try.underlying23, Try.underlying24, Try.underlying26, Try.underlying3, Try.underlying47, Try.underlying55, Try.underlying68, Try.underlying73, Try.underlying76, Try.underlying78, Try.underlying81, Try.underlying83, Try.underlying90]; done)) : RW Try.prog ops cx n Q (o :: rest) G w := rw_store hg hd hk hb hcs (hrun (fun j v h => hb.cellv h) (fun j => hb.frozen j)) k
theorem rcl {d : Nat} {f : FuncId} {args : Array Value} {R : Ending → World → Prop} (hc : Calls P f args w R) (k : ∀ e w', R e w' → ∃ v, e = .returned v ∧ RW P ops cx n Q rest ((d, v) :: G) w') (hg : o.guard = none := by rfl) (hd : o.dst = some d := by rfl) (hdn : Nat.blt d n = true := by rfl) (hk : known G o = true := by rfl) (hrun : (execOp (sEv G) o).run P w = .ok (.enter f args) w := by simp [go_sem, sEv, sLook, nbeq, i64_w, -List.getD_eq_getElem?_getD]) : RW P ops cx n Q (o :: rest) G w := rw_call hg hd hdn hk hrun hc k
theorem wsr {id : Nat} {l : List Oper} {y : Code} (h : RW P l.toArray cx n (Ks cx P (Itm.code y :: st) Q) l G w) (hs : l.all (fun o => !isSel o.op) = true := by rfl) : W P cx n Q (Itm.code (.seq (.region id l.toArray false) y) :: st) G w := w_seq (w_region h hs)
theorem wes {id : Nat} {l : List Oper} {y : Code} (h : RW P l.toArray cx n (Ks cx P (Itm.code y :: st) Q) l G w) (hs : l.all (fun o => !isSel o.op) = true := by rfl) : RW P ops cx n (Ks cx P (Itm.code (.seq (.region id l.toArray false) y) :: st) Q) [] G w := rw_end (w_seq (w_region h hs))
end
section
variable {P : Program} {n : Nat} {G : Env} {l : List Oper} {w0 : World} {M : List Nat} {E : Env → Facts → Prop} {os : List Oper} {ss : List Spec} {ms : List Nat} {m : Nat} {F : Facts} {o : Oper}
theorem tr {d : Nat} (v : Value) (k : Tele P n l w0 M E os ss ms (F ++ [(Is v, v)]) ((d, v) :: G)) (hg : o.guard = none := by rfl) (hd : o.dst = some d := by rfl) (hdn : Nat.blt d n = true := by rfl) (hk : known G o = true := by rfl) (hrun : ∀ w, Below w0.heap.size w0 w → Have m F w → (execOp (sEv G) o).run P w = .ok (.value v) w := by exact fun _ _ _ => rfl) : Tele P n l w0 M E (o :: os) (Is v :: ss) (m :: ms) F G := t_is v hg hd hdn hk hrun k
theorem ts {d : Nat} (v : Value) (k : Tele P n l w0 M E os ss ms (F ++ [(Is v, v)]) ((d, v) :: G)) (hg : o.guard = none := by rfl) (hd : o.dst = some d := by rfl) (hdn : Nat.blt d n = true := by rfl) (hk : known G o = true := by rfl) (hrun : ∀ w, Below w0.heap.size w0 w → Have m F w → (execOp (sEv G) o).run P w = .ok (.value v) w := by exact fun _ _ _ => by simp [go_sem, sEv, sLook, nbeq, i64_w, -List.getD_eq_getElem?_getD]) : Tele P n l w0 M E (o :: os) (Is v :: ss) (m :: ms) F G := t_is v hg hd hdn hk hrun k
end
end Go.Proofs.Ytbbhdohjhipalaa.Flow
end
section
namespace Go.Proofs.Ytbbhdohjhipalaa.Ce
open Go.RowKit Go.Proofs.YtbbhdohjhipalaaW.PrintWords Go.Proofs.YtbbhdohjhipalaaW.PrintLast Go.Proofs.YtbbhdohjhipalaaW.PrintMore
open Go.Proofs.Ytbbhdohjhipalaa.Flow
set_option linter.unusedVariables false
set_option linter.unusedSimpArgs false
def pr (h : Fin 65 → Int) : Nat → List (Int × Int)
  | 0 => []
  | k + 1 => if atF h k = 0 then pr h k else pr h k ++ [(((k : Nat) : Int), atF h k)]
def flatP : List (Int × Int) → List Int
  | [] => []
  | p :: r => p.1 :: p.2 :: flatP r
theorem flatP_append : ∀ a b : List (Int × Int), flatP (a ++ b) = flatP a ++ flatP b
  | [], _ => rfl
  | p :: a, b => by simp [flatP, flatP_append a b]
theorem flatP_len : ∀ a : List (Int × Int), (flatP a).length = 2 * a.length
  | [] => rfl
  | p :: a => by simp only [flatP, List.length_cons, flatP_len a]; omega
theorem flatP_inj : ∀ a b : List (Int × Int), flatP a = flatP b → a = b
  | [], [], _ => rfl
  | [], _ :: _, h => by simp [flatP] at h
  | _ :: _, [], h => by simp [flatP] at h
  | (x, y) :: a, (u, v) :: b, h => by
    simp only [flatP, List.cons.injEq] at h
    obtain ⟨rfl, rfl, h⟩ := h
    rw [flatP_inj a b h]
def headC (c : CL) (n : Int) : List Int := [c.cnt, c.hi, wrap64 c.lo, c.mn, c.mx, c.t, c.src, c.seq, c.v, n]
def numsC (c : CL) : List Int := headC c ((pr c.h 65).length : Int) ++ flatP (pr c.h 65)
theorem pr_len (h : Fin 65 → Int) : ∀ k, (pr h k).length ≤ k
  | 0 => Nat.le_refl _
  | k + 1 => by
    have := pr_len h k
    simp only [pr]
    split
    · omega
    · simp; omega
theorem pr_zero (h : Fin 65 → Int) (k : Nat) (e : atF h k = 0) : pr h (k + 1) = pr h k := by simp only [pr]; rw [if_pos e]
theorem pr_more (h : Fin 65 → Int) (k : Nat) (e : ¬ atF h k = 0) : pr h (k + 1) = pr h k ++ [(((k : Nat) : Int), atF h k)] := by simp only [pr]; rw [if_neg e]
def prsOf (l : List Int) (n : Nat) : List (Int × Int) := (List.range n).map fun k => (l.getD (10 + 2 * k) 0, l.getD (10 + 2 * k + 1) 0)
def stepT (s : Option (Int × (Fin 65 → Int))) (p : Int × Int) : Option (Int × (Fin 65 → Int)) :=
  match s with
  | none => none
  | some (last, h) => if p.1 ≤ last ∨ 64 < p.1 ∨ p.2 = 0 then none else some (p.1, updF h p.1.toNat p.2)
theorem stepT_some (l0 : Int) (h0 : Fin 65 → Int) (p : Int × Int) : stepT (some (l0, h0)) p = if p.1 ≤ l0 ∨ 64 < p.1 ∨ p.2 = 0 then none else some (p.1, updF h0 p.1.toNat p.2) := rfl
def foldT (ps : List (Int × Int)) : Option (Int × (Fin 65 → Int)) := ps.foldl stepT (some (-1, fun _ => 0))
theorem foldT_snoc (ps : List (Int × Int)) (p : Int × Int) : foldT (ps ++ [p]) = stepT (foldT ps) p := by unfold foldT; rw [List.foldl_append]; rfl
theorem stepT_none (ps : List (Int × Int)) : ps.foldl stepT none = none := by
  induction ps with
  | nil => rfl
  | cons p ps ih => exact ih
theorem foldT_pre (ps qs : List (Int × Int)) (h : foldT ps = none) : foldT (ps ++ qs) = none := by
  unfold foldT at *
  rw [List.foldl_append, h]
  exact stepT_none qs
theorem atF_upd (h : Fin 65 → Int) (i k : Nat) (x : Int) (hk : k < 65) : atF (updF h i x) k = if k = i then x else atF h k := by
  unfold atF updF
  rw [dif_pos hk, dif_pos hk]
theorem pr_below (h : Fin 65 → Int) (i : Nat) (x : Int) : ∀ k, k ≤ i → k ≤ 65 → pr (updF h i x) k = pr h k
  | 0, _, _ => rfl
  | k + 1, hi, h65 => by
    have e : atF (updF h i x) k = atF h k := by rw [atF_upd h i k x (by omega), if_neg (by omega)]
    simp only [pr]
    rw [e, pr_below h i x k (by omega) (by omega)]
theorem pr_gap (h : Fin 65 → Int) (a : Nat) (hz : ∀ k, a ≤ k → k < 65 → atF h k = 0) : ∀ b, a + b ≤ 65 → pr h (a + b) = pr h a
  | 0, _ => rfl
  | b + 1, hb => by
    have h1 := pr_gap h a hz b (by omega)
    have h2 := pr_zero h (a + b) (hz (a + b) (by omega) (by omega))
    rw [← h1, ← h2]
    rfl
theorem snoc_ind {α : Type} {p : List α → Prop} (h0 : p []) (h1 : ∀ l a, p l → p (l ++ [a])) (l : List α) : p l := by
  have h2 : ∀ r : List α, p r.reverse := by
    intro r
    induction r with
    | nil => exact h0
    | cons a r ih => rw [List.reverse_cons]; exact h1 _ _ ih
  have h3 := h2 l.reverse
  rwa [List.reverse_reverse] at h3
theorem foldT_pr (ps : List (Int × Int)) : ∀ last h, foldT ps = some (last, h) → -1 ≤ last ∧ last ≤ 64 ∧ (∀ k : Nat, last < (k : Int) → k < 65 → atF h k = 0) ∧ pr h (last + 1).toNat = ps := by
  refine snoc_ind (p := fun ps => ∀ last h, foldT ps = some (last, h) → -1 ≤ last ∧ last ≤ 64 ∧ (∀ k : Nat, last < (k : Int) → k < 65 → atF h k = 0) ∧ pr h (last + 1).toNat = ps) ?_ ?_ ps
  · intro last h e
    unfold foldT at e
    simp only [List.foldl_nil, Option.some.injEq, Prod.mk.injEq] at e
    obtain ⟨rfl, rfl⟩ := e
    exact ⟨by omega, by omega, fun k _ hk => by unfold atF; rw [dif_pos hk], rfl⟩
  · intro ps p ih last h e
    rw [foldT_snoc] at e
    cases hf : foldT ps with
    | none => rw [hf] at e; simp [stepT] at e
    | some s =>
      obtain ⟨l0, h0⟩ := s
      rw [hf] at e
      obtain ⟨i1, i2, i3, i4⟩ := ih l0 h0 hf
      rw [stepT_some] at e
      split at e
      · cases e
      · rename_i hc
        have e2 := Option.some.inj e
        obtain rfl := (congrArg Prod.fst e2)
        obtain rfl := (congrArg Prod.snd e2)
        obtain ⟨at_, v⟩ := p
        have c1 : ¬ at_ ≤ l0 := fun z => hc (.inl z)
        have c2 : ¬ 64 < at_ := fun z => hc (.inr (.inl z))
        have c3 : ¬ v = 0 := fun z => hc (.inr (.inr z))
        show -1 ≤ at_ ∧ at_ ≤ 64 ∧ (∀ k : Nat, at_ < (k : Int) → k < 65 → atF (updF h0 at_.toNat v) k = 0) ∧ pr (updF h0 at_.toNat v) (at_ + 1).toNat = ps ++ [(at_, v)]
        refine ⟨by omega, by omega, fun k hk h65 => ?_, ?_⟩
        · rw [atF_upd _ _ _ _ h65, if_neg (by omega)]
          exact i3 k (by omega) h65
        · have e1 : (at_ + 1).toNat = at_.toNat + 1 := by omega
          rw [e1, pr_more _ _ (by rw [atF_upd _ _ _ _ (by omega), if_pos rfl]; exact c3), atF_upd _ _ _ _ (by omega), if_pos rfl, pr_below _ _ _ _ (Nat.le_refl _) (by omega)]
          have e2 : at_.toNat = (l0 + 1).toNat + (at_.toNat - (l0 + 1).toNat) := by omega
          have e3 := pr_gap h0 (l0 + 1).toNat (fun k h1 h2 => i3 k (by omega) h2) (at_.toNat - (l0 + 1).toNat) (by omega)
          rw [← e2] at e3
          rw [e3, i4, show ((at_.toNat : Nat) : Int) = at_ by omega]
theorem foldT_full {ps : List (Int × Int)} {last : Int} {h : Fin 65 → Int} (e : foldT ps = some (last, h)) : pr h 65 = ps := by
  obtain ⟨h1, h2, h3, h4⟩ := foldT_pr ps last h e
  have e3 := pr_gap h (last + 1).toNat (fun k a b => h3 k (by omega) b) (65 - (last + 1).toNat) (by omega)
  rw [show (last + 1).toNat + (65 - (last + 1).toNat) = 65 by omega] at e3
  rw [e3, h4]
def cutF (h : Fin 65 → Int) (k : Nat) : Fin 65 → Int := fun i => if i.val < k then h i else 0
theorem foldT_of (h : Fin 65 → Int) : ∀ k : Nat, k ≤ 65 → ∃ last, last < (k : Int) ∧ foldT (pr h k) = some (last, cutF h k)
  | 0, _ => ⟨-1, by omega, by unfold foldT pr; simp only [List.foldl_nil]; congr 2⟩
  | k + 1, hk => by
    obtain ⟨last, hl, hf⟩ := foldT_of h k (by omega)
    by_cases hz : atF h k = 0
    · refine ⟨last, by omega, ?_⟩
      rw [pr_zero h k hz, hf]
      congr 2
      funext i
      unfold cutF
      by_cases h1 : i.val < k
      · rw [if_pos h1, if_pos (by omega)]
      · rw [if_neg h1]
        split
        · have h2 : i = ⟨k, by omega⟩ := Fin.ext (by show i.val = k; omega)
          unfold atF at hz
          rw [dif_pos (by omega : k < 65)] at hz
          rw [h2, hz]
        · rfl
    · refine ⟨(k : Int), by omega, ?_⟩
      rw [pr_more h k hz, foldT_snoc, hf]
      unfold stepT
      simp only
      rw [if_neg (by rintro (z | z | z); omega; omega; exact hz z)]
      congr 2
      funext i
      unfold updF cutF
      simp only [Int.toNat_natCast]
      by_cases h1 : i.val = k
      · rw [if_pos h1, if_pos (by omega)]
        have h2 : i = ⟨k, by omega⟩ := Fin.ext h1
        unfold atF
        rw [dif_pos (by omega : k < 65)]
        exact (congrArg h h2).symm
      · rw [if_neg h1]
        by_cases h3 : i.val < k
        · rw [if_pos h3, if_pos (by omega)]
        · rw [if_neg h3, if_neg (by omega)]
theorem cutF_full (h : Fin 65 → Int) : cutF h 65 = h := by funext i; unfold cutF; rw [if_pos i.isLt]
theorem foldT_pr65 (h : Fin 65 → Int) : ∃ last, foldT (pr h 65) = some (last, h) := by
  obtain ⟨last, _, e⟩ := foldT_of h 65 (Nat.le_refl _)
  rw [cutF_full] at e
  exact ⟨last, e⟩
def baseC (l : List Int) (h : Fin 65 → Int) : CL := ⟨l.getD 0 0, l.getD 1 0, l.getD 2 0 % 18446744073709551616, l.getD 3 0, l.getD 4 0, l.getD 5 0, l.getD 6 0, l.getD 7 0, l.getD 8 0, h⟩
def shapeC (l : List Int) : Bool := decide (10 ≤ l.length) && (decide (0 ≤ l.getD 9 0) && (decide (l.getD 9 0 ≤ 65) && decide (2 * l.getD 9 0 ≤ (l.length : Int) - 10)))
def nC (l : List Int) : Nat := (l.getD 9 0).toNat
def takeC (l : List Int) : Option (CL × List Int) :=
  if shapeC l then match foldT (prsOf l (nC l)) with
    | none => none
    | some (_, h) => some (baseC l h, l.drop (10 + 2 * nC l))
  else none
theorem prsOf_succ (l : List Int) (n : Nat) : prsOf l (n + 1) = prsOf l n ++ [(l.getD (10 + 2 * n) 0, l.getD (10 + 2 * n + 1) 0)] := by unfold prsOf; rw [List.range_succ, List.map_append]; rfl
theorem prsOf_len (l : List Int) (n : Nat) : (prsOf l n).length = n := by simp [prsOf]
theorem flat_prs (l : List Int) : ∀ n, 10 + 2 * n ≤ l.length → flatP (prsOf l n) = (l.drop 10).take (2 * n)
  | 0, _ => by simp [prsOf, flatP]
  | n + 1, h => by
    rw [prsOf_succ, flatP_append, flat_prs l n (by omega)]
    have e1 : (l.drop 10).take (2 * (n + 1)) = (l.drop 10).take (2 * n) ++ [l.getD (10 + 2 * n) 0, l.getD (10 + 2 * n + 1) 0] := by
      rw [show 2 * (n + 1) = 2 * n + 1 + 1 by omega, List.take_succ_eq_append_getElem (by simp; omega), List.take_succ_eq_append_getElem (by simp; omega), List.append_assoc]
      congr 1
      simp only [List.getElem_drop, List.singleton_append, List.getD_eq_getElem?_getD]
      rw [List.getElem?_eq_getElem (by omega), List.getElem?_eq_getElem (by omega)]
      simp
      rfl
    rw [e1]
    rfl
theorem shape_spec {l : List Int} (h : shapeC l = true) : 10 ≤ l.length ∧ nC l ≤ 65 ∧ ((nC l : Nat) : Int) = l.getD 9 0 ∧ 10 + 2 * nC l ≤ l.length := by
  unfold shapeC at h
  simp only [Bool.and_eq_true, decide_eq_true_eq] at h
  unfold nC
  omega
def I64 (x : Int) : Prop := -9223372036854775808 ≤ x ∧ x ≤ 9223372036854775807
theorem wrap_mod {x : Int} (h : I64 x) : wrap64 (x % 18446744073709551616) = x := by
  obtain ⟨h1, h2⟩ := h
  rcases Int.lt_or_le x 0 with h3 | h3
  · have e : x % 18446744073709551616 = x + 18446744073709551616 := by omega
    rw [e]
    unfold wrap64
    omega
  · have e : x % 18446744073709551616 = x := by omega
    rw [e]
    unfold wrap64
    omega
theorem mod_wrap {x : Int} (h : 0 ≤ x ∧ x < 18446744073709551616) : wrap64 x % 18446744073709551616 = x := by
  obtain ⟨h1, h2⟩ := h
  unfold wrap64
  omega
theorem take10 : ∀ l : List Int, 10 ≤ l.length → l.take 10 = [l.getD 0 0, l.getD 1 0, l.getD 2 0, l.getD 3 0, l.getD 4 0, l.getD 5 0, l.getD 6 0, l.getD 7 0, l.getD 8 0, l.getD 9 0]
  | a :: b :: c :: d :: e :: f :: g :: h :: i :: j :: r, _ => by simp [List.getD_cons_zero, List.getD_cons_succ]
theorem head_base {l : List Int} {h : Fin 65 → Int} (hl : 10 ≤ l.length) (h2 : I64 (l.getD 2 0)) : headC (baseC l h) (l.getD 9 0) = l.take 10 := by
  rw [take10 l hl]
  unfold headC baseC
  simp only
  rw [wrap_mod h2]
theorem takeC_nums {l : List Int} {c : CL} {r : List Int} (h : takeC l = some (c, r)) (h2 : I64 (l.getD 2 0)) : numsC c ++ r = l ∧ numsC c = l.take (10 + 2 * nC l) ∧ r = l.drop (10 + 2 * nC l) ∧ shapeC l = true := by
  unfold takeC at h
  split at h
  · rename_i hs
    obtain ⟨s1, s2, s3, s4⟩ := shape_spec hs
    split at h
    · cases h
    · rename_i last hh hf
      simp only [Option.some.injEq, Prod.mk.injEq] at h
      obtain ⟨rfl, rfl⟩ := h
      have e1 : numsC (baseC l hh) = l.take (10 + 2 * nC l) := by
        unfold numsC
        show headC (baseC l hh) ((pr hh 65).length : Int) ++ flatP (pr hh 65) = _
        rw [foldT_full hf, prsOf_len, s3, head_base s1 h2, flat_prs l _ s4]
        rw [List.take_add]
      refine ⟨?_, e1, rfl, hs⟩
      rw [e1]
      exact List.take_append_drop _ _
  · cases h
theorem nums_len (c : CL) : (numsC c).length = 10 + 2 * (pr c.h 65).length := by simp [numsC, headC, flatP_len]; omega
theorem getD_app {a b : List Int} {i : Nat} (h : i < a.length) : (a ++ b).getD i 0 = a.getD i 0 := by simp only [List.getD_eq_getElem?_getD]; rw [List.getElem?_append_left h]
theorem takeC_back (c : CL) (more : List Int) (hlo : LoOk c) : takeC (numsC c ++ more) = some (c, more) := by
  have hl := nums_len c
  have hg : ∀ i, i < 10 → (numsC c ++ more).getD i 0 = (headC c ((pr c.h 65).length : Int)).getD i 0 := fun i hi => by
    rw [getD_app (by omega)]
    unfold numsC
    rw [getD_app (by simpa [headC] using hi)]
  have h9 : (numsC c ++ more).getD 9 0 = ((pr c.h 65).length : Int) := hg 9 (by omega)
  have hp := pr_len c.h 65
  have hn : nC (numsC c ++ more) = (pr c.h 65).length := by unfold nC; rw [h9]; omega
  have hs : shapeC (numsC c ++ more) = true := by
    unfold shapeC
    rw [h9, List.length_append, hl]
    simp only [Bool.and_eq_true, decide_eq_true_eq]
    omega
  have hd : (numsC c ++ more).drop (10 + 2 * (pr c.h 65).length) = more := by rw [← hl]; exact List.drop_left
  have hf : flatP (prsOf (numsC c ++ more) (pr c.h 65).length) = flatP (pr c.h 65) := by
    rw [flat_prs _ _ (by rw [List.length_append, hl]; omega)]
    have e : (numsC c ++ more).drop 10 = flatP (pr c.h 65) ++ more := rfl
    rw [e, List.take_left' (flatP_len _)]
  obtain ⟨last, hF⟩ := foldT_pr65 c.h
  unfold takeC
  rw [if_pos hs, hn, flatP_inj _ _ hf, hF, hd]
  simp only
  congr 2
  unfold baseC
  rw [hg 0 (by omega), hg 1 (by omega), hg 2 (by omega), hg 3 (by omega), hg 4 (by omega), hg 5 (by omega), hg 6 (by omega), hg 7 (by omega), hg 8 (by omega)]
  unfold headC
  simp only [List.getD_cons_zero, List.getD_cons_succ]
  rw [mod_wrap hlo]
def stepR (h : Fin 65 → Int) (p : Int × Int) : Fin 65 → Int := updF h p.1.toNat p.2
def foldR (ps : List (Int × Int)) : Fin 65 → Int := ps.foldl stepR (fun _ => 0)
theorem foldR_snoc (ps : List (Int × Int)) (p : Int × Int) : foldR (ps ++ [p]) = stepR (foldR ps) p := by unfold foldR; rw [List.foldl_append]; rfl
def okP (p : Int × Int) : Prop := 0 ≤ p.1 ∧ p.1 ≤ 64
theorem foldT_R (ps : List (Int × Int)) : ∀ last h, foldT ps = some (last, h) → (∀ p ∈ ps, okP p) ∧ h = foldR ps := by
  refine snoc_ind (p := fun ps => ∀ last h, foldT ps = some (last, h) → (∀ p ∈ ps, okP p) ∧ h = foldR ps) ?_ ?_ ps
  · intro last h e
    unfold foldT at e
    simp only [List.foldl_nil, Option.some.injEq, Prod.mk.injEq] at e
    obtain ⟨rfl, rfl⟩ := e
    exact ⟨fun p hp => (by cases hp), rfl⟩
  · intro ps p ih last h e
    have e0 := e
    rw [foldT_snoc] at e
    cases hf : foldT ps with
    | none => rw [hf] at e; simp [stepT] at e
    | some s =>
      obtain ⟨l0, h0⟩ := s
      obtain ⟨i1, _⟩ := foldT_pr ps l0 h0 hf
      rw [hf] at e
      obtain ⟨j1, rfl⟩ := ih l0 h0 hf
      rw [stepT_some] at e
      split at e
      · cases e
      · rename_i hc
        have e2 := Option.some.inj e
        obtain rfl := (congrArg Prod.fst e2)
        obtain rfl := (congrArg Prod.snd e2)
        have c1 : ¬ p.1 ≤ l0 := fun z => hc (.inl z)
        have c2 : ¬ 64 < p.1 := fun z => hc (.inr (.inl z))
        refine ⟨fun q hq => ?_, by rw [foldR_snoc]; rfl⟩
        rcases List.mem_append.1 hq with hq | hq
        · exact j1 q hq
        · rw [List.mem_singleton.1 hq]
          exact ⟨by omega, by omega⟩
open Classical in
noncomputable def rtakeC (l : List Int) : Option (CL × Nat) :=
  if shapeC l then (if (∀ p ∈ prsOf l (nC l), okP p) ∧ numsC (baseC l (foldR (prsOf l (nC l)))) = l.take (10 + 2 * nC l) then some (baseC l (foldR (prsOf l (nC l))), 10 + 2 * nC l) else none) else none
theorem rtake_take {l : List Int} (h2 : 10 ≤ l.length → I64 (l.getD 2 0)) : (takeC l = none → rtakeC l = none) ∧ ∀ c r, takeC l = some (c, r) → rtakeC l = some (c, 10 + 2 * nC l) := by
  constructor
  · intro h
    unfold takeC at h
    unfold rtakeC
    split at h
    · rename_i hs
      rw [if_pos hs]
      obtain ⟨s1, s2, s3, s4⟩ := shape_spec hs
      split at h
      · rename_i hf
        refine if_neg ?_
        rintro ⟨_, h4⟩
        have h5 : flatP (pr (foldR (prsOf l (nC l))) 65) = flatP (prsOf l (nC l)) := by
          have h6 := congrArg (List.drop 10) h4
          rw [flat_prs l _ s4]
          have h8 : (l.take (10 + 2 * nC l)).drop 10 = (l.drop 10).take (2 * nC l) := by rw [List.drop_take]; congr 1; omega
          rw [← h8, ← h6]
          rfl
        obtain ⟨last, h7⟩ := foldT_pr65 (foldR (prsOf l (nC l)))
        rw [flatP_inj _ _ h5, hf] at h7
        cases h7
      · cases h
    · rename_i hs
      rw [if_neg hs]
  · intro c r h
    obtain ⟨_, e1, _, hs⟩ := takeC_nums h (h2 (by
      unfold takeC at h
      split at h
      · rename_i hs; exact (shape_spec hs).1
      · cases h))
    unfold takeC at h
    rw [if_pos hs] at h
    unfold rtakeC
    rw [if_pos hs]
    split at h
    · cases h
    · rename_i last hh hf
      simp only [Option.some.injEq, Prod.mk.injEq] at h
      obtain ⟨rfl, rfl⟩ := h
      obtain ⟨j1, rfl⟩ := foldT_R _ last hh hf
      rw [if_pos ⟨j1, e1⟩]
end Go.Proofs.Ytbbhdohjhipalaa.Ce
end
section
namespace Go.Proofs.Ytbbhdohjhipalaa.Ce
open Go.RowKit Go.Proofs.YtbbhdohjhipalaaW.PrintWords Go.Proofs.YtbbhdohjhipalaaW.PrintLast Go.Proofs.YtbbhdohjhipalaaW.PrintMore
open Go.Proofs.Ytbbhdohjhipalaa.Flow
set_option linter.unusedVariables false
set_option linter.unusedSimpArgs false
set_option maxHeartbeats 4000000 in
theorem unit_calls (w : World) :
  Calls Try.prog 67 #[] w fun e w' => e = .returned (.agg (carr CL.unit)) ∧ Below w.heap.size w w' := by
 refine calls_flow Try.func67 rfl 2 rfl (Nat.le_of_ble_eq_true rfl) [] ?_ ?_
 ·
  intro t v h; exact args_look rfl t v h
 refine wsr ?_
 refine rw_new (cs := carr CL.unit) (t := 81) (fun g => .pointer (some ⟨g, 0, none⟩)) rfl rfl rfl rfl (by kernel_rfl) ?_
 intro g1 w2 hg6 hz5 hb3 hk4
 have hs_w2 := hb3.size
 refine rw_end ?_
 refine wsr ?_
 refine rk (.agg (carr CL.unit)) ?_
 refine rw_seg (g := g1) (off := 0) (ty := 81) (p := .tmp 0) (x := .tmp 1) (v := .agg (carr CL.unit)) (cs' := carr CL.unit) rfl rfl rfl rfl rfl rfl hk4 (by show (sizeOf 81).run _ _ = .ok (carr _).size _; rw [carr_size]; kernel_rfl) (Nat.le_of_eq (by rw [Nat.zero_add]; exact (carr_size _).trans (carr_size _).symm)) (encC_one _) (seg_all CL.unit CL.unit) ?_
 intro w7 hk8 hb9
 have hs_w7 := hk8.size
 refine rw_end ?_
 refine w_ret (post_retc (v := .agg (carr CL.unit)) rfl rfl (load_cell (c := CL.unit) hb9) ?_)
 exact ⟨rfl, (hk8.below (by omega) hb3)⟩
end Go.Proofs.Ytbbhdohjhipalaa.Ce
end
section
namespace Go.Proofs.Ytbbhdohjhipalaa.Flow
open Go.RowKit Go.Proofs.YtbbhdohjhipalaaW.PrintWords
set_option linter.unusedVariables false
theorem kept_grown {w w' : World} {r : Option Nat} (h : w.grownBy w' r) : Kept w w' (fun q => r = some q) := ⟨h.size, fun i hi hn => h.block i hi (fun e => hn e.symm)⟩
theorem stab_own {α : Type} {d : Kd α} {S : Nat → Prop} {e : TypeId} {base b : Nat} {xs : List α} (hS : ∀ q, b ≤ q → ¬ S q) : StabS S (OwnKSpec d e base b xs) := fun v w w' hk ⟨A, c, h1, h2⟩ =>
  ⟨A, c, h1, OwnK.step h2 (fun q hq hlt => hk.2 q hlt (hS q hq))⟩
theorem own_app_k {α : Type} {d : Kd α} {P : Program} {o : Oper} {G : Env} {w W : World} (base b : Nat) (s x : Operand) (t e : TypeId) (z : Value) (bytes : Nat)
    (ho : o.op = .call { callee := .builtin .append, args := #[s, x], argTypes := #[t, t] }) (ht : P.underlying t = some (.slice e)) (hinfo : (P.info? e).map (fun i => (i.zero, i.size, i.bytes)) = some (some z, d.sz, bytes)) (hz : z.cells.size = d.sz) (hs0 : 0 < d.sz) (hb0 : 0 < bytes)
    (hKM : ∀ x cs, d.K W x cs → d.M W base (fun _ => False) x cs)
    {xs ys : List α} {A A2 : Option Addr} {m c m2 c2 : Nat} (hs : sEv G s = .slice A m c) (hx : sEv G x = .slice A2 m2 c2) (hb : b ≤ W.heap.size) (hbb : base ≤ b) (h0 : Below base w W ∧ OwnK d e W base b A m c xs) (HR : d.C W A2 m2 ys) (hbase : base ≤ W.heap.size) (hl : (xs.length + m2) * bytes ≤ 140737488355328) :
    ∃ v w', (execOp (sEv G) o).run P W = .ok (.value v) w' ∧ (OwnKSpec d e base b (xs ++ ys)).s v w' ∧ Kept W w' (fun q => (Value.slice A m c).ownBlock = some q) ∧ Below base w w' := by
  obtain ⟨v, w', h1, h2, h3⟩ := own_app_gives (d := d) base b s x t e z bytes ho ht hinfo hz hs0 hb0 hKM hs hx hb h0.2 HR hbase hl
  exact ⟨v, w', h1, h2, kept_grown h3, h0.1.grown h3 hbase (fun q e_ => Nat.le_trans hbb (own_lt h0.2 e_).1)⟩
end Go.Proofs.Ytbbhdohjhipalaa.Flow
end
section
namespace Go.Proofs.Ytbbhdohjhipalaa.Flow
open Go.RowKit Go.Proofs.YtbbhdohjhipalaaW.PrintWords
set_option linter.unusedVariables false
set_option linter.unusedSimpArgs false
set_option linter.unusedSectionVars false
section
variable {P : Program} {cx : Cx} {n : Nat} {Q : Exit → Act → World → Prop} {st : List Itm} {G : Env} {w : World} {ops : Array Oper}
structure Mt where
  S : Nat → Prop
  F0 : World → Prop
  F1 : World → Prop
def MU (mu : Nat → Option Mt) (b : Nat) : Prop := ∃ j x, mu j = some x ∧ x.S b
def Ph (mu : Nat → Option Mt) (m : Nat) (M : List Nat) (i : Nat) (w : World) : Prop := ∀ j x, mu j = some x → j ≠ i → (Nat.testBit m j = true → x.F1 w) ∧ (Nat.testBit (M.getD j 0) i = true → x.F0 w)
def QT (w w' : World) : Prop := w'.os = w.os ∧ w'.tape = w.tape ∧ w'.output = w.output
theorem below_k {w0 w w' : World} {S : Nat → Prop} (h : Below w0.heap.size w0 w) (hk : Kept w w' S) (hq : QT w w') (hS : ∀ q, S q → w0.heap.size ≤ q) : Below w0.heap.size w0 w' := ⟨hq.1.trans h.os, hq.2.1.trans h.tape, hq.2.2.trans h.output, Nat.le_trans h.size hk.1, fun i hi => (hk.2 i (Nat.lt_of_lt_of_le hi h.size) (fun hs => absurd hi (Nat.not_lt.2 (hS i hs)))).trans (h.block i hi)⟩
def Ok3 (P : Program) (l : List Oper) (o : Oper) (G : Env) (w : World) (s : Spec) : Option Mt → Prop
  | none => StepOk P l o G w s
  | some x => x.F0 w → MutOk P l o G w s x.S (fun w' => x.F1 w' ∧ QT w w')
theorem kept_mu {w w' : World} {mu : Nat → Option Mt} {i : Nat} {x : Mt} (hx : mu i = some x) (h : Kept w w' x.S) : Kept w w' (MU mu) := ⟨h.1, fun q hq hn => h.2 q hq (fun hs => hn ⟨i, x, hx, hs⟩)⟩
def Tele3 (P : Program) (n : Nat) (l : List Oper) (w0 : World) (mu : Nat → Option Mt) (M : List Nat) (E : Env → Facts → Prop) : List Oper → List Spec → List Nat → Facts → Env → Prop
  | [], [], [], F, G => E G F
  | o :: os, s :: ss, m :: ms, F, G => (∀ d, o.dst = some d → Nat.blt d n = true) ∧ (∀ w, Kept w0 w (MU mu) → Ph mu m M F.length w → Have m F w → Ok3 P l o G w s (mu F.length)) ∧ ∀ v, s.pl v → Tele3 P n l w0 mu M E os ss ms (F ++ [(s, v)]) (ext o.dst v G)
  | _, _, _, _, _ => False
theorem tele3_at {l : List Oper} {w0 : World} {mu : Nat → Option Mt} {M : List Nat} {E : Env → Facts → Prop} : ∀ (os : List Oper) (ss : List Spec) (ms : List Nat) (F : Facts) (G : Env), Tele3 P n l w0 mu M E os ss ms F G → ∀ vs : Nat → Value, (∀ (j : Nat) (s : Spec), ss[j]? = some s → s.pl (vs (F.length + j))) →
    (∀ (j : Nat) (o : Oper), os[j]? = some o → ∃ s m, ss[j]? = some s ∧ ms[j]? = some m ∧ (∀ d, o.dst = some d → Nat.blt d n = true) ∧
      (∀ w, Kept w0 w (MU mu) → Ph mu m M (F.length + j) w → Have m (F ++ fz (ss.take j) vs F.length) w → Ok3 P l o (gz (os.take j) vs F.length G) w s (mu (F.length + j)))) ∧ E (gz os vs F.length G) (F ++ fz ss vs F.length)
  | [], [], [], F, G, h, vs, _ => ⟨fun j o hj => by simp at hj, by have h' : E G F := h; simpa [gz, fz] using h'⟩
  | o :: os, s :: ss, m :: ms, F, G, h, vs, hp => by
    obtain ⟨h2, h3, h4⟩ := h
    obtain ⟨h5, h6⟩ := tele3_at os ss ms _ _ (h4 (vs F.length) (by simpa using hp 0 s rfl)) vs (fun j s' hj => by
      have := hp (j + 1) s' (by simpa using hj)
      simp only [List.length_append, List.length_cons, List.length_nil]
      rw [show F.length + (0 + 1) + j = F.length + (j + 1) by omega]
      exact this)
    have hlen : (F ++ [(s, vs F.length)]).length = F.length + 1 := by simp
    rw [hlen] at h5 h6
    refine ⟨fun j o' hj => ?_, by simpa [gz, fz] using h6⟩
    cases j with
    | zero =>
      simp at hj
      subst hj
      exact ⟨s, m, rfl, rfl, h2, fun w hb h0 hh => by simpa [gz] using h3 w hb (by simpa using h0) (by simpa [fz] using hh)⟩
    | succ j =>
      obtain ⟨s', m', e1, e2, e4, e5⟩ := h5 j o' (by simpa using hj)
      refine ⟨s', m', by simpa using e1, by simpa using e2, e4, fun w hb h0 hh => ?_⟩
      have e9 : F.length + (j + 1) = F.length + 1 + j := by omega
      rw [e9] at h0 ⊢
      have := e5 w hb h0 (by simpa [fz] using hh)
      simpa [gz] using this
  | [], [], _ :: _, _, _, h, _, _ => h.elim
  | [], _ :: _, _, _, _, h, _, _ => h.elim
  | _ :: _, [], _, _, _, h, _, _ => h.elim
  | _ :: _, _ :: _, [], _, _, h, _, _ => h.elim
structure Inv3 (mu : Nat → Option Mt) (l : List Oper) (ss : List Spec) (cx : Cx) (n : Nat) (G : Env) (w0 : World) (vs : Nat → Value) (D : Array Bool) (a : Act) (w : World) : Prop where
  dsize : D.size = l.length
  closed : ∀ (j : Nat) (o : Oper), l[j]? = some o → D.getD j false = true → ∀ e ∈ o.after, Region.binds .any e = true → D.getD e.on false = true
  below : Kept w0 w (MU mu)
  phase : ∀ j x, mu j = some x → (D.getD j false = true → x.F1 w) ∧ (D.getD j false = false → x.F0 w)
  facts : ∀ k s, D.getD k false = true → ss[k]? = some s → s.s (vs k) w
  pls : ∀ (k : Nat) (s : Spec), ss[k]? = some s → s.pl (vs k)
  size : a.tmps.size = n
  defers : a.defers = cx.ds
  old : ∀ t v, (∀ (k : Nat) (o : Oper), l[k]? = some o → o.dst = some t → D.getD k false = false) → sLook G t = some v → a.tmps[t]? = some v
  new : ∀ (k : Nat) (o : Oper) d, l[k]? = some o → o.dst = some d → D.getD k false = true → a.tmps[d]? = some (vs k)
theorem Inv3.step {mu : Nat → Option Mt} {l : List Oper} {ss : List Spec} {M : List Nat} {w0 : World} {vs : Nat → Value} {D : Array Bool} {a : Act} {w w' : World} (hs : Static l M) (h : Inv3 mu l ss cx n G w0 vs D a w)
    {i : Nat} {o : Oper} (hi : l[i]? = some o) (hdn : ∀ d, o.dst = some d → Nat.blt d n = true) (hun : D.getD i false = false) (hpre : ∀ e ∈ o.after, Region.binds .any e = true → D.getD e.on false = true) {s : Spec} (hsi : ss[i]? = some s) {v : Value} (hv : s.s v w') (hb : Kept w w' (MU mu)) (hph : ∀ j x, mu j = some x → ((D.setIfInBounds i true).getD j false = true → x.F1 w') ∧ ((D.setIfInBounds i true).getD j false = false → x.F0 w')) (hst : ∀ (k : Nat) (s : Spec), k ≠ i → D.getD k false = true → ss[k]? = some s → s.s (vs k) w → s.s (vs k) w') :
    Inv3 mu l ss cx n G w0 (fun k => if k = i then v else vs k) (D.setIfInBounds i true) (a.put o.dst v) w' := by
  have hil : i < l.length := (List.getElem?_eq_some_iff.1 hi).1
  have hiD : i < D.size := by rw [h.dsize]; exact hil
  have hne : ∀ {k : Nat}, k ≠ i → (D.setIfInBounds i true).getD k false = D.getD k false := fun hk => by simp [Array.getElem?_setIfInBounds_ne (Ne.symm hk)]
  have hup : ∀ {k : Nat}, D.getD k false = true → (D.setIfInBounds i true).getD k false = true := fun {k} hk => by
    by_cases hki : k = i
    · subst hki; rw [hun] at hk; cases hk
    · rw [hne hki]; exact hk
  refine ⟨by simp [h.dsize], fun j oj hj hl e he hbd => ?_, kept_trans h.below hb, hph, fun k sk hl hk => ?_, fun k sk hk => ?_, ?_, ?_, fun t u hno hl => ?_, fun k ok d hk hd hl => ?_⟩
  · by_cases hji : j = i
    · subst hji
      have : oj = o := Option.some.inj (hj.symm.trans hi)
      subst this
      exact hup (hpre e he hbd)
    · rw [hne hji] at hl
      exact hup (h.closed j oj hj hl e he hbd)
  · by_cases hki : k = i
    · subst hki
      have : sk = s := Option.some.inj (hk.symm.trans hsi)
      subst this
      simpa using hv
    · rw [hne hki] at hl
      simpa [hki] using hst k sk hki hl hk (h.facts k sk hl hk)
  · by_cases hki : k = i
    · subst hki
      have : sk = s := Option.some.inj (hk.symm.trans hsi)
      subst this
      simpa using sk.imp _ _ hv
    · simpa [hki] using h.pls k sk hk
  · cases hd : o.dst <;> simp [Act.put, h.size]
  · cases hd : o.dst <;> simp [Act.put, h.defers]
  · have h1 : a.tmps[t]? = some u := h.old t u (fun k ok hk hd => by
      have := hno k ok hk hd
      by_cases hki : k = i
      · subst hki; exact hun
      · rwa [hne hki] at this) hl
    cases hd : o.dst with
    | none => simpa [Act.put] using h1
    | some d =>
      by_cases hdt : d = t
      · subst hdt
        have := hno i o hi hd
        rw [set_getD_same hiD] at this
        cases this
      · simp only [Act.put]
        rw [Array.getElem?_setIfInBounds_ne hdt]
        exact h1
  · by_cases hki : k = i
    · subst hki
      have : ok = o := Option.some.inj (hk.symm.trans hi)
      subst this
      have hlt : d < a.tmps.size := by rw [h.size]; simpa using hdn d hd
      simp [Act.put, hd, hlt]
    · rw [hne hki] at hl
      have h1 := h.new k ok d hk hd hl
      simp only [hki, if_false]
      cases hd' : o.dst with
      | none => simpa [Act.put] using h1
      | some d' =>
        have hdd : d' ≠ d := fun he => hki (hs.uniq i k o ok d hi hk (by rw [hd', he]) hd)
        simp only [Act.put]
        rw [Array.getElem?_setIfInBounds_ne hdd]
        exact h1
theorem wpAny_flow3 {mu : Nat → Option Mt} {l : List Oper} {ss : List Spec} {M : List Nat} {w0 : World} {k : Nat} (hs : Static l M) (hkl : k ≤ l.length) (htl : tailOk M k l.length = true)
    (ht : ∀ vs : Nat → Value, (∀ (k : Nat) (s : Spec), ss[k]? = some s → s.pl (vs k)) → (∀ (j : Nat) (o : Oper), j < k → l[j]? = some o → ∃ s m, ss[j]? = some s ∧ M[j]? = some m ∧ (∀ d, o.dst = some d → Nat.blt d n = true) ∧
      (∀ w, Kept w0 w (MU mu) → Ph mu m M j w → Have m (fz (ss.take j) vs 0) w → Ok3 P l o (gz (l.take j) vs 0 G) w s (mu j))) ∧ (∀ w, Kept w0 w (MU mu) → (∀ j x, mu j = some x → x.F1 w) → HaveAll (fz ss vs 0) w → ∀ a, Fits cx n (gz (l.take k) vs 0 G) a → wpList P l.toArray Q (l.drop k) a w)) (hsl : ss.length = k) (hqk : ∀ j x, mu j = some x → j < k)
    (hst : ∀ i x, mu i = some x → ∀ (k : Nat) (s : Spec), k ≠ i → ss[k]? = some s → ∀ v w w', Kept w w' x.S → s.s v w → s.s v w') (hF : ∀ j x, mu j = some x → ∀ w w', Below w.heap.size w w' → (x.F0 w → x.F0 w') ∧ (x.F1 w → x.F1 w')) (hFF : ∀ i y, mu i = some y → ∀ j x, mu j = some x → j ≠ i → ∀ w w', Kept w w' y.S → QT w w' → (x.F0 w → x.F0 w') ∧ (x.F1 w → x.F1 w')) :
    ∀ (fuel : Nat) (D : Array Bool) (a : Act) (w : World) (vs : Nat → Value), cf D.toList ≤ fuel → Inv3 mu l ss cx n G w0 vs D a w → (∀ i, k ≤ i → i < l.length → D.getD i false = false) → wpAny P .any l.toArray Q fuel D a w := by
  have hfin : ∀ (D : Array Bool) (a : Act) (w : World) (vs : Nat → Value), Inv3 mu l ss cx n G w0 vs D a w → (∀ i, i < k → D.getD i false = true) → (∀ i, k ≤ i → i < l.length → D.getD i false = false) → wpList P l.toArray Q (l.drop k) a w := fun D a w vs h hall hno => by
    refine (ht vs h.pls).2 w h.below (fun j x hx => (h.phase j x hx).1 (hall j (hqk j x hx))) (fun k s v hk => ?_) a ⟨h.size, h.defers, fun t v hl => ?_⟩
    · rw [fz_get] at hk
      cases hsk : ss[k]? with
      | none => rw [hsk] at hk; simp at hk
      | some s' =>
        rw [hsk] at hk
        simp only [Option.map_some, Option.some.injEq, Prod.mk.injEq, Nat.zero_add] at hk
        obtain ⟨rfl, rfl⟩ := hk
        exact h.facts k s' (hall k (by have := (List.getElem?_eq_some_iff.1 hsk).1; omega)) hsk
    · rcases gz_look (l.take k) vs 0 G t v hl with ⟨j, o, h1, h2, h3⟩ | ⟨h1, h2⟩
      · rw [h3, Nat.zero_add]
        have hjk : j < k := by
          have := (List.getElem?_eq_some_iff.1 h1).1
          simp at this; omega
        rw [List.getElem?_take, if_pos hjk] at h1
        exact h.new j o t h1 h2 (hall j hjk)
      · refine h.old t v (fun q o hq hd => ?_) h2
        rcases Nat.lt_or_ge q k with hqk | hqk
        · exact absurd hd (h1 q o (by rw [List.getElem?_take, if_pos hqk]; exact hq))
        · exact hno q hqk (List.getElem?_eq_some_iff.1 hq).1
  have hdone : ∀ (fuel : Nat) (D : Array Bool) (a : Act) (w : World) (vs : Nat → Value), cf D.toList ≤ fuel → Inv3 mu l ss cx n G w0 vs D a w → (∀ i, i < k → D.getD i false = true) → (∀ i, k ≤ i → i < l.length → D.getD i false = false) → wpAny P .any l.toArray Q fuel D a w := fun fuel D a w vs hc h hall hno =>
    wpAny_tail hs htl (l.length - k) k rfl (Nat.le_refl _) hkl fuel D a w h.dsize (fun i hi => ⟨fun hd => (Nat.lt_or_ge i k).resolve_right (fun q => by rw [hno i q hi] at hd; exact Bool.noConfusion hd), fun q => hall i q⟩) hc (hfin D a w vs h hall hno)
  intro fuel
  induction fuel with
  | zero =>
    intro D a w vs hc h hno
    refine hdone 0 D a w vs hc h (fun i hi => ?_) hno
    have hiD : i < D.size := by rw [h.dsize]; omega
    have := cf_zero D.toList (by omega) i D[i] (by simp [hiD])
    simp [hiD, this]
  | succ fuel ih =>
    intro D a w vs hc h hno
    by_cases hall : ∀ i, i < k → D.getD i false = true
    · exact hdone _ D a w vs hc h hall hno
    obtain ⟨q, hq, hqn⟩ : ∃ q, q < k ∧ D.getD q false = false := by
      refine Classical.byContradiction fun hne => hall fun i hi => ?_
      cases hd : D.getD i false with
      | true => rfl
      | false => exact absurd ⟨i, hi, hd⟩ hne
    refine ⟨fun hr => (by have := all_listed hs h.dsize hr q (by omega); rw [hqn] at this; cases this), fun i hi => ?_⟩
    obtain ⟨h1, o, h2, hpre⟩ := mem_ready.1 hi
    have hun := getD_no h1
    have hoi : l[i]? = some o := by simpa using h2
    have hil : i < l.length := (List.getElem?_eq_some_iff.1 hoi).1
    have hik : i < k := by
      rcases Nat.lt_or_ge i k with hlt | hge
      · exact hlt
      · have := mask_listed hs h.closed i o q hoi hpre (tail_spec htl i hge hil q (by omega))
        rw [hqn] at this; cases this
    obtain ⟨s, m, hs1, hm1, hdn, hstep⟩ := (ht vs h.pls).1 i o hik hoi
    have hmi : M.getD i 0 = m := by simp [hm1]
    have hmask := mask_listed hs h.closed i o
    have hhave : Have m (fz (ss.take i) vs 0) w := (fun k s' v hk hb => by
      rw [fz_get] at hk
      cases hsk : (ss.take i)[k]? with
      | none => rw [hsk] at hk; simp at hk
      | some s'' =>
        rw [hsk] at hk
        simp only [Option.map_some, Option.some.injEq, Prod.mk.injEq, Nat.zero_add] at hk
        obtain ⟨rfl, rfl⟩ := hk
        refine h.facts k s'' (hmask k hoi hpre (by rw [hmi]; exact hb)) ?_
        rw [List.getElem?_take] at hsk
        split at hsk
        · exact hsk
        · simp at hsk)
    have heyes : ∀ t ∈ eyes l o, ∀ v, sLook (gz (l.take i) vs 0 G) t = some v → a.tmps[t]? = some v := fun t hte v hl => by
      rcases gz_look (l.take i) vs 0 G t v hl with ⟨j, o', g1, g2, g3⟩ | ⟨g1, g2⟩
      · have hji : j < i := by
          have := (List.getElem?_eq_some_iff.1 g1).1
          simp at this; omega
        have g1' : l[j]? = some o' := by
          rw [List.getElem?_take] at g1
          rw [if_pos hji] at g1
          exact g1
        rw [g3, Nat.zero_add]
        refine h.new j o' t g1' g2 ?_
        rcases hs.seen i j o o' t hoi g1' g2 hte with g | g
        · exact hmask j hoi hpre g
        · have := (hs.bits j o' i g1' g).1; omega
      · refine h.old t v (fun k ok hk hd => ?_) g2
        cases hDk : D.getD k false with
        | false => rfl
        | true =>
          exfalso
          rcases Nat.lt_trichotomy k i with g | g | g
          · refine g1 k ok ?_ hd
            rw [List.getElem?_take, if_pos g]; exact hk
          · subst g; rw [hun] at hDk; cases hDk
          · rcases hs.seen i k o ok t hoi hk hd hte with q | q
            · have := (hs.bits i o k hoi q).1; omega
            · have := mask_listed hs h.closed k ok i hk (h.closed k ok hk hDk) q
              rw [hun] at this; cases this
    have hcf : cf (D.setIfInBounds i true).toList ≤ fuel := by
      have hiD : i < D.size := by rw [h.dsize]; exact hil
      have := cf_set D.toList i (by simp [hiD] at hun ⊢; exact hun)
      rw [Array.toList_setIfInBounds]
      omega
    have hphB : ∀ w', mu i = none → Below w.heap.size w w' → ∀ j x, mu j = some x → ((D.setIfInBounds i true).getD j false = true → x.F1 w') ∧ ((D.setIfInBounds i true).getD j false = false → x.F0 w') := fun w' hne hb j x hx => by
      have hji : j ≠ i := fun e => by rw [e, hne] at hx; cases hx
      have e : (D.setIfInBounds i true).getD j false = D.getD j false := by simp [Array.getElem?_setIfInBounds_ne (Ne.symm hji)]
      rw [e]
      exact ⟨fun h1 => (hF j x hx _ _ hb).2 ((h.phase j x hx).1 h1), fun h1 => (hF j x hx _ _ hb).1 ((h.phase j x hx).2 h1)⟩
    have hgo : ∀ v w', s.s v w' → Kept w w' (MU mu) → (∀ j x, mu j = some x → ((D.setIfInBounds i true).getD j false = true → x.F1 w') ∧ ((D.setIfInBounds i true).getD j false = false → x.F0 w')) → (∀ (k : Nat) (s : Spec), k ≠ i → D.getD k false = true → ss[k]? = some s → s.s (vs k) w → s.s (vs k) w') → wpAny P .any l.toArray Q fuel (D.setIfInBounds i true) (a.put o.dst v) w' := fun v w' hv hb hph hca =>
      ih _ _ _ _ hcf (h.step hs hoi hdn hun hpre hs1 hv hb hph hca) (fun q hq hql => by
        have hqi : q ≠ i := by omega
        have : (D.setIfInBounds i true).getD q false = D.getD q false := by simp [Array.getElem?_setIfInBounds_ne (Ne.symm hqi)]
        rw [this]; exact hno q hq hql)
    have hPh : Ph mu m M i w := fun j x hx hji => ⟨fun hb => (h.phase j x hx).1 (hmask j hoi hpre (by rw [hmi]; exact hb)), fun hb => by
      cases hDq : D.getD j false with
      | false => exact (h.phase j x hx).2 hDq
      | true =>
        exfalso
        have hq0l : j < l.length := by have := hqk j x hx; omega
        have hoq : l[j]? = some l[j] := List.getElem?_eq_getElem hq0l
        have := mask_listed hs h.closed j l[j] i hoq (h.closed j _ hoq hDq) hb
        rw [hun] at this; cases this⟩
    have hok0 := hstep w h.below hPh hhave
    cases hmu : mu i with
    | some x =>
      have hph : ∀ w', Kept w w' x.S → x.F1 w' ∧ QT w w' → ∀ j y, mu j = some y → ((D.setIfInBounds i true).getD j false = true → y.F1 w') ∧ ((D.setIfInBounds i true).getD j false = false → y.F0 w') := fun w' hkk h1 j y hy => by
        by_cases hji : j = i
        · subst hji
          have e := set_getD_same (D := D) (i := j) (by rw [h.dsize]; exact hil)
          rw [e]
          have exy : y = x := Option.some.inj (hy.symm.trans hmu)
          subst exy
          exact ⟨fun _ => h1.1, fun h2 => by cases h2⟩
        · have e : (D.setIfInBounds i true).getD j false = D.getD j false := by simp [Array.getElem?_setIfInBounds_ne (Ne.symm hji)]
          rw [e]
          exact ⟨fun h2 => (hFF i x hmu j y hy hji _ _ hkk h1.2).2 ((h.phase j y hy).1 h2), fun h2 => (hFF i x hmu j y hy hji _ _ hkk h1.2).1 ((h.phase j y hy).2 h2)⟩
      have hcaM : ∀ w', Kept w w' x.S → ∀ (k : Nat) (s : Spec), k ≠ i → D.getD k false = true → ss[k]? = some s → s.s (vs k) w → s.s (vs k) w' := fun w' hb k s hk _ hsk h1 => hst i x hmu k s hk hsk _ _ _ hb h1
      rw [hmu] at hok0
      have hok : MutOk P l o (gz (l.take i) vs 0 G) w s x.S (fun w' => x.F1 w' ∧ QT w w') := hok0 ((h.phase i x hmu).2 hun)
      have hrun : known (gz (l.take i) vs 0 G) o = true ∧ GivesM P s x.S (fun w' => x.F1 w' ∧ QT w w') w ((execOp (sEv (gz (l.take i) vs 0 G)) o).run P w) → o.wp P a w (wpAny P .any l.toArray Q fuel (D.setIfInBounds i true)) Q := fun ⟨hk, hg⟩ => by
        unfold Oper.wp
        rw [exec_eyes heyes hk]
        generalize (execOp (sEv (gz (l.take i) vs 0 G)) o).run P w = r at hg ⊢
        cases r with
        | halt z w' => exact hg.elim
        | ok z w' =>
          cases z with
          | enter f args =>
            obtain ⟨rfl, hcall⟩ := hg
            refine hcall.mono fun e w'' he => ?_
            obtain ⟨v, rfl, hv, hb, h1⟩ := he
            exact hgo v w'' hv (kept_mu hmu hb) (hph w'' hb h1) (hcaM w'' hb)
          | skip => exact hgo undef w' hg.1 (kept_mu hmu hg.2.1) (hph w' hg.2.1 hg.2.2) (hcaM w' hg.2.1)
          | value v => exact hgo v w' hg.1 (kept_mu hmu hg.2.1) (hph w' hg.2.1 hg.2.2) (hcaM w' hg.2.1)
          | _ => exact hg.elim
      unfold wpOp
      rw [h2]
      simp only
      unfold MutOk at hok
      cases hgd : o.guard with
      | none =>
        rw [hgd] at hok
        rw [if_pos (wanted_none hgd _)]
        exact .inl (hrun hok)
      | some gb =>
        obtain ⟨g, b⟩ := gb
        rw [hgd] at hok
        obtain ⟨t, q1, q2, q3⟩ := hok
        have hte : t ∈ eyes l o := by
          refine List.mem_append_right _ ?_
          rw [hgd]
          simp [q1]
        have hw : Region.wanted o (yielded l.toArray a.tmps) = true := by
          have q1' : ((l.toArray)[g]?).bind (·.dst) = some t := by simpa using q1
          have q5 : yielded l.toArray a.tmps g = some b := by
            unfold yielded
            rw [q1']
            simp [heyes t hte _ q2]
          unfold Region.wanted
          rw [hgd]
          simp only [q5]
          cases b <;> rfl
        rw [if_pos hw]
        exact .inl (hrun q3)
    | none =>
      have hiq := hmu
      have hcaB : ∀ w', Below w.heap.size w w' → ∀ (k : Nat) (s : Spec), k ≠ i → D.getD k false = true → ss[k]? = some s → s.s (vs k) w → s.s (vs k) w' := fun w' hb k s _ _ _ h1 => s.stab _ _ _ hb h1
      rw [hmu] at hok0
      have hok : StepOk P l o (gz (l.take i) vs 0 G) w s := hok0
      have hrun : known (gz (l.take i) vs 0 G) o = true ∧ Gives P s w ((execOp (sEv (gz (l.take i) vs 0 G)) o).run P w) → o.wp P a w (wpAny P .any l.toArray Q fuel (D.setIfInBounds i true)) Q := fun ⟨hk, hg⟩ => by
        unfold Oper.wp
        rw [exec_eyes heyes hk]
        generalize (execOp (sEv (gz (l.take i) vs 0 G)) o).run P w = r at hg ⊢
        cases r with
        | halt x w' => exact hg.elim
        | ok x w' =>
          cases x with
          | value v => exact hgo v w' hg.1 (below_kept hg.2) (hphB w' hiq hg.2) (hcaB w' hg.2)
          | skip => exact hgo undef w' hg.1 (below_kept hg.2) (hphB w' hiq hg.2) (hcaB w' hg.2)
          | enter f args =>
            obtain ⟨rfl, hcall⟩ := hg
            refine hcall.mono fun e w'' he => ?_
            obtain ⟨v, rfl, hv, hb⟩ := he
            exact hgo v w'' hv (below_kept hb) (hphB w'' hiq hb) (hcaB w'' hb)
          | _ => exact hg.elim
      unfold wpOp
      rw [h2]
      simp only
      unfold StepOk at hok
      cases hgd : o.guard with
      | none =>
        rw [hgd] at hok
        rw [if_pos (wanted_none hgd _)]
        exact .inl (hrun hok)
      | some gb =>
        obtain ⟨g, b⟩ := gb
        rw [hgd] at hok
        rcases hok with ⟨t, c, q1, q2, q3, q4⟩ | ⟨t, q1, q2, q4⟩
        rotate_left
        · have hte : t ∈ eyes l o := by
            refine List.mem_append_right _ ?_
            rw [hgd]
            simp [q1]
          have hw : Region.wanted o (yielded l.toArray a.tmps) = false := by
            have q1' : ((l.toArray)[g]?).bind (·.dst) = some t := by simpa using q1
            have q5 : yielded l.toArray a.tmps g = none := by
              unfold yielded
              rw [q1']
              simp [heyes t hte _ q2, undef]
            unfold Region.wanted
            rw [hgd]
            simp only [q5]
            rfl
          rw [if_neg (by rw [hw]; simp)]
          exact hgo undef w q4 (kept_refl _ _) (hphB w hiq (Below.refl _ _)) (hcaB w (Below.refl _ _))
        have hte : t ∈ eyes l o := by
          refine List.mem_append_right _ ?_
          rw [hgd]
          simp [q1]
        have hw : Region.wanted o (yielded l.toArray a.tmps) = (c == b) := by
          have q1' : ((l.toArray)[g]?).bind (·.dst) = some t := by simpa using q1
          have q5 : yielded l.toArray a.tmps g = some c := by
            unfold yielded
            rw [q1']
            simp [heyes t hte _ q2]
          unfold Region.wanted
          rw [hgd]
          simp only [q5]
          cases c <;> cases b <;> rfl
        by_cases hc : c = b
        · rw [if_pos (by rw [hw]; simp [hc])]
          exact .inl (hrun (q3 hc))
        · rw [if_neg (by rw [hw]; simp [hc])]
          exact hgo undef w (q4 hc) (kept_refl _ _) (hphB w hiq (Below.refl _ _)) (hcaB w (Below.refl _ _))
theorem w_drawo {id : Nat} {l : List Oper} {M : List Nat} {ss : List Spec} (mu : Nat → Option Mt) (k : Nat) (hm : P.follows .mixedOrders = true) (hok : (listOk l M && Nat.beq M.length l.length && tailOk M k l.length && Nat.ble k l.length) = true) (hqk : ∀ j x, mu j = some x → j < k) (hst : ∀ i x, mu i = some x → ∀ (k : Nat) (s : Spec), k ≠ i → ss[k]? = some s → ∀ v w w', Kept w w' x.S → s.s v w → s.s v w') (hF : ∀ j x, mu j = some x → ∀ w w', Below w.heap.size w w' → (x.F0 w → x.F0 w') ∧ (x.F1 w → x.F1 w')) (hFF : ∀ i y, mu i = some y → ∀ j x, mu j = some x → j ≠ i → ∀ w w', Kept w w' y.S → QT w w' → (x.F0 w → x.F0 w') ∧ (x.F1 w → x.F1 w')) (h0 : ∀ j x, mu j = some x → x.F0 w.drew)
    (h : Tele3 P n l w.drew mu M (fun G' F => ∀ w', Kept w.drew w' (MU mu) → (∀ j x, mu j = some x → x.F1 w') → HaveAll F w' → RW P l.toArray cx n (Ks cx P st Q) (l.drop k) G' w') (l.take k) ss (M.take k) [] G) : W P cx n Q (Itm.code (.region id l.toArray true) :: st) G w := fun a ha => by
  simp only [Bool.and_eq_true] at hok
  obtain ⟨⟨⟨hok1, hM0⟩, htl⟩, hkl0⟩ := hok
  have hM := Nat.eq_of_beq_eq_true hM0
  have hkl := Nat.le_of_ble_eq_true hkl0
  have ht := fun vs hp => tele3_at (P := P) (l.take k) ss (M.take k) [] G h vs hp
  have hsl : ss.length = k := by
    have aux : ∀ (os : List Oper) (ss : List Spec) (ms : List Nat) (F : Facts) (G : Env) (E : Env → Facts → Prop), Tele3 P n l w.drew mu M E os ss ms F G → ss.length = os.length := by
      intro os
      induction os with
      | nil => intro ss ms F G E h; cases ss with
        | nil => rfl
        | cons => cases ms <;> exact h.elim
      | cons o os ih => intro ss ms F G E h; cases ss with
        | nil => cases ms <;> exact h.elim
        | cons s ss => cases ms with
          | nil => exact h.elim
          | cons m ms => obtain ⟨v, hv⟩ := s.inh; simp only [List.length_cons]; rw [ih ss ms _ _ E (h.2.2 v hv)]
    rw [aux _ _ _ _ _ _ h, List.length_take]; omega
  refine drawn_in hm (fun i o hi => listOk_sel hok1 i o (by simpa using hi)) (wpAny_flow3 (cx := cx) (mu := mu) (n := n) (G := G) (Q := Ks cx P st Q) (ss := ss) (w0 := w.drew) (k := k) (static_of hok1) hkl htl (fun vs hp => ?_) hsl hqk hst hF hFF _ _ a _ (fun j => match ss[j]? with | some s => Classical.choose s.inh | none => undef) ?_ ?_ ?_)
  · obtain ⟨h1, h2⟩ := ht vs (fun j s hj => by simpa using hp j s hj)
    refine ⟨fun j o hjk hj => ?_, fun w' hb hf hh a' ha' => ?_⟩
    · obtain ⟨s, m, e1, e2, e4, e5⟩ := h1 j o (by rw [List.getElem?_take, if_pos hjk]; exact hj)
      have e2' : M[j]? = some m := by rw [List.getElem?_take, if_pos hjk] at e2; exact e2
      have htt : (l.take k).take j = l.take j := by rw [List.take_take]; congr 1; omega
      exact ⟨s, m, e1, e2', e4, fun w' hb h0 hh => by have := e5 w' hb (by simpa using h0) (by simpa using hh); rw [htt] at this; simpa using this⟩
    · exact (h2 w' hb hf (by simpa using hh)) a' (by simpa using ha')
  · have : ∀ k, cf (List.replicate k false) = k := by
      intro k; induction k with
      | zero => rfl
      | succ k ih => simp only [List.replicate_succ, cf, ih]; simp; omega
    simp [this]
  · refine ⟨by simp, fun j o hj hl => ?_, kept_refl _ _, fun j x hx => ⟨fun h1 => by (simp [Array.getElem?_replicate] at h1; split at h1 <;> simp at h1), fun _ => h0 j x hx⟩, fun k s hl => ?_, fun k s hk => ?_, ha.size, ha.defers, fun t v _ hl => ha.at_ t v hl, fun k o d hk hd hl => ?_⟩
    · simp [Array.getElem?_replicate] at hl; split at hl <;> simp at hl
    · simp [Array.getElem?_replicate] at hl; split at hl <;> simp at hl
    · simp only [hk]
      exact Classical.choose_spec s.inh
    · simp [Array.getElem?_replicate] at hl; split at hl <;> simp at hl
  · intro i _ hi
    simp [Array.getElem?_replicate, hi]
variable {l : List Oper} {w0 : World} {mu : Nat → Option Mt} {M : List Nat} {E : Env → Facts → Prop} {os : List Oper} {ss : List Spec} {ms : List Nat} {m : Nat} {F : Facts} {o : Oper}
theorem v_is (hnq : mu F.length = none) {d : Nat} (c : Value) (hg : o.guard = none) (hd : o.dst = some d) (hdn : Nat.blt d n = true) (hk : known G o = true)
    (hrun : ∀ w, Kept w0 w (MU mu) → Ph mu m M F.length w → Have m F w → (execOp (sEv G) o).run P w = .ok (.value c) w)
    (k : Tele3 P n l w0 mu M E os ss ms (F ++ [(Is c, c)]) ((d, c) :: G)) : Tele3 P n l w0 mu M E (o :: os) (Is c :: ss) (m :: ms) F G := by
  refine ⟨fun d' h => by rw [hd] at h; cases h; exact hdn, fun w hb h1_ hh => ?_, fun v hv => ?_⟩
  · rw [hnq]
    show StepOk _ _ _ _ _ _
    unfold StepOk
    rw [hg]
    refine ⟨hk, ?_⟩
    rw [hrun w hb h1_ hh]
    exact ⟨rfl, Below.refl _ _⟩
  · have : v = c := hv
    subst this
    rw [hd]
    exact k
theorem v_val (hnq : mu F.length = none) {d : Nat} (s : Spec) (hg : o.guard = none) (hd : o.dst = some d) (hdn : Nat.blt d n = true) (hk : known G o = true)
    (hrun : ∀ w, Kept w0 w (MU mu) → Ph mu m M F.length w → Have m F w → ∃ v w', (execOp (sEv G) o).run P w = .ok (.value v) w' ∧ s.s v w' ∧ Below w.heap.size w w')
    (k : ∀ v, s.pl v → Tele3 P n l w0 mu M E os ss ms (F ++ [(s, v)]) ((d, v) :: G)) : Tele3 P n l w0 mu M E (o :: os) (s :: ss) (m :: ms) F G := by
  refine ⟨fun d' h => by rw [hd] at h; cases h; exact hdn, fun w hb h1_ hh => ?_, fun v hv => ?_⟩
  · rw [hnq]
    show StepOk _ _ _ _ _ _
    unfold StepOk
    rw [hg]
    refine ⟨hk, ?_⟩
    obtain ⟨v, w', h1, h2, h3⟩ := hrun w hb h1_ hh
    rw [h1]
    exact ⟨h2, h3⟩
  · rw [hd]
    exact k v hv
theorem v_mut {x : Mt} (hq : mu F.length = some x) {d : Nat} (s : Spec) {f : FuncId} {args : Array Value} (hg : o.guard = none) (hd : o.dst = some d) (hdn : Nat.blt d n = true) (hk : known G o = true)
    (hrun : ∀ w, (execOp (sEv G) o).run P w = .ok (.enter f args) w)
    (hc : ∀ w, Kept w0 w (MU mu) → x.F0 w → Have m F w → Calls P f args w fun e w' => ∃ v, e = .returned v ∧ s.s v w' ∧ Kept w w' x.S ∧ x.F1 w' ∧ QT w w')
    (k : ∀ v, s.pl v → Tele3 P n l w0 mu M E os ss ms (F ++ [(s, v)]) ((d, v) :: G)) : Tele3 P n l w0 mu M E (o :: os) (s :: ss) (m :: ms) F G := by
  refine ⟨fun d' h => by rw [hd] at h; cases h; exact hdn, fun w hb _ hh => ?_, fun v hv => ?_⟩
  · rw [hq]
    intro h0
    unfold MutOk
    rw [hg]
    refine ⟨hk, ?_⟩
    rw [hrun w]
    exact ⟨rfl, hc w hb h0 hh⟩
  · rw [hd]
    exact k v hv
theorem v_app {x : Mt} (hq : mu F.length = some x) {d : Nat} (s : Spec) (hg : o.guard = none) (hd : o.dst = some d) (hdn : Nat.blt d n = true) (hk : known G o = true)
    (hrun : ∀ w, Kept w0 w (MU mu) → x.F0 w → Have m F w → ∃ v w', (execOp (sEv G) o).run P w = .ok (.value v) w' ∧ s.s v w' ∧ Kept w w' x.S ∧ x.F1 w' ∧ QT w w')
    (k : ∀ v, s.pl v → Tele3 P n l w0 mu M E os ss ms (F ++ [(s, v)]) ((d, v) :: G)) : Tele3 P n l w0 mu M E (o :: os) (s :: ss) (m :: ms) F G := by
  refine ⟨fun d' h => by rw [hd] at h; cases h; exact hdn, fun w hb _ hh => ?_, fun v hv => ?_⟩
  · rw [hq]
    intro h0
    unfold MutOk
    rw [hg]
    refine ⟨hk, ?_⟩
    obtain ⟨v, w', h1, h2, h3, h4⟩ := hrun w hb h0 hh
    rw [h1]
    exact ⟨h2, h3, h4⟩
  · rw [hd]
    exact k v hv
theorem v_tail {rest : List Oper} {ops : Array Oper} {Q' : Exit → Act → World → Prop} (h : ∀ w', Kept w0 w' (MU mu) → (∀ j x, mu j = some x → x.F1 w') → HaveAll F w' → RW P ops cx n Q' rest G w') : Tele3 P n l w0 mu M (fun G' F => ∀ w', Kept w0 w' (MU mu) → (∀ j x, mu j = some x → x.F1 w') → HaveAll F w' → RW P ops cx n Q' rest G' w') [] [] [] F G := h
def two (p q : Nat) (x y : Mt) (i : Nat) : Option Mt := cond (Nat.beq i p) (some x) (cond (Nat.beq i q) (some y) none)
theorem two_cases {p q : Nat} {x y : Mt} {P : Nat → Mt → Prop} (hp : P p x) (hq : P q y) : ∀ j z, two p q x y j = some z → P j z := fun j z h => by
  unfold two at h
  cases e1 : Nat.beq j p with
  | true => rw [e1] at h; cases h; rw [Nat.eq_of_beq_eq_true e1]; exact hp
  | false =>
    rw [e1] at h
    cases e2 : Nat.beq j q with
    | true => rw [e2] at h; cases h; rw [Nat.eq_of_beq_eq_true e2]; exact hq
    | false => rw [e2] at h; cases h
theorem mu_two {p q : Nat} {x y : Mt} {b : Nat} (h : MU (two p q x y) b) : x.S b ∨ y.S b := by
  obtain ⟨j, z, h1, h2⟩ := h
  revert h2
  exact two_cases (P := fun _ z => z.S b → x.S b ∨ y.S b) .inl .inr j z h1
theorem two_ff {p q : Nat} {x y : Mt} (h1 : ∀ w w', Kept w w' x.S → QT w w' → (y.F0 w → y.F0 w') ∧ (y.F1 w → y.F1 w')) (h2 : ∀ w w', Kept w w' y.S → QT w w' → (x.F0 w → x.F0 w') ∧ (x.F1 w → x.F1 w')) : ∀ i b, two p q x y i = some b → ∀ j a, two p q x y j = some a → j ≠ i → ∀ w w', Kept w w' b.S → QT w w' → (a.F0 w → a.F0 w') ∧ (a.F1 w → a.F1 w') :=
  two_cases (P := fun i b => ∀ j a, two p q x y j = some a → j ≠ i → ∀ w w', Kept w w' b.S → QT w w' → (a.F0 w → a.F0 w') ∧ (a.F1 w → a.F1 w'))
    (two_cases (P := fun j a => j ≠ p → ∀ w w', Kept w w' x.S → QT w w' → (a.F0 w → a.F0 w') ∧ (a.F1 w → a.F1 w')) (fun h => absurd rfl h) (fun _ => h1))
    (two_cases (P := fun j a => j ≠ q → ∀ w w', Kept w w' y.S → QT w w' → (a.F0 w → a.F0 w') ∧ (a.F1 w → a.F1 w')) (fun _ => h2) (fun h => absurd rfl h))
theorem two_st {p q : Nat} {x y : Mt} {ss : List Spec} (h1 : StabX x.S p ss) (h2 : StabX y.S q ss) : ∀ i z, two p q x y i = some z → ∀ (k : Nat) (s : Spec), k ≠ i → ss[k]? = some s → ∀ v w w', Kept w w' z.S → s.s v w → s.s v w' :=
  two_cases (P := fun i z => ∀ (k : Nat) (s : Spec), k ≠ i → ss[k]? = some s → ∀ v w w', Kept w w' z.S → s.s v w → s.s v w') (stabx h1) (stabx h2)
def Join (cx : Cx) (n : Nat) (J : Env → World → Prop) (a : Act) (w : World) : Prop := ∃ G', Fits cx n G' a ∧ J G' w
theorem w_join {c : Code} (J : Env → World → Prop) (h : W P cx n Q (Itm.code c :: Itm.lp (Join cx n J) :: st) G w) (h2 : ∀ G' w', J G' w' → W P cx n Q st G' w') : W P cx n Q (Itm.code c :: st) G w := fun a ha => by
  refine wpIn_mono (h a ha) fun e a' w' q => ?_
  cases e with
  | normal =>
    obtain ⟨G', hf, hj⟩ := q
    exact h2 G' w' hj a' hf
  | _ => exact q
theorem w_joined {J : Env → World → Prop} (G' : Env) (hs : Sub G' G) (hj : J G' w) : W P cx n Q (Itm.lp (Join cx n J) :: st) G w := fun a ha => ⟨G', ha.sub hs, hj⟩
end
end Go.Proofs.Ytbbhdohjhipalaa.Flow
end
section
namespace Go.Proofs.YtbbhdohjhipalaaW.PrintLast
open Go.Proofs.YtbbhdohjhipalaaW.PrintWords (Aside0)
def needsOf (md : Region.Mode) (o : Oper) : List Nat := (o.after.toList.filter (fun e => Region.binds md e)).map (fun e => e.on)
def clashOf (md : Region.Mode) (ops : Array Oper) (i : Nat) (oi : Oper) : List Nat := (List.range ops.size).filter fun j => !(j == i) && match ops[j]? with
  | some oj => !(oj.after.any (fun e => Region.binds md e && e.on == i) || oi.apart ops oj)
  | none => false
def rtab (md : Region.Mode) (ops : Array Oper) : Bool × List (List Nat × List Nat) := (Region.noSelect ops, (List.range ops.size).map fun i => match ops[i]? with
  | some o => (needsOf md o, clashOf md ops i o)
  | none => ([], []))
def readyAt (T : List (List Nat × List Nat)) (l : List Bool) (i : Nat) : Bool := !l.getD i true && match T[i]? with
  | some r => r.1.all (fun j => l.getD j false)
  | none => false
def readyT (T : List (List Nat × List Nat)) (l : List Bool) : List Nat := (List.range T.length).filter (readyAt T l)
def freeT (T : List (List Nat × List Nat)) (l : List Bool) (i : Nat) : Bool := match T[i]? with
  | some r => r.2.all (fun j => l.getD j true)
  | none => false
section
variable {md : Region.Mode} {ops : Array Oper} {T : Bool × List (List Nat × List Nat)} {l l' li lj lk : Array Bool} {ds : List Nat} {i j k : Nat}
theorem gd (l : Array Bool) (j : Nat) (b : Bool) : l.getD j b = l.toList.getD j b := by simp [Array.getD_eq_getD_getElem?, List.getD_eq_getElem?_getD]
theorem needs_all (o : Oper) (p : Nat → Bool) : o.after.all (fun e => !Region.binds md e || p e.on) = (needsOf md o).all p := by
  unfold needsOf
  rw [← Array.all_toList]
  induction o.after.toList with
  | nil => rfl
  | cons e r ih =>
    rw [List.all_cons, ih, List.filter_cons]
    cases h : Region.binds md e <;> simp
theorem rtab_length : (rtab md ops).2.length = ops.size := by simp [rtab]
theorem rtab_some {o : Oper} (h : ops[i]? = some o) : (rtab md ops).2[i]? = some (needsOf md o, clashOf md ops i o) := by
  have hi := (Array.getElem?_eq_some_iff.1 h).1
  unfold rtab
  rw [List.getElem?_map, List.getElem?_range hi, Option.map_some, h]
theorem rtab_none (h : ops[i]? = none) : (rtab md ops).2[i]? = none := by
  have hi : ops.size ≤ i := Array.getElem?_eq_none_iff.1 h
  exact List.getElem?_eq_none (by rw [rtab_length]; exact hi)
theorem readyAt_eq : readyAt (rtab md ops).2 l.toList i = (!l.getD i true && ((ops[i]?).map (·.after.all fun e => !Region.binds md e || l.getD e.on false)).getD false) := by
  unfold readyAt
  rw [gd]
  cases h : ops[i]? with
  | none => rw [rtab_none h]; rfl
  | some o =>
    rw [rtab_some h]
    simp only [Option.map_some, Option.getD_some]
    rw [← needs_all]
    simp only [gd]
theorem ready_eq : Region.ready md ops l = readyT (rtab md ops).2 l.toList := by
  unfold Region.ready readyT
  rw [rtab_length]
  refine List.filter_congr (fun i _ => ?_)
  rw [readyAt_eq]
theorem free_eq : Region.free md ops l i = freeT (rtab md ops).2 l.toList i := by
  unfold Region.free freeT
  cases h : ops[i]? with
  | none => rw [rtab_none h]
  | some oi =>
    rw [rtab_some h]
    simp only [clashOf]
    rw [List.all_filter]
    congr 1
    funext j
    rw [gd]
    cases hj : ops[j]? with
    | none => cases (j == i) <;> cases (l.toList.getD j true) <;> simp
    | some oj =>
      cases (j == i) <;> cases (l.toList.getD j true) <;> cases (oj.after.any (fun e => Region.binds md e && e.on == i) || oi.apart ops oj) <;> simp_all
theorem readyAt_mem (h : readyAt T.2 l.toList i = true) (hT : rtab md ops = T) : (Region.ready md ops l).contains i = true := by
  subst hT
  rw [ready_eq]
  unfold readyT
  rw [List.contains_iff_mem, List.mem_filter, List.mem_range]
  refine ⟨?_, h⟩
  unfold readyAt at h
  rw [Bool.and_eq_true] at h
  cases hq : (rtab md ops).2[i]? with
  | none => rw [hq] at h; simp at h
  | some r => exact (List.getElem?_eq_some_iff.1 hq).1
theorem set_of (h : (l.toList.set i true == l'.toList) = true) : (l.setIfInBounds i true == l') = true := by
  rw [beq_iff_eq] at h ⊢
  apply Array.ext'
  rw [Array.toList_setIfInBounds]
  exact h
def anyT (T : Bool × List (List Nat × List Nat)) (l l' : List Bool) (i : Nat) : Bool := T.1 && freeT T.2 l i && readyAt T.2 l i && (l.set i true == l')
theorem any_of (hT : rtab md ops = T) (h : anyT T l.toList l'.toList i = true) : anyB md ops l l' i = true := by
  simp only [anyT, Bool.and_eq_true] at h
  obtain ⟨⟨⟨h1, h2⟩, h3⟩, h4⟩ := h
  have h5 := readyAt_mem h3 hT
  have h6 := set_of h4
  subst hT
  simp only [anyB, Bool.and_eq_true]
  exact ⟨⟨⟨h1, by rw [free_eq]; exact h2⟩, h5⟩, h6⟩
theorem one_of (hT : rtab md ops = T) (h : (readyT T.2 l.toList == [i] && l.toList.set i true == l'.toList) = true) : readyB md ops l l' i = true := by
  simp only [Bool.and_eq_true] at h
  obtain ⟨h1, h2⟩ := h
  subst hT
  simp only [readyB, Bool.and_eq_true]
  exact ⟨by rw [ready_eq]; exact h1, set_of h2⟩
theorem done_of (hT : rtab md ops = T) (h : (readyT T.2 l.toList == []) = true) : (Region.ready md ops l == []) = true := by
  subst hT
  rw [ready_eq]
  exact h
def upM (B : List Nat) (d : Nat) : List Nat → Nat
  | [] => 0
  | n :: r => (2 ^ n ||| (if n < d then B.getD n 0 else 0)) ||| upM B d r
def waitsOk (T : List (List Nat × List Nat)) (B : List Nat) : Bool := (List.range T.length).all fun d => match T[d]? with
  | some r => (B.getD d 0 ||| upM B d r.1) == upM B d r.1
  | none => false
theorem with_tabW {P : Program} {Q : Exit → Act → World → Prop} {S : World → Prop} {n : Nat} {a : Act} {w : World} {B : List Nat} (hT : rtab md ops = T) (hB : waitsOk T.2 B = true) (h : Aside0 (rtab md ops = T) → Aside0 (waitsOk T.2 B = true) → wpAnyLast P md ops Q S ds n l a w) : wpAnyLast P md ops Q S ds n l a w := h ⟨hT⟩ ⟨hB⟩
end
def opsIn : Code → Nat → Option (Array Oper)
  | .region id ops _, k => if id == k then some ops else none
  | .seq a b, k => match opsIn a k with
    | some o => some o
    | none => opsIn b k
  | .cond _ a b, k => match opsIn a k with
    | some o => some o
    | none => opsIn b k
  | .block _ c, k => opsIn c k
  | .loop c, k => opsIn c k
  | .scope c, k => opsIn c k
  | .rangeFunc _ _ a b, k => match opsIn a k with
    | some o => some o
    | none => opsIn b k
  | _, _ => none
def opsOf (f : Func) (k : Nat) : Array Oper := ((f.body.bind fun c => opsIn c k)).getD #[]
end Go.Proofs.YtbbhdohjhipalaaW.PrintLast
end
section
namespace Go.Proofs.YtbbhdohjhipalaaW.PrintWords
theorem Reps.one {α : Type} {R : α → List Value → Prop} {ps : List α} {cs : List Value} {p : α} {v : Value} (hp : R p [v]) (h : Reps R 1 ps cs) : Reps R 1 (p :: ps) (v :: cs) := by
  refine ⟨by simp [h.1], fun j q hq => ?_⟩
  cases j with
  | zero =>
    simp only [List.getElem?_cons_zero, Option.some.injEq] at hq
    subst hq
    simpa using hp
  | succ j =>
    simp only [List.getElem?_cons_succ] at hq
    have h1 := h.2 j q hq
    simpa [Nat.mul_one] using h1
end Go.Proofs.YtbbhdohjhipalaaW.PrintWords
end
section
namespace Go.Proofs.Ytbbhdohjhipalaa.PNoteReads
open Go.RowKit Go.Proofs.YtbbhdohjhipalaaW.PrintWords Go.Proofs.YtbbhdohjhipalaaW.PrintLast Go.Proofs.YtbbhdohjhipalaaW.PrintMore
set_option linter.unusedVariables false
set_option linter.unusedSimpArgs false
def errW : Option Int → Value
  | none => .nilIface
  | some c => .iface 48 (.int .i64 c)
theorem errW_none : errW none = .nilIface := rfl
theorem errW_some (c : Int) : errW (some c) = .iface 48 (.int .i64 c) := rfl
theorem info3 : (Try.prog.info? 3).map (fun i => (i.zero, i.size, i.bytes)) = some (some (.int .i64 0), 1, 8) := by kernel_rfl
theorem info5 : (Try.prog.info? 5).map (fun i => (i.zero, i.size, i.bytes)) = some (some (.int .u8 0), 1, 1) := by kernel_rfl
def rd_L1 (xs : List (List Int)) (i : Int) : (List Int) := xs.getD i.toNat ([] : List Int)
theorem at_L1 {w : World} {A : Option Addr} {n : Nat} {xs : List (List Int)} (h : Kd.C (Kd.slice 5 (Kd.int .u8)) w A n xs) (i : Int) (h0 : 0 ≤ i) (h1 : i < n) : ∃ ad A0 c0, A = some ad ∧ w.cell? (ad.add i.toNat) = some (.slice A0 (rd_L1 xs i).length c0) ∧ (rd_L1 xs i).length ≤ c0 ∧ (Kd.int .u8).C w A0 (rd_L1 xs i).length (rd_L1 xs i) := by
  obtain ⟨ad, c, e, _, hK, hc0⟩ := Kd.C_get h ([] : List Int) i h0 h1
  have hc : ∀ j u, c[j]? = some u → w.cell? (ad.add (i.toNat * 1 + j)) = some u := hc0
  obtain ⟨A0, c0, rfl, l0, g0⟩ := hK
  exact ⟨ad, A0, c0, e, by have hq := hc 0 _ rfl; rwa [Nat.mul_one, Nat.add_zero] at hq, l0, g0⟩
end Go.Proofs.Ytbbhdohjhipalaa.PNoteReads
end
section
namespace Go.Proofs.Ytbbhdohjhipalaa.PNoteReads
open Go.RowKit Go.Proofs.YtbbhdohjhipalaaW.PrintWords Go.Proofs.YtbbhdohjhipalaaW.PrintLast Go.Proofs.YtbbhdohjhipalaaW.PrintMore
open Go.Proofs.Ytbbhdohjhipalaa.Flow
set_option linter.unusedVariables false
set_option linter.unusedSimpArgs false
theorem u64_wrap (x : Int) : IntKind.u64.wrap x = x % 18446744073709551616 := by simp [IntKind.wrap, IntKind.bits, IntKind.signed] <;> omega
theorem u8_wrap (x : Int) (h0 : 0 ≤ x) (h1 : x < 256) : IntKind.u8.wrap x = x := by simp [IntKind.wrap, IntKind.bits, IntKind.signed] <;> omega
theorem wrap_id {x : Int} (h1 : -9223372036854775808 ≤ x) (h2 : x ≤ 9223372036854775807) : wrap64 x = x := by unfold wrap64; omega
def blen (n : Nat) : Nat := if n = 0 then 0 else n.log2 + 1
theorem blen_spec (n k : Nat) (h : n < 2 ^ k) (h2 : k = 0 ∨ 2 ^ (k - 1) ≤ n) : blen n = k := by
  unfold blen
  rcases h2 with h2 | h2
  · subst h2
    have : n = 0 := by omega
    rw [if_pos this]
  · have h0 : 0 < 2 ^ (k - 1) := Nat.two_pow_pos _
    rw [if_neg (by omega)]
    have h3 : n.log2 < k := (Nat.log2_lt (by omega)).2 h
    have h4 : k - 1 ≤ n.log2 := (Nat.le_log2 (by omega)).2 h2
    omega
theorem blen_lt (n : Nat) : n < 2 ^ blen n := by
  unfold blen
  split
  · omega
  · exact Nat.lt_log2_self
theorem blen_ge (n : Nat) (h : n ≠ 0) : 2 ^ (blen n - 1) ≤ n := by
  unfold blen
  rw [if_neg h]
  exact Nat.log2_self_le h
theorem blen_pos (n : Nat) (h : n ≠ 0) : 0 < blen n := by
  unfold blen
  rw [if_neg h]
  omega
theorem blen_le (n k : Nat) (h : n < 2 ^ k) : blen n ≤ k := by
  by_cases h0 : n = 0
  · subst h0
    simp [blen]
  · unfold blen
    rw [if_neg h0]
    have : n.log2 < k := (Nat.log2_lt h0).2 h
    omega
theorem blen_shift (n k : Nat) (h : 2 ^ k ≤ n) : blen n = k + blen (n / 2 ^ k) := by
  have hp : 0 < 2 ^ k := Nat.two_pow_pos _
  have h0 : n / 2 ^ k ≠ 0 := by
    have := (Nat.one_le_div_iff hp).2 h
    omega
  have h1 := blen_lt (n / 2 ^ k)
  have h2 := blen_ge (n / 2 ^ k) h0
  have h3 := blen_pos (n / 2 ^ k) h0
  refine blen_spec n _ ?_ (Or.inr ?_)
  · rw [Nat.pow_add]
    have := (Nat.div_lt_iff_lt_mul hp).1 h1
    rw [Nat.mul_comm]
    exact this
  · rw [show k + blen (n / 2 ^ k) - 1 = k + (blen (n / 2 ^ k) - 1) by omega, Nat.pow_add, Nat.mul_comm]
    exact (Nat.le_div_iff_mul_le hp).1 h2
theorem run_value {P : Program} {s : Sem Value} {v : Value} {w w' : World} (h : s.run P w = .ok v w') : (do pure (Next.value (← s)) : Sem Next).run P w = .ok (.value v) w' := by simp [h]
theorem tab_index {P : Program} {t : TypeId} {s : ByteArray} (hu : P.underlying t = some .string) (ht : (List.range 256).all (fun i => (s.get! i).toNat == blen i) = true) (hs : s.size = 256) (m : Nat) (h : m < 256) (w : World) :
    (Instr.index t (.string s) (.int .u8 (m : Int))).run P w = .ok (.int .u8 ((blen m : Nat) : Int)) w := by
  rw [run_index_string (w := w) t s .u8 (m : Int) hu, dif_pos ⟨by omega, by omega⟩]
  have h1 := List.all_eq_true.1 ht m (List.mem_range.2 h)
  have h2 : (s.get! m).toNat = blen m := by simpa using h1
  have h3 : s.get! m = s[m]'(by omega) := by
    show s.data[m]! = _
    rw [getElem!_pos s.data m (by show m < s.size; omega)]
    rfl
  rw [h3] at h2
  simp only [Int.toNat_natCast]
  rw [h2]
set_option maxRecDepth 100000 in
set_option maxHeartbeats 4000000 in
theorem len64_calls (n : Nat) (hn : n < 18446744073709551616) (w : World) :
  Calls Try.prog 63 #[.int .u64 (n : Int)] w fun e w' => e = .returned (.int .i64 ((blen n : Nat) : Int)) ∧ Drawn0 w w' := by
 refine calls_flow Try.func63 rfl 25 rfl (Nat.le_of_ble_eq_true rfl) [(0, .int .u64 (n : Int))] ?_ ?_
 ·
  intro t v h; exact args_look rfl t v h
 refine wsr ?_
 refine rv (.int .i64 0) ?_
 refine rw_end ?_
 refine w_seq ?_
 refine wsr ?_
 refine rv (.int .u64 (n : Int)) ?_
 refine rz (.bool (decide (4294967296 ≤ (n : Int)))) (by simp [go_sem, sEv, sLook, nbeq, i64_w]) ?_
 refine rw_end ?_
 refine w_cond rfl rfl (fun c1 => ?_) (fun c1 => ?_)
 ·
  refine wsr ?_
  refine rv (.int .u64 (n : Int)) ?_
  refine rz (.int .u64 ((n / 4294967296 : Nat) : Int)) (by simp [go_sem, sEv, sLook, nbeq, i64_w] <;> omega) ?_
  refine rv (.int .u64 ((n / 4294967296 : Nat) : Int)) ?_
  refine rw_end ?_
  refine w_region ?_
  refine rv (.int .i64 32) ?_
  refine rw_end ?_
  refine w_seq ?_
  refine wsr ?_
  refine rv (.int .u64 ((n / 4294967296 : Nat) : Int)) ?_
  refine rz (.bool (decide (65536 ≤ ((n / 4294967296 : Nat) : Int)))) (by simp [go_sem, sEv, sLook, nbeq, i64_w]) ?_
  refine rw_end ?_
  refine w_cond rfl rfl (fun c2 => ?_) (fun c2 => ?_)
  ·
   refine wsr ?_
   refine rv (.int .u64 ((n / 4294967296 : Nat) : Int)) ?_
   refine rz (.int .u64 ((n / 4294967296 / 65536 : Nat) : Int)) (by simp [go_sem, sEv, sLook, nbeq, i64_w] <;> omega) ?_
   refine rv (.int .u64 ((n / 4294967296 / 65536 : Nat) : Int)) ?_
   refine rw_end ?_
   refine w_region ?_
   refine rv (.int .i64 32) ?_
   refine rk (.int .i64 48) ?_
   refine rv (.int .i64 48) ?_
   refine rw_end ?_
   refine w_seq ?_
   refine wsr ?_
   refine rv (.int .u64 ((n / 4294967296 / 65536 : Nat) : Int)) ?_
   refine rz (.bool (decide (256 ≤ ((n / 4294967296 / 65536 : Nat) : Int)))) (by simp [go_sem, sEv, sLook, nbeq, i64_w]) ?_
   refine rw_end ?_
   refine w_cond rfl rfl (fun c3 => ?_) (fun c3 => ?_)
   ·
    refine wsr ?_
    refine rv (.int .u64 ((n / 4294967296 / 65536 : Nat) : Int)) ?_
    refine rz (.int .u64 ((n / 4294967296 / 65536 / 256 : Nat) : Int)) (by simp [go_sem, sEv, sLook, nbeq, i64_w] <;> omega) ?_
    refine rv (.int .u64 ((n / 4294967296 / 65536 / 256 : Nat) : Int)) ?_
    refine rw_end ?_
    refine w_region ?_
    refine rv (.int .i64 48) ?_
    refine rk (.int .i64 56) ?_
    refine rv (.int .i64 56) ?_
    refine rw_end ?_
    refine wsr ?_
    refine rv (.int .i64 56) ?_
    refine rv (.int .u64 ((n / 4294967296 / 65536 / 256 : Nat) : Int)) ?_
    refine rz (.int .u8 ((n / 4294967296 / 65536 / 256 : Nat) : Int)) (by simp [go_sem, sEv, sLook, nbeq, i64_w]; exact u8_wrap _ (by omega) (by have := of_decide_eq_true c1; have := of_decide_eq_true c2; have := of_decide_eq_true c3; omega)) ?_
    refine rz (.int .u8 ((blen (n / 4294967296 / 65536 / 256) : Nat) : Int)) (by refine run_value (tab_index (P := Try.prog) ?_ ?_ ?_ (n / 4294967296 / 65536 / 256) ?_ _); kernel_rfl; decide +kernel; decide +kernel; (have := of_decide_eq_true c1; have := of_decide_eq_true c2; have := of_decide_eq_true c3; omega)) ?_
    refine rz (.int .i64 ((blen (n / 4294967296 / 65536 / 256) : Nat) : Int)) (by simp [go_sem, sEv, sLook, nbeq, i64_w]; exact wrap_id (by omega) (by have := blen_le (n / 4294967296 / 65536 / 256) 8 (by have := of_decide_eq_true c1; have := of_decide_eq_true c2; have := of_decide_eq_true c3; omega); omega)) ?_
    refine rz (.int .i64 (wrap64 (56 + ((blen (n / 4294967296 / 65536 / 256) : Nat) : Int)))) (by simp [go_sem, sEv, sLook, nbeq, i64_w]) ?_
    refine rv (.int .i64 (wrap64 (56 + ((blen (n / 4294967296 / 65536 / 256) : Nat) : Int)))) ?_
    refine rw_end ?_
    refine w_ret (post_ret1 rfl rfl ?_)
    have qc1 := of_decide_eq_true c1
    have qc2 := of_decide_eq_true c2
    have qc3 := of_decide_eq_true c3
    have b0_ := blen_shift (n) 32 (by have e_ := qc1; simp at e_ ⊢; omega)
    have b1_ := blen_shift (n / 4294967296) 16 (by have e_ := qc2; simp at e_ ⊢; omega)
    have b2_ := blen_shift ((n / 4294967296) / 65536) 8 (by have e_ := qc3; simp at e_ ⊢; omega)
    have hb_ := blen_le (((n / 4294967296) / 65536) / 256) 8 (by simp; omega)
    simp only [show (2 : Nat) ^ 32 = 4294967296 by decide, show (2 : Nat) ^ 16 = 65536 by decide, show (2 : Nat) ^ 8 = 256 by decide] at *
    refine ⟨?_, Drawn0.refl _⟩
    congr 2
    unfold wrap64
    omega
   ·
    refine w_skip ?_
    refine wsr ?_
    refine rv (.int .i64 48) ?_
    refine rv (.int .u64 ((n / 4294967296 / 65536 : Nat) : Int)) ?_
    refine rz (.int .u8 ((n / 4294967296 / 65536 : Nat) : Int)) (by simp [go_sem, sEv, sLook, nbeq, i64_w]; exact u8_wrap _ (by omega) (by have := of_decide_eq_true c1; have := of_decide_eq_true c2; have := of_decide_eq_false c3; omega)) ?_
    refine rz (.int .u8 ((blen (n / 4294967296 / 65536) : Nat) : Int)) (by refine run_value (tab_index (P := Try.prog) ?_ ?_ ?_ (n / 4294967296 / 65536) ?_ _); kernel_rfl; decide +kernel; decide +kernel; (have := of_decide_eq_true c1; have := of_decide_eq_true c2; have := of_decide_eq_false c3; omega)) ?_
    refine rz (.int .i64 ((blen (n / 4294967296 / 65536) : Nat) : Int)) (by simp [go_sem, sEv, sLook, nbeq, i64_w]; exact wrap_id (by omega) (by have := blen_le (n / 4294967296 / 65536) 8 (by have := of_decide_eq_true c1; have := of_decide_eq_true c2; have := of_decide_eq_false c3; omega); omega)) ?_
    refine rz (.int .i64 (wrap64 (48 + ((blen (n / 4294967296 / 65536) : Nat) : Int)))) (by simp [go_sem, sEv, sLook, nbeq, i64_w]) ?_
    refine rv (.int .i64 (wrap64 (48 + ((blen (n / 4294967296 / 65536) : Nat) : Int)))) ?_
    refine rw_end ?_
    refine w_ret (post_ret1 rfl rfl ?_)
    have qc1 := of_decide_eq_true c1
    have qc2 := of_decide_eq_true c2
    have qc3 := of_decide_eq_false c3
    have b0_ := blen_shift (n) 32 (by have e_ := qc1; simp at e_ ⊢; omega)
    have b1_ := blen_shift (n / 4294967296) 16 (by have e_ := qc2; simp at e_ ⊢; omega)
    have hb_ := blen_le ((n / 4294967296) / 65536) 8 (by simp; omega)
    simp only [show (2 : Nat) ^ 32 = 4294967296 by decide, show (2 : Nat) ^ 16 = 65536 by decide, show (2 : Nat) ^ 8 = 256 by decide] at *
    refine ⟨?_, Drawn0.refl _⟩
    congr 2
    unfold wrap64
    omega
  ·
   refine w_skip ?_
   refine w_seq ?_
   refine wsr ?_
   refine rv (.int .u64 ((n / 4294967296 : Nat) : Int)) ?_
   refine rz (.bool (decide (256 ≤ ((n / 4294967296 : Nat) : Int)))) (by simp [go_sem, sEv, sLook, nbeq, i64_w]) ?_
   refine rw_end ?_
   refine w_cond rfl rfl (fun c4 => ?_) (fun c4 => ?_)
   ·
    refine wsr ?_
    refine rv (.int .u64 ((n / 4294967296 : Nat) : Int)) ?_
    refine rz (.int .u64 ((n / 4294967296 / 256 : Nat) : Int)) (by simp [go_sem, sEv, sLook, nbeq, i64_w] <;> omega) ?_
    refine rv (.int .u64 ((n / 4294967296 / 256 : Nat) : Int)) ?_
    refine rw_end ?_
    refine w_region ?_
    refine rv (.int .i64 32) ?_
    refine rk (.int .i64 40) ?_
    refine rv (.int .i64 40) ?_
    refine rw_end ?_
    refine wsr ?_
    refine rv (.int .i64 40) ?_
    refine rv (.int .u64 ((n / 4294967296 / 256 : Nat) : Int)) ?_
    refine rz (.int .u8 ((n / 4294967296 / 256 : Nat) : Int)) (by simp [go_sem, sEv, sLook, nbeq, i64_w]; exact u8_wrap _ (by omega) (by have := of_decide_eq_true c1; have := of_decide_eq_false c2; have := of_decide_eq_true c4; omega)) ?_
    refine rz (.int .u8 ((blen (n / 4294967296 / 256) : Nat) : Int)) (by refine run_value (tab_index (P := Try.prog) ?_ ?_ ?_ (n / 4294967296 / 256) ?_ _); kernel_rfl; decide +kernel; decide +kernel; (have := of_decide_eq_true c1; have := of_decide_eq_false c2; have := of_decide_eq_true c4; omega)) ?_
    refine rz (.int .i64 ((blen (n / 4294967296 / 256) : Nat) : Int)) (by simp [go_sem, sEv, sLook, nbeq, i64_w]; exact wrap_id (by omega) (by have := blen_le (n / 4294967296 / 256) 8 (by have := of_decide_eq_true c1; have := of_decide_eq_false c2; have := of_decide_eq_true c4; omega); omega)) ?_
    refine rz (.int .i64 (wrap64 (40 + ((blen (n / 4294967296 / 256) : Nat) : Int)))) (by simp [go_sem, sEv, sLook, nbeq, i64_w]) ?_
    refine rv (.int .i64 (wrap64 (40 + ((blen (n / 4294967296 / 256) : Nat) : Int)))) ?_
    refine rw_end ?_
    refine w_ret (post_ret1 rfl rfl ?_)
    have qc1 := of_decide_eq_true c1
    have qc2 := of_decide_eq_false c2
    have qc4 := of_decide_eq_true c4
    have b0_ := blen_shift (n) 32 (by have e_ := qc1; simp at e_ ⊢; omega)
    have b1_ := blen_shift (n / 4294967296) 8 (by have e_ := qc4; simp at e_ ⊢; omega)
    have hb_ := blen_le ((n / 4294967296) / 256) 8 (by simp; omega)
    simp only [show (2 : Nat) ^ 32 = 4294967296 by decide, show (2 : Nat) ^ 16 = 65536 by decide, show (2 : Nat) ^ 8 = 256 by decide] at *
    refine ⟨?_, Drawn0.refl _⟩
    congr 2
    unfold wrap64
    omega
   ·
    refine w_skip ?_
    refine wsr ?_
    refine rv (.int .i64 32) ?_
    refine rv (.int .u64 ((n / 4294967296 : Nat) : Int)) ?_
    refine rz (.int .u8 ((n / 4294967296 : Nat) : Int)) (by simp [go_sem, sEv, sLook, nbeq, i64_w]; exact u8_wrap _ (by omega) (by have := of_decide_eq_true c1; have := of_decide_eq_false c2; have := of_decide_eq_false c4; omega)) ?_
    refine rz (.int .u8 ((blen (n / 4294967296) : Nat) : Int)) (by refine run_value (tab_index (P := Try.prog) ?_ ?_ ?_ (n / 4294967296) ?_ _); kernel_rfl; decide +kernel; decide +kernel; (have := of_decide_eq_true c1; have := of_decide_eq_false c2; have := of_decide_eq_false c4; omega)) ?_
    refine rz (.int .i64 ((blen (n / 4294967296) : Nat) : Int)) (by simp [go_sem, sEv, sLook, nbeq, i64_w]; exact wrap_id (by omega) (by have := blen_le (n / 4294967296) 8 (by have := of_decide_eq_true c1; have := of_decide_eq_false c2; have := of_decide_eq_false c4; omega); omega)) ?_
    refine rz (.int .i64 (wrap64 (32 + ((blen (n / 4294967296) : Nat) : Int)))) (by simp [go_sem, sEv, sLook, nbeq, i64_w]) ?_
    refine rv (.int .i64 (wrap64 (32 + ((blen (n / 4294967296) : Nat) : Int)))) ?_
    refine rw_end ?_
    refine w_ret (post_ret1 rfl rfl ?_)
    have qc1 := of_decide_eq_true c1
    have qc2 := of_decide_eq_false c2
    have qc4 := of_decide_eq_false c4
    have b0_ := blen_shift (n) 32 (by have e_ := qc1; simp at e_ ⊢; omega)
    have hb_ := blen_le (n / 4294967296) 8 (by simp; omega)
    simp only [show (2 : Nat) ^ 32 = 4294967296 by decide, show (2 : Nat) ^ 16 = 65536 by decide, show (2 : Nat) ^ 8 = 256 by decide] at *
    refine ⟨?_, Drawn0.refl _⟩
    congr 2
    unfold wrap64
    omega
 ·
  refine w_skip ?_
  refine w_seq ?_
  refine wsr ?_
  refine rv (.int .u64 (n : Int)) ?_
  refine rz (.bool (decide (65536 ≤ (n : Int)))) (by simp [go_sem, sEv, sLook, nbeq, i64_w]) ?_
  refine rw_end ?_
  refine w_cond rfl rfl (fun c5 => ?_) (fun c5 => ?_)
  ·
   refine wsr ?_
   refine rv (.int .u64 (n : Int)) ?_
   refine rz (.int .u64 ((n / 65536 : Nat) : Int)) (by simp [go_sem, sEv, sLook, nbeq, i64_w] <;> omega) ?_
   refine rv (.int .u64 ((n / 65536 : Nat) : Int)) ?_
   refine rw_end ?_
   refine w_region ?_
   refine rv (.int .i64 0) ?_
   refine rk (.int .i64 16) ?_
   refine rv (.int .i64 16) ?_
   refine rw_end ?_
   refine w_seq ?_
   refine wsr ?_
   refine rv (.int .u64 ((n / 65536 : Nat) : Int)) ?_
   refine rz (.bool (decide (256 ≤ ((n / 65536 : Nat) : Int)))) (by simp [go_sem, sEv, sLook, nbeq, i64_w]) ?_
   refine rw_end ?_
   refine w_cond rfl rfl (fun c6 => ?_) (fun c6 => ?_)
   ·
    refine wsr ?_
    refine rv (.int .u64 ((n / 65536 : Nat) : Int)) ?_
    refine rz (.int .u64 ((n / 65536 / 256 : Nat) : Int)) (by simp [go_sem, sEv, sLook, nbeq, i64_w] <;> omega) ?_
    refine rv (.int .u64 ((n / 65536 / 256 : Nat) : Int)) ?_
    refine rw_end ?_
    refine w_region ?_
    refine rv (.int .i64 16) ?_
    refine rk (.int .i64 24) ?_
    refine rv (.int .i64 24) ?_
    refine rw_end ?_
    refine wsr ?_
    refine rv (.int .i64 24) ?_
    refine rv (.int .u64 ((n / 65536 / 256 : Nat) : Int)) ?_
    refine rz (.int .u8 ((n / 65536 / 256 : Nat) : Int)) (by simp [go_sem, sEv, sLook, nbeq, i64_w]; exact u8_wrap _ (by omega) (by have := of_decide_eq_false c1; have := of_decide_eq_true c5; have := of_decide_eq_true c6; omega)) ?_
    refine rz (.int .u8 ((blen (n / 65536 / 256) : Nat) : Int)) (by refine run_value (tab_index (P := Try.prog) ?_ ?_ ?_ (n / 65536 / 256) ?_ _); kernel_rfl; decide +kernel; decide +kernel; (have := of_decide_eq_false c1; have := of_decide_eq_true c5; have := of_decide_eq_true c6; omega)) ?_
    refine rz (.int .i64 ((blen (n / 65536 / 256) : Nat) : Int)) (by simp [go_sem, sEv, sLook, nbeq, i64_w]; exact wrap_id (by omega) (by have := blen_le (n / 65536 / 256) 8 (by have := of_decide_eq_false c1; have := of_decide_eq_true c5; have := of_decide_eq_true c6; omega); omega)) ?_
    refine rz (.int .i64 (wrap64 (24 + ((blen (n / 65536 / 256) : Nat) : Int)))) (by simp [go_sem, sEv, sLook, nbeq, i64_w]) ?_
    refine rv (.int .i64 (wrap64 (24 + ((blen (n / 65536 / 256) : Nat) : Int)))) ?_
    refine rw_end ?_
    refine w_ret (post_ret1 rfl rfl ?_)
    have qc1 := of_decide_eq_false c1
    have qc5 := of_decide_eq_true c5
    have qc6 := of_decide_eq_true c6
    have b0_ := blen_shift (n) 16 (by have e_ := qc5; simp at e_ ⊢; omega)
    have b1_ := blen_shift (n / 65536) 8 (by have e_ := qc6; simp at e_ ⊢; omega)
    have hb_ := blen_le ((n / 65536) / 256) 8 (by simp; omega)
    simp only [show (2 : Nat) ^ 32 = 4294967296 by decide, show (2 : Nat) ^ 16 = 65536 by decide, show (2 : Nat) ^ 8 = 256 by decide] at *
    refine ⟨?_, Drawn0.refl _⟩
    congr 2
    unfold wrap64
    omega
   ·
    refine w_skip ?_
    refine wsr ?_
    refine rv (.int .i64 16) ?_
    refine rv (.int .u64 ((n / 65536 : Nat) : Int)) ?_
    refine rz (.int .u8 ((n / 65536 : Nat) : Int)) (by simp [go_sem, sEv, sLook, nbeq, i64_w]; exact u8_wrap _ (by omega) (by have := of_decide_eq_false c1; have := of_decide_eq_true c5; have := of_decide_eq_false c6; omega)) ?_
    refine rz (.int .u8 ((blen (n / 65536) : Nat) : Int)) (by refine run_value (tab_index (P := Try.prog) ?_ ?_ ?_ (n / 65536) ?_ _); kernel_rfl; decide +kernel; decide +kernel; (have := of_decide_eq_false c1; have := of_decide_eq_true c5; have := of_decide_eq_false c6; omega)) ?_
    refine rz (.int .i64 ((blen (n / 65536) : Nat) : Int)) (by simp [go_sem, sEv, sLook, nbeq, i64_w]; exact wrap_id (by omega) (by have := blen_le (n / 65536) 8 (by have := of_decide_eq_false c1; have := of_decide_eq_true c5; have := of_decide_eq_false c6; omega); omega)) ?_
    refine rz (.int .i64 (wrap64 (16 + ((blen (n / 65536) : Nat) : Int)))) (by simp [go_sem, sEv, sLook, nbeq, i64_w]) ?_
    refine rv (.int .i64 (wrap64 (16 + ((blen (n / 65536) : Nat) : Int)))) ?_
    refine rw_end ?_
    refine w_ret (post_ret1 rfl rfl ?_)
    have qc1 := of_decide_eq_false c1
    have qc5 := of_decide_eq_true c5
    have qc6 := of_decide_eq_false c6
    have b0_ := blen_shift (n) 16 (by have e_ := qc5; simp at e_ ⊢; omega)
    have hb_ := blen_le (n / 65536) 8 (by simp; omega)
    simp only [show (2 : Nat) ^ 32 = 4294967296 by decide, show (2 : Nat) ^ 16 = 65536 by decide, show (2 : Nat) ^ 8 = 256 by decide] at *
    refine ⟨?_, Drawn0.refl _⟩
    congr 2
    unfold wrap64
    omega
  ·
   refine w_skip ?_
   refine w_seq ?_
   refine wsr ?_
   refine rv (.int .u64 (n : Int)) ?_
   refine rz (.bool (decide (256 ≤ (n : Int)))) (by simp [go_sem, sEv, sLook, nbeq, i64_w]) ?_
   refine rw_end ?_
   refine w_cond rfl rfl (fun c7 => ?_) (fun c7 => ?_)
   ·
    refine wsr ?_
    refine rv (.int .u64 (n : Int)) ?_
    refine rz (.int .u64 ((n / 256 : Nat) : Int)) (by simp [go_sem, sEv, sLook, nbeq, i64_w] <;> omega) ?_
    refine rv (.int .u64 ((n / 256 : Nat) : Int)) ?_
    refine rw_end ?_
    refine w_region ?_
    refine rv (.int .i64 0) ?_
    refine rk (.int .i64 8) ?_
    refine rv (.int .i64 8) ?_
    refine rw_end ?_
    refine wsr ?_
    refine rv (.int .i64 8) ?_
    refine rv (.int .u64 ((n / 256 : Nat) : Int)) ?_
    refine rz (.int .u8 ((n / 256 : Nat) : Int)) (by simp [go_sem, sEv, sLook, nbeq, i64_w]; exact u8_wrap _ (by omega) (by have := of_decide_eq_false c1; have := of_decide_eq_false c5; have := of_decide_eq_true c7; omega)) ?_
    refine rz (.int .u8 ((blen (n / 256) : Nat) : Int)) (by refine run_value (tab_index (P := Try.prog) ?_ ?_ ?_ (n / 256) ?_ _); kernel_rfl; decide +kernel; decide +kernel; (have := of_decide_eq_false c1; have := of_decide_eq_false c5; have := of_decide_eq_true c7; omega)) ?_
    refine rz (.int .i64 ((blen (n / 256) : Nat) : Int)) (by simp [go_sem, sEv, sLook, nbeq, i64_w]; exact wrap_id (by omega) (by have := blen_le (n / 256) 8 (by have := of_decide_eq_false c1; have := of_decide_eq_false c5; have := of_decide_eq_true c7; omega); omega)) ?_
    refine rz (.int .i64 (wrap64 (8 + ((blen (n / 256) : Nat) : Int)))) (by simp [go_sem, sEv, sLook, nbeq, i64_w]) ?_
    refine rv (.int .i64 (wrap64 (8 + ((blen (n / 256) : Nat) : Int)))) ?_
    refine rw_end ?_
    refine w_ret (post_ret1 rfl rfl ?_)
    have qc1 := of_decide_eq_false c1
    have qc5 := of_decide_eq_false c5
    have qc7 := of_decide_eq_true c7
    have b0_ := blen_shift (n) 8 (by have e_ := qc7; simp at e_ ⊢; omega)
    have hb_ := blen_le (n / 256) 8 (by simp; omega)
    simp only [show (2 : Nat) ^ 32 = 4294967296 by decide, show (2 : Nat) ^ 16 = 65536 by decide, show (2 : Nat) ^ 8 = 256 by decide] at *
    refine ⟨?_, Drawn0.refl _⟩
    congr 2
    unfold wrap64
    omega
   ·
    refine w_skip ?_
    refine wsr ?_
    refine rv (.int .i64 0) ?_
    refine rv (.int .u64 (n : Int)) ?_
    refine rz (.int .u8 ((n : Nat) : Int)) (by simp [go_sem, sEv, sLook, nbeq, i64_w]; exact u8_wrap _ (by omega) (by have := of_decide_eq_false c1; have := of_decide_eq_false c5; have := of_decide_eq_false c7; omega)) ?_
    refine rz (.int .u8 ((blen (n) : Nat) : Int)) (by refine run_value (tab_index (P := Try.prog) ?_ ?_ ?_ (n) ?_ _); kernel_rfl; decide +kernel; decide +kernel; (have := of_decide_eq_false c1; have := of_decide_eq_false c5; have := of_decide_eq_false c7; omega)) ?_
    refine rz (.int .i64 ((blen (n) : Nat) : Int)) (by simp [go_sem, sEv, sLook, nbeq, i64_w]; exact wrap_id (by omega) (by have := blen_le (n) 8 (by have := of_decide_eq_false c1; have := of_decide_eq_false c5; have := of_decide_eq_false c7; omega); omega)) ?_
    refine rz (.int .i64 (wrap64 (0 + ((blen (n) : Nat) : Int)))) (by simp [go_sem, sEv, sLook, nbeq, i64_w]) ?_
    refine rv (.int .i64 (wrap64 (0 + ((blen (n) : Nat) : Int)))) ?_
    refine rw_end ?_
    refine w_ret (post_ret1 rfl rfl ?_)
    have qc1 := of_decide_eq_false c1
    have qc5 := of_decide_eq_false c5
    have qc7 := of_decide_eq_false c7
    have hb_ := blen_le (n) 8 (by simp; omega)
    simp only [show (2 : Nat) ^ 32 = 4294967296 by decide, show (2 : Nat) ^ 16 = 65536 by decide, show (2 : Nat) ^ 8 = 256 by decide] at *
    refine ⟨?_, Drawn0.refl _⟩
    congr 2
    unfold wrap64
    omega
def bits_Len64.f (k : Nat) (a0 : Int) : Option Int := if 0 ≤ a0 ∧ a0 < 18446744073709551616 then some ((blen a0.toNat : Nat) : Int) else none
theorem bits_Len64.calls (k : Nat) (a0 : Int) (r : Int) (w : World) (h : bits_Len64.f k a0 = some r) :
    Calls Try.prog 63 #[.int .u64 a0] w fun e w' => e = .returned (.int .i64 r) ∧ Drawn0 w w' := by
  unfold bits_Len64.f at h
  split at h
  · rename_i hr
    obtain rfl := Option.some.inj h
    obtain ⟨n, rfl⟩ := Int.eq_ofNat_of_zero_le hr.1
    exact len64_calls n (by omega) w
  · cases h
end Go.Proofs.Ytbbhdohjhipalaa.PNoteReads
end
section
namespace Go.Proofs.Ytbbhdohjhipalaa.PNoteReads
open Go.RowKit Go.Proofs.YtbbhdohjhipalaaW.PrintWords Go.Proofs.YtbbhdohjhipalaaW.PrintLast Go.Proofs.YtbbhdohjhipalaaW.PrintMore
set_option linter.unusedVariables false
set_option linter.unusedSimpArgs false
def frame_low.l0 : Nat → List Int → Int → Int → Int → Option (List Int)
  | 0, _, _, _, _ => none
  | k + 1, x0, x1, x8, x9 => if x9 < x8 then (if 0 ≤ (wrap64 (8 * x9)) then (if x0.length < 140737488355328 then (frame_low.l0 k (x0 ++ [(shr .u64 x1 (wrap64 (8 * x9))) % 256]) x1 x8 (wrap64 (x9 + 1))) else (none)) else (none)) else (some x0)
def frame_low.f (k : Nat) (l0 : List Int) (a1 : Int) (a2 : Int) : Option (List Int) := frame_low.l0 k l0 a1 a2 0
set_option maxHeartbeats 8000000 in
set_option maxRecDepth 100000 in
theorem frame_low.calls (k : Nat) (P0_ : Nat → Prop) (u9000_ : Value) (l0 : List Int) (a1 : Int) (a2 : Int) (r : List Int) (w0 w : World) (hB : Below w0.heap.size w0 w) (ho0 : Kd.R (Kd.int .u8) 5 w w0.heap.size P0_ u9000_ l0) (h : frame_low.f k l0 a1 a2 = some r) :
    Calls Try.prog 46 #[u9000_, .int .u64 a1, .int .i64 a2] w fun e w' => ∃ v0_ : Value, e = .returned (v0_) ∧ Kd.R (Kd.int .u8) 5 w' w0.heap.size (fun k_ => (P0_ k_ ∨ w.heap.size ≤ k_)) v0_ r ∧ Below w0.heap.size w0 w' ∧ Kept w w' (fun k_ => P0_ k_) := by
  have HO0 := Aside0.mk (show Kd.R (Kd.int .u8) 5 w w0.heap.size (fun k_ => (P0_ k_ ∨ w.heap.size ≤ k_)) u9000_ l0 from Kd.R_mono ho0 (fun k_ hk => (.inl hk)))
  have HK := Aside0.mk (Kept.refl w (fun k_ => P0_ k_))
  have HW0 := Aside0.mk hB.size
  have HB := Aside0.mk hB
  clear hB
  have H : (frame_low.l0 k l0 a1 a2 0) = some r := h
  clear h
  have H' := Aside0.mk H
  clear H
  go_enter Try.func46, Try.ntmps46
  go_wp2
  go_loopg [0, 9] k (fun kq v0 v9 w' => ∃ (x0_1 : List Int) (x9_1 : Int), v9 = .int .i64 x9_1 ∧ Aside0 (frame_low.l0 kq x0_1 a1 a2 x9_1 = some r) ∧ Aside0 (kq ≤ k) ∧ Aside0 (Kd.R (Kd.int .u8) 5 w' w0.heap.size (fun k_ => (P0_ k_ ∨ w.heap.size ≤ k_)) v0 x0_1) ∧ Aside0 (Kept w w' (fun k_ => P0_ k_)) ∧ Aside0 (Below w0.heap.size w0 w'))
  case atStart => exact ⟨(l0), (0), (by first | rfl | (simp; done) | (simp [*]; done)), H', ⟨Nat.le_refl _⟩, ⟨by (with_reducible repeat (first | apply Kd.R_alloc | apply Kd.R_drewN | apply Kd.R_drew)); exact HO0.out⟩, ⟨by repeat (first | (with_reducible first | exact HK.out | apply Kept.alloc | apply Kept.drewN | apply Kept.drew) | exact HK.out)⟩, ⟨by repeat (first | (with_reducible first | exact HB.out | apply below_alloc | apply pw_below_drewN | apply below_drew1) | exact HB.out)⟩⟩
  case round =>
    clear H'
    try clear p2
    obtain ⟨x0_1, x9_1, rfl, HA, HK1, HO_0, HK, HB⟩ := hrel
    cases gk with
    | zero => exact absurd HA.out (by simp [frame_low.l0])
    | succ k1 =>
      have H := HA.out
      clear HA
      simp only [frame_low.l0] at H
      by_cases c4 : x9_1 < a2
      · rw [if_pos c4] at H
        have c4b0 : decide (x9_1 < a2) = true := decide_eq_true c4
        clear c4
        obtain ⟨ji5, hji5⟩ : ∃ j_ : Int, (wrap64 (8 * x9_1)) = j_ := ⟨_, rfl⟩
        replace H : (if 0 ≤ (ji5) then (if x0_1.length < 140737488355328 then (frame_low.l0 k1 (x0_1 ++ [(shr .u64 a1 (ji5)) % 256]) a1 a2 (wrap64 (x9_1 + 1))) else (none)) else (none)) = some r := by first | (rw [hji5] at H; exact H) | (simp only [hji5] at H ⊢; exact H)
        have hji5w : (IntKind.i64.wrap (8 * x9_1)) = ji5 := (i64_w _).trans hji5
        by_cases c6 : 0 ≤ (ji5)
        · rw [if_pos c6] at H
          have c6b0 := eq_true c6
          have c6b1 : decide (0 ≤ (ji5)) = true := decide_eq_true c6
          clear c6
          obtain ⟨ji7, hji7⟩ : ∃ j_ : Int, (shr .u64 a1 (ji5)) = j_ := ⟨_, rfl⟩
          replace H : (if x0_1.length < 140737488355328 then (frame_low.l0 k1 (x0_1 ++ [(ji7) % 256]) a1 a2 (wrap64 (x9_1 + 1))) else (none)) = some r := by first | (rw [hji7] at H; exact H) | (simp only [hji7] at H ⊢; exact H)
          have hji7_ : (a1 / 2 ^ min (ji5).toNat 64) = ji7 := hji7
          have hji7z : (ji5) ≤ 64 → (a1 / 2 ^ (ji5).toNat) = ji7 := shr_small hji7
          by_cases c8 : x0_1.length < 140737488355328
          · rw [if_pos c8] at H
            have LMc8 := Aside0.mk c8
            clear c8
            obtain ⟨y102, hy102⟩ : ∃ y_ : List Int, y_ = (x0_1 ++ [(ji7) % 256]) := ⟨_, rfl⟩
            replace H : (frame_low.l0 k1 y102 a1 a2 (wrap64 (x9_1 + 1))) = some r := by first | (rw [hy102]; with_reducible exact H) | (have H2_ := (Option.bind_some _ _).symm.trans H; rw [hy102]; with_reducible exact H2_) | (have H2_ := (Option.bind_some _ _).symm.trans H; with_reducible exact H2_) | with_reducible exact H | (rw [hy102]; exact H) | exact H
            have Ny102 := Aside0.mk hy102
            clear hy102
            have H' := Aside0.mk H
            clear H
            go_wp2_with (first | ((with_reducible refine gate_builtin (b := .append) (xs := #[.tmp 12, .tmp 18]) rfl ?_); at_builtin; refine Kd.R_append (Kd.int .u8) (w0 := w0) w0.heap.size rfl (.tmp 12) (.tmp 18) 30 5 (.int .u8 0) 1 rfl Try.underlying30 info5 rfl (by decide) (by omega) u0 x0_1 ((ji7) % 256) [.int .u8 ((ji7) % 256)] (fun k_ => (P0_ k_ ∨ w.heap.size ≤ k_)) (fun _ => False) rfl rfl ?aP (fun _ hk => hk.elim) ?aF ?aO ?aB ?aS ?aL ?_; (case aP => exact rfl); (case aB => exact (by repeat (first | (with_reducible first | exact HB.out | apply below_alloc | apply pw_below_drewN | apply below_drew1) | exact HB.out))); (case aF => exact (fun k_ hk => (.inr (Nat.le_trans (by first | exact HK.out.1 | exact (show Kept w _ (fun k_ => P0_ k_) from by repeat (first | (with_reducible first | exact HK.out | apply Kept.alloc | apply Kept.drewN | apply Kept.drew) | exact HK.out)).1) hk)))); (case aO => exact (by (with_reducible repeat (first | apply Kd.R_alloc | apply Kd.R_drewN | apply Kd.R_drew)); exact HO_0.out)); (case aS => exact (below_size (by repeat (first | (with_reducible first | exact HB.out | apply below_alloc | apply pw_below_drewN | apply below_drew1) | exact HB.out)))); (case aL => have := LMc8.out; omega); intro v103 w9 ho hb hg hat; rw [← Ny102.out] at ho; have n0_ := Aside0.mk (hb); have n1_ := Aside0.mk (Kept.of_grown (S := (fun k_ => P0_ k_)) hg (by repeat (first | (with_reducible first | exact HK.out | apply Kept.alloc | apply Kept.drewN | apply Kept.drew) | exact HK.out)) (fun k_ e_ => (HO_0.out.1 k_ e_))); have n2_ := Aside0.mk (ho); clear HB; clear HK; clear HO_0; have HB := n0_; have HK := n1_; have HO104 := n2_; clear n0_ n1_ n2_; clear ho hb hg hat))
            go_roundg k1
            case measure => have := HK1.out; omega
            case rel => exact ⟨(y102), (wrap64 (x9_1 + 1)), (by first | rfl | (simp; done) | (simp [*]; done)), H', ⟨by have := HK1.out; omega⟩, ⟨by (with_reducible repeat (first | apply Kd.R_alloc | apply Kd.R_drewN | apply Kd.R_drew)); exact HO104.out⟩, ⟨by repeat (first | (with_reducible first | exact HK.out | apply Kept.alloc | apply Kept.drewN | apply Kept.drew) | exact HK.out)⟩, ⟨by repeat (first | (with_reducible first | exact HB.out | apply below_alloc | apply pw_below_drewN | apply below_drew1) | exact HB.out)⟩⟩
          · rw [if_neg c8] at H
            exact absurd H (by simp)
        · rw [if_neg c6] at H
          exact absurd H (by simp)
      · rw [if_neg c4] at H
        have c4b0 : decide (x9_1 < a2) = false := decide_eq_false c4
        clear c4
        obtain rfl := Option.some.inj H
        go_wp2
        go_ret
        exact ⟨_, by first | rfl | (simp [errW_none, errW_some] <;> rfl) | (simp [*, errW_none, errW_some] <;> rfl), by (with_reducible repeat (first | apply Kd.R_alloc | apply Kd.R_drewN | apply Kd.R_drew)); exact HO_0.out, by repeat (first | (with_reducible first | exact HB.out | apply below_alloc | apply pw_below_drewN | apply below_drew1) | exact HB.out), by repeat (first | (with_reducible first | exact HK.out | apply Kept.alloc | apply Kept.drewN | apply Kept.drew) | exact HK.out)⟩
def frame_turned.f (a0 : Int) : Option (Int) := some (Go.bits .xor .u64 (IntKind.u64.wrap ((IntKind.u64.wrap (a0)) * 2)) (IntKind.u64.wrap (a0 / 9223372036854775808)))
set_option maxHeartbeats 8000000 in
set_option maxRecDepth 100000 in
theorem frame_turned.calls (a0 : Int) (r : Int) (w : World) (h : frame_turned.f a0 = some r) :
    Calls Try.prog 62 #[.int .i64 a0] w fun e w' => e = .returned (.int .u64 r) ∧ Drawn0 w w' := by
  have H : (some (Go.bits .xor .u64 (IntKind.u64.wrap ((IntKind.u64.wrap (a0)) * 2)) (IntKind.u64.wrap (a0 / 9223372036854775808)))) = some r := h
  clear h
  obtain rfl := Option.some.inj H
  go_enter Try.func62, Try.ntmps62
  go_wp2
  go_ret
  exact ⟨by first | rfl | (simp; done) | (simp [*]; done), by repeat (first | exact Drawn0.refl _ | apply Drawn0.step)⟩
def frame_put.l0 : Nat → List Int → List Int → Int → Int → Option (List Int)
  | 0, _, _, _, _ => none
  | k + 1, x0, x9, x10, x11 => if x11 < x10 then (if 0 ≤ x11 then (if x11 < (x9.length : Int) then ((frame_turned.f (rd x9 x11)).bind fun t109 => ((bits_Len64.f k t109).bind fun t110 => (if x0.length < 140737488355328 then ((frame_low.f k (x0 ++ [(wrap64 (Int.tdiv (wrap64 (t110 + 7)) 8)) % 256]) t109 (wrap64 (Int.tdiv (wrap64 (t110 + 7)) 8))).bind fun t114 => (frame_put.l0 k t114 x9 x10 (wrap64 (x11 + 1)))) else (none)))) else (none)) else (none)) else (some x0)
def frame_put.f (k : Nat) (l0 : List Int) (l1 : List Int) : Option (List Int) := frame_put.l0 k l0 l1 (l1.length : Int) 0
set_option maxHeartbeats 8000000 in
set_option maxRecDepth 100000 in
theorem frame_put.calls (k : Nat) (P0_ : Nat → Prop) (u9000_ : Value) (l0 : List Int) (A1 : Option Addr) (c1 : Nat) (l1 : List Int) (r : List Int) (w0 w : World) (hB : Below w0.heap.size w0 w) (ho0 : Kd.R (Kd.int .u8) 5 w w0.heap.size P0_ u9000_ l0) (hr1 : ∀ W_, Kept w W_ (fun k_ => P0_ k_) → Kd.C (Kd.int .i64) W_ A1 l1.length l1) (hc1 : l1.length ≤ c1) (h : frame_put.f k l0 l1 = some r) :
    Calls Try.prog 48 #[u9000_, .slice A1 l1.length c1] w fun e w' => ∃ v0_ : Value, e = .returned (v0_) ∧ Kd.R (Kd.int .u8) 5 w' w0.heap.size (fun k_ => (P0_ k_ ∨ w.heap.size ≤ k_)) v0_ r ∧ Below w0.heap.size w0 w' ∧ Kept w w' (fun k_ => P0_ k_) := by
  have HO0 := Aside0.mk (show Kd.R (Kd.int .u8) 5 w w0.heap.size (fun k_ => (P0_ k_ ∨ w.heap.size ≤ k_)) u9000_ l0 from Kd.R_mono ho0 (fun k_ hk => (.inl hk)))
  have HR1 := Aside0.mk hr1
  have HC1 := Aside0.mk hc1
  clear hr1 hc1
  have HK := Aside0.mk (Kept.refl w (fun k_ => P0_ k_))
  have HW0 := Aside0.mk hB.size
  have HB := Aside0.mk hB
  clear hB
  have H : (frame_put.l0 k l0 l1 (l1.length : Int) 0) = some r := h
  clear h
  have H' := Aside0.mk H
  clear H
  go_enter Try.func48, Try.ntmps48
  go_wp2
  go_loopg [0, 11] k (fun kq v0 v11 w' => ∃ (x0_1 : List Int) (x11_1 : Int), v11 = .int .i64 x11_1 ∧ Aside0 (frame_put.l0 kq x0_1 l1 (l1.length : Int) x11_1 = some r) ∧ Aside0 (kq ≤ k) ∧ Aside0 (Kd.R (Kd.int .u8) 5 w' w0.heap.size (fun k_ => (P0_ k_ ∨ w.heap.size ≤ k_)) v0 x0_1) ∧ Aside0 (Kept w w' (fun k_ => P0_ k_)) ∧ Aside0 (Below w0.heap.size w0 w'))
  case atStart => exact ⟨(l0), (0), (by first | rfl | (simp; done) | (simp [*]; done)), H', ⟨Nat.le_refl _⟩, ⟨by (with_reducible repeat (first | apply Kd.R_alloc | apply Kd.R_drewN | apply Kd.R_drew)); exact HO0.out⟩, ⟨by repeat (first | (with_reducible first | exact HK.out | apply Kept.alloc | apply Kept.drewN | apply Kept.drew) | exact HK.out)⟩, ⟨by repeat (first | (with_reducible first | exact HB.out | apply below_alloc | apply pw_below_drewN | apply below_drew1) | exact HB.out)⟩⟩
  case round =>
    clear H'
    try clear c1
    try clear p2
    obtain ⟨x0_1, x11_1, rfl, HA, HK1, HO_0, HK, HB⟩ := hrel
    cases gk with
    | zero => exact absurd HA.out (by simp [frame_put.l0])
    | succ k1 =>
      have H := HA.out
      clear HA
      simp only [frame_put.l0] at H
      by_cases c3 : x11_1 < (l1.length : Int)
      · rw [if_pos c3] at H
        have c3b0 : decide (x11_1 < (l1.length : Int)) = true := decide_eq_true c3
        clear c3
        by_cases c4 : 0 ≤ x11_1
        · rw [if_pos c4] at H
          have c4b0 : decide (0 ≤ x11_1) = true := decide_eq_true c4
          clear c4
          by_cases c5 : x11_1 < (l1.length : Int)
          · rw [if_pos c5] at H
            have c5b0 : decide (x11_1 < (l1.length : Int)) = true := decide_eq_true c5
            clear c5
            replace H := Option.bind_eq_some_iff.mp H
            obtain ⟨t109, A60, H⟩ := H
            replace H : ((bits_Len64.f k1 t109).bind fun t110 => (if x0_1.length < 140737488355328 then ((frame_low.f k1 (x0_1 ++ [(wrap64 (Int.tdiv (wrap64 (t110 + 7)) 8)) % 256]) t109 (wrap64 (Int.tdiv (wrap64 (t110 + 7)) 8))).bind fun t114 => (frame_put.l0 k1 t114 l1 (l1.length : Int) (wrap64 (x11_1 + 1)))) else (none))) = some r := H
            have A6 := Aside0.mk A60
            clear A60
            replace H := Option.bind_eq_some_iff.mp H
            obtain ⟨t110, A70, H⟩ := H
            replace H : (if x0_1.length < 140737488355328 then ((frame_low.f k1 (x0_1 ++ [(wrap64 (Int.tdiv (wrap64 (t110 + 7)) 8)) % 256]) t109 (wrap64 (Int.tdiv (wrap64 (t110 + 7)) 8))).bind fun t114 => (frame_put.l0 k1 t114 l1 (l1.length : Int) (wrap64 (x11_1 + 1)))) else (none)) = some r := H
            have A7 := Aside0.mk A70
            clear A70
            by_cases c8 : x0_1.length < 140737488355328
            · rw [if_pos c8] at H
              have LMc8 := Aside0.mk c8
              clear c8
              obtain ⟨y111, hy111⟩ : ∃ y_ : List Int, y_ = (x0_1 ++ [(wrap64 (Int.tdiv (wrap64 (t110 + 7)) 8)) % 256]) := ⟨_, rfl⟩
              replace H : ((frame_low.f k1 y111 t109 (wrap64 (Int.tdiv (wrap64 (t110 + 7)) 8))).bind fun t114 => (frame_put.l0 k1 t114 l1 (l1.length : Int) (wrap64 (x11_1 + 1)))) = some r := by first | (rw [hy111]; with_reducible exact H) | (have H2_ := (Option.bind_some _ _).symm.trans H; rw [hy111]; with_reducible exact H2_) | (have H2_ := (Option.bind_some _ _).symm.trans H; with_reducible exact H2_) | with_reducible exact H | (rw [hy111]; exact H) | exact H
              have Ny111 := Aside0.mk hy111
              clear hy111
              replace H := Option.bind_eq_some_iff.mp H
              obtain ⟨t114, A90, H⟩ := H
              replace H : (frame_put.l0 k1 t114 l1 (l1.length : Int) (wrap64 (x11_1 + 1))) = some r := H
              have A9 := Aside0.mk A90
              clear A90
              have H' := Aside0.mk H
              clear H
              have p108 : 0 ≤ (x11_1 : Int) := of_decide_eq_true (by first | (with_reducible assumption) | assumption)
              have q108 : x11_1 < (l1.length : Int) := of_decide_eq_true (by first | (with_reducible assumption) | assumption)
              obtain ⟨ad108, e108, hx108_0⟩ := Kd.at_int (Kd.C_kept_now HR1.out HK.out) x11_1 p108 q108
              cases e108
              replace p108 := eq_true p108
              replace q108 := eq_true q108
              go_wp2_with (first | ((with_reducible refine gate_callee (f := 62) rfl ?_); refine goesL_ (some 16) rfl rfl Try.func62 (by kernel_rfl) rfl #[.int .i64 (rd l1 x11_1)] rfl (by (try simp only [List.map_toArray, List.map_cons, List.map_nil]); first | done | rfl | (simp only [List.length_drop, List.length_take]; rfl)) ?_; (with_reducible refine (frame_turned.calls (rd l1 x11_1) t109 _ A6.out).mono ?_); rintro e w' ⟨rfl, ⟨nd, rfl⟩⟩; refine ⟨_, rfl, ?_⟩) | ((with_reducible refine gate_callee (f := 63) rfl ?_); refine goesL_ (some 18) rfl rfl Try.func63 (by kernel_rfl) rfl #[.int .u64 t109] rfl (by (try simp only [List.map_toArray, List.map_cons, List.map_nil]); first | done | rfl | (simp only [List.length_drop, List.length_take]; rfl)) ?_; (with_reducible refine (bits_Len64.calls k1 t109 t110 _ A7.out).mono ?_); rintro e w' ⟨rfl, ⟨nd, rfl⟩⟩; refine ⟨_, rfl, ?_⟩) | ((with_reducible refine gate_builtin (b := .append) (xs := #[.tmp 21, .tmp 24]) rfl ?_); at_builtin; refine Kd.R_append (Kd.int .u8) (w0 := w0) w0.heap.size rfl (.tmp 21) (.tmp 24) 30 5 (.int .u8 0) 1 rfl Try.underlying30 info5 rfl (by decide) (by omega) u0 x0_1 ((wrap64 (Int.tdiv (wrap64 (t110 + 7)) 8)) % 256) [.int .u8 ((wrap64 (Int.tdiv (wrap64 (t110 + 7)) 8)) % 256)] (fun k_ => (P0_ k_ ∨ w.heap.size ≤ k_)) (fun _ => False) rfl rfl ?aP (fun _ hk => hk.elim) ?aF ?aO ?aB ?aS ?aL ?_; (case aP => exact rfl); (case aB => exact (by repeat (first | (with_reducible first | exact HB.out | apply below_alloc | apply pw_below_drewN | apply below_drew1) | exact HB.out))); (case aF => exact (fun k_ hk => (.inr (Nat.le_trans (by first | exact HK.out.1 | exact (show Kept w _ (fun k_ => P0_ k_) from by repeat (first | (with_reducible first | exact HK.out | apply Kept.alloc | apply Kept.drewN | apply Kept.drew) | exact HK.out)).1) hk)))); (case aO => exact (by (with_reducible repeat (first | apply Kd.R_alloc | apply Kd.R_drewN | apply Kd.R_drew)); exact HO_0.out)); (case aS => exact (below_size (by repeat (first | (with_reducible first | exact HB.out | apply below_alloc | apply pw_below_drewN | apply below_drew1) | exact HB.out)))); (case aL => have := LMc8.out; omega); intro v112 w10 ho hb hg hat; rw [← Ny111.out] at ho; have n0_ := Aside0.mk (hb); have n1_ := Aside0.mk (Kept.of_grown (S := (fun k_ => P0_ k_)) hg (by repeat (first | (with_reducible first | exact HK.out | apply Kept.alloc | apply Kept.drewN | apply Kept.drew) | exact HK.out)) (fun k_ e_ => (HO_0.out.1 k_ e_))); have n2_ := Aside0.mk (ho); clear HB; clear HK; clear HO_0; have HB := n0_; have HK := n1_; have HO113 := n2_; clear n0_ n1_ n2_; clear ho hb hg hat; obtain ⟨Ao11, co11, eo11⟩ := Kd.R_slice HO113.out; subst eo11) | ((with_reducible refine gate_callee (f := 46) rfl ?_); refine goesL_ (some 28) rfl rfl Try.func46 (by kernel_rfl) rfl #[.slice Ao11 y111.length co11, .int .u64 t109, .int .i64 (wrap64 (Int.tdiv (wrap64 (t110 + 7)) 8))] rfl (by (try simp only [List.map_toArray, List.map_cons, List.map_nil]); first | done | rfl | (simp only [List.length_drop, List.length_take]; rfl)) ?_; (with_reducible refine (frame_low.calls k1 (fun k_ => some k_ = (.slice Ao11 y111.length co11 : Value).ownBlock) (.slice Ao11 y111.length co11) y111 t109 (wrap64 (Int.tdiv (wrap64 (t110 + 7)) 8)) t114 w0 _ ?side1 ?side2 A9.out).mono ?_); (case side1 => repeat (first | (with_reducible first | exact HB.out | apply below_alloc | apply pw_below_drewN | apply below_drew1) | exact HB.out)); (case side2 => exact Kd.R_tight rfl HO113.out); rintro e w12 ⟨v115, rfl, ho0, hb, hkp⟩; refine ⟨_, rfl, ?_⟩; have n0_ := Aside0.mk (Kd.R_mono (ok' := fun k_ => (P0_ k_ ∨ w.heap.size ≤ k_)) ho0 (fun k_ hk_ => Or.elim hk_ (fun hs_ => (HO113.out.1 k_ (hs_).symm)) (fun hn_ => (.inr (Nat.le_trans (by first | exact HK.out.1 | exact (show Kept w _ (fun k_ => P0_ k_) from by repeat (first | (with_reducible first | exact HK.out | apply Kept.alloc | apply Kept.drewN | apply Kept.drew) | exact HK.out)).1) hn_))))); have n1_ := Aside0.mk (Kept.then_ (S := (fun k_ => P0_ k_)) (by repeat (first | (with_reducible first | exact HK.out | apply Kept.alloc | apply Kept.drewN | apply Kept.drew) | exact HK.out)) hkp (fun k_ hs_ => (fun e_ => (HO113.out.1 k_ e_.symm)) hs_)); have n2_ := Aside0.mk (hb); clear HK; clear HB; clear HO113; have HO116 := n0_; have HK := n1_; have HB := n2_; clear n0_ n1_ n2_; (try clear hb); (try clear hkp); (try clear ho0)))
              go_roundg k1
              case measure => have := HK1.out; omega
              case rel => exact ⟨(t114), (wrap64 (x11_1 + 1)), (by first | rfl | (simp; done) | (simp [*]; done)), H', ⟨by have := HK1.out; omega⟩, ⟨by (with_reducible repeat (first | apply Kd.R_alloc | apply Kd.R_drewN | apply Kd.R_drew)); exact HO116.out⟩, ⟨by repeat (first | (with_reducible first | exact HK.out | apply Kept.alloc | apply Kept.drewN | apply Kept.drew) | exact HK.out)⟩, ⟨by repeat (first | (with_reducible first | exact HB.out | apply below_alloc | apply pw_below_drewN | apply below_drew1) | exact HB.out)⟩⟩
            · rw [if_neg c8] at H
              exact absurd H (by simp)
          · rw [if_neg c5] at H
            exact absurd H (by simp)
        · rw [if_neg c4] at H
          exact absurd H (by simp)
      · rw [if_neg c3] at H
        have c3b0 : decide (x11_1 < (l1.length : Int)) = false := decide_eq_false c3
        clear c3
        obtain rfl := Option.some.inj H
        go_wp2
        go_ret
        exact ⟨_, by first | rfl | (simp [errW_none, errW_some] <;> rfl) | (simp [*, errW_none, errW_some] <;> rfl), by (with_reducible repeat (first | apply Kd.R_alloc | apply Kd.R_drewN | apply Kd.R_drew)); exact HO_0.out, by repeat (first | (with_reducible first | exact HB.out | apply below_alloc | apply pw_below_drewN | apply below_drew1) | exact HB.out), by repeat (first | (with_reducible first | exact HK.out | apply Kept.alloc | apply Kept.drewN | apply Kept.drew) | exact HK.out)⟩
mutual
def frame_Sum.l0 : Nat → Int → List (List Int) → Int → Int → Option (Int)
  | 0, _, _, _, _ => none
  | k + 1, x3, x8, x9, x10 => if x10 < x9 then (if 0 ≤ x10 then (if x10 < (x8.length : Int) then (frame_Sum.l1 k x3 x8 x9 x10 (rd_L1 x8 x10) ((rd_L1 x8 x10).length : Int) 0) else (none)) else (none)) else (some x3)
def frame_Sum.l1 : Nat → Int → List (List Int) → Int → Int → List Int → Int → Int → Option (Int)
  | 0, _, _, _, _, _, _, _ => none
  | k + 1, x3, x8, x9, x10, x14, x15, x16 => if x16 < x15 then (if 0 ≤ x16 then (if x16 < (x14.length : Int) then (frame_Sum.l1 k (((Go.bits .xor .u32 x3 ((rd x14 x16) % 4294967296)) * 16777619) % 4294967296) x8 x9 x10 x14 x15 (wrap64 (x16 + 1))) else (none)) else (none)) else (frame_Sum.l0 k x3 x8 x9 (wrap64 (x10 + 1)))
end
def frame_Sum.f (k : Nat) (l0 : List (List Int)) : Option (Int) := frame_Sum.l0 k 2166136261 l0 (l0.length : Int) 0
set_option maxHeartbeats 8000000 in
set_option maxRecDepth 100000 in
theorem frame_Sum.calls (k : Nat) (A0 : Option Addr) (c0 : Nat) (l0 : List (List Int)) (r : Int) (w : World) (hr0 : Kd.C (Kd.slice 5 (Kd.int .u8)) w A0 l0.length l0) (hc0 : l0.length ≤ c0) (h : frame_Sum.f k l0 = some r) :
    Calls Try.prog 47 #[.slice A0 l0.length c0] w fun e w' => e = .returned (.int .u32 r) ∧ Drawn0 w w' := by
  have HR0 := Aside0.mk hr0
  have HC0 := Aside0.mk hc0
  clear hr0 hc0
  have H : (frame_Sum.l0 k 2166136261 l0 (l0.length : Int) 0) = some r := h
  clear h
  have H' := Aside0.mk H
  clear H
  go_enter Try.func47, Try.ntmps47
  go_wp2
  go_loopg [3, 10] k (fun kq v3 v10 w' => ∃ (x3_1 : Int) (x10_1 : Int), v3 = .int .u32 x3_1 ∧ v10 = .int .i64 x10_1 ∧ Aside0 (frame_Sum.l0 kq x3_1 l0 (l0.length : Int) x10_1 = some r) ∧ Aside0 (kq ≤ k) ∧ Drawn0 w w')
  case atStart => exact ⟨(2166136261), (0), (by first | rfl | (simp; done) | (simp [*]; done)), (by first | rfl | (simp; done) | (simp [*]; done)), H', ⟨Nat.le_refl _⟩, by repeat (first | exact Drawn0.refl _ | apply Drawn0.step)⟩
  case round =>
    clear H'
    obtain ⟨x3_1, x10_1, rfl, rfl, HA, HK1, ⟨m1, rfl⟩⟩ := hrel
    cases gk with
    | zero => exact absurd HA.out (by simp [frame_Sum.l0])
    | succ k1 =>
      have H := HA.out
      clear HA
      simp only [frame_Sum.l0] at H
      by_cases c2 : x10_1 < (l0.length : Int)
      · rw [if_pos c2] at H
        have c2b0 : decide (x10_1 < (l0.length : Int)) = true := decide_eq_true c2
        clear c2
        by_cases c3 : 0 ≤ x10_1
        · rw [if_pos c3] at H
          have c3b0 : decide (0 ≤ x10_1) = true := decide_eq_true c3
          clear c3
          by_cases c4 : x10_1 < (l0.length : Int)
          · rw [if_pos c4] at H
            have c4b0 : decide (x10_1 < (l0.length : Int)) = true := decide_eq_true c4
            clear c4
            have H' := Aside0.mk H
            clear H
            have p105 : 0 ≤ (x10_1 : Int) := of_decide_eq_true (by first | (with_reducible assumption) | assumption)
            have q105 : x10_1 < (l0.length : Int) := of_decide_eq_true (by first | (with_reducible assumption) | assumption)
            obtain ⟨ad105, A105_0, c105_0, e105, hx105_0, hl105_0, hi105_0⟩ := at_L1 HR0.out x10_1 p105 q105
            cases e105
            have HR105_0 := Aside0.mk hi105_0
            have HC105_0 := Aside0.mk hl105_0
            clear hi105_0 hl105_0
            replace p105 := eq_true p105
            replace q105 := eq_true q105
            go_wp2
            go_loopg [3, 16] k1 (fun kq v3 v16 w' => ∃ (x3_2 : Int) (x16_2 : Int), v3 = .int .u32 x3_2 ∧ v16 = .int .i64 x16_2 ∧ Aside0 (frame_Sum.l1 kq x3_2 l0 (l0.length : Int) x10_1 (rd_L1 l0 x10_1) ((rd_L1 l0 x10_1).length : Int) x16_2 = some r) ∧ Aside0 (kq ≤ k1) ∧ Drawn0 w w')
            case atStart => exact ⟨(x3_1), (0), (by first | rfl | (simp; done) | (simp [*]; done)), (by first | rfl | (simp; done) | (simp [*]; done)), H', ⟨Nat.le_refl _⟩, by repeat (first | exact Drawn0.refl _ | apply Drawn0.step)⟩
            case round =>
              clear H'
              try clear c1
              try clear p1
              try clear q1
              try clear hx1
              try clear c2
              try clear c2b0
              try clear p2
              try clear c3
              try clear c3b0
              try clear c4
              try clear c4b0
              try clear hx105_0
              try clear p105
              try clear q105
              obtain ⟨x3_2, x16_2, rfl, rfl, HA, HK2, ⟨m2, rfl⟩⟩ := hrel
              cases gk with
              | zero => exact absurd HA.out (by simp [frame_Sum.l1])
              | succ k2 =>
                have H := HA.out
                clear HA
                simp only [frame_Sum.l1] at H
                by_cases c5 : x16_2 < ((rd_L1 l0 x10_1).length : Int)
                · rw [if_pos c5] at H
                  have c5b0 : decide (x16_2 < ((rd_L1 l0 x10_1).length : Int)) = true := decide_eq_true c5
                  clear c5
                  by_cases c6 : 0 ≤ x16_2
                  · rw [if_pos c6] at H
                    have c6b0 : decide (0 ≤ x16_2) = true := decide_eq_true c6
                    clear c6
                    by_cases c7 : x16_2 < ((rd_L1 l0 x10_1).length : Int)
                    · rw [if_pos c7] at H
                      have c7b0 : decide (x16_2 < ((rd_L1 l0 x10_1).length : Int)) = true := decide_eq_true c7
                      clear c7
                      have H' := Aside0.mk H
                      clear H
                      have p106 : 0 ≤ (x16_2 : Int) := of_decide_eq_true (by first | (with_reducible assumption) | assumption)
                      have q106 : x16_2 < ((rd_L1 l0 x10_1).length : Int) := of_decide_eq_true (by first | (with_reducible assumption) | assumption)
                      obtain ⟨ad106, e106, hx106_0⟩ := Kd.at_int HR105_0.out x16_2 p106 q106
                      cases e106
                      replace p106 := eq_true p106
                      replace q106 := eq_true q106
                      go_wp2
                      go_roundg k2
                      case measure => have := HK1.out; have := HK2.out; omega
                      case rel => exact ⟨(((Go.bits .xor .u32 x3_2 ((rd (rd_L1 l0 x10_1) x16_2) % 4294967296)) * 16777619) % 4294967296), (wrap64 (x16_2 + 1)), (by first | rfl | (simp; done) | (simp [*]; done)), (by first | rfl | (simp; done) | (simp [*]; done)), H', ⟨by have := HK1.out; have := HK2.out; omega⟩, by repeat (first | exact Drawn0.refl _ | apply Drawn0.step)⟩
                    · rw [if_neg c7] at H
                      exact absurd H (by simp)
                  · rw [if_neg c6] at H
                    exact absurd H (by simp)
                · rw [if_neg c5] at H
                  have c5b0 : decide (x16_2 < ((rd_L1 l0 x10_1).length : Int)) = false := decide_eq_false c5
                  clear c5
                  have H' := Aside0.mk H
                  clear H
                  go_wp2
                  go_roundg k2
                  case measure => have := HK1.out; have := HK2.out; omega
                  case rel => exact ⟨(x3_2), (wrap64 (x10_1 + 1)), (by first | rfl | (simp; done) | (simp [*]; done)), (by first | rfl | (simp; done) | (simp [*]; done)), H', ⟨by have := HK1.out; have := HK2.out; omega⟩, by repeat (first | exact Drawn0.refl _ | apply Drawn0.step)⟩
          · rw [if_neg c4] at H
            exact absurd H (by simp)
        · rw [if_neg c3] at H
          exact absurd H (by simp)
      · rw [if_neg c2] at H
        have c2b0 : decide (x10_1 < (l0.length : Int)) = false := decide_eq_false c2
        clear c2
        obtain rfl := Option.some.inj H
        go_wp2
        go_ret
        exact ⟨by first | rfl | (simp; done) | (simp [*]; done), by repeat (first | exact Drawn0.refl _ | apply Drawn0.step)⟩
def estuarynum_Num.f (a0 : Option Int) : Option (Int) := if a0.isNone = true then (some 0) else (if (a0.getD 0) = 0 then (some (-1)) else (some (a0.getD 0)))
set_option maxHeartbeats 8000000 in
set_option maxRecDepth 100000 in
theorem estuarynum_Num.calls (a0 : Option Int) (r : Int) (w : World) (h : estuarynum_Num.f a0 = some r) :
    Calls Try.prog 14 #[errW a0] w fun e w' => e = .returned (.int .i64 r) ∧ Drawn0 w w' := by
  have hu32 := Try.underlying32
  have hu48 := Try.underlying48
  have hta : ∀ (v : Value) (W : World), (Instr.typeAssert (.iface 48 v) 32 48 true).run Try.prog W = .ok (.tuple #[v, .bool true]) W := fun v W => by rfl
  have H : (if a0.isNone = true then (some 0) else (if (a0.getD 0) = 0 then (some (-1)) else (some (a0.getD 0)))) = some r := h
  clear h
  rcases a0 with _ | q162
  · have H1 : (some 0) = some r := by rw [if_pos (show (none : Option Int).isNone = true by rfl)] at H; exact H
    clear H
    have H := H1
    clear H1
    simp only [errW_none, errW_some]
    obtain rfl := Option.some.inj H
    go_enter Try.func14, Try.ntmps14
    go_wp2
    go_ret
    exact ⟨by first | rfl | (simp; done) | (simp [*]; done), by repeat (first | exact Drawn0.refl _ | apply Drawn0.step)⟩
  · have H1 : (if q162 = 0 then (some (-1)) else (some q162)) = some r := by rw [if_neg (show ¬ (some q162).isNone = true by simp)] at H; exact H
    clear H
    have H := H1
    clear H1
    simp only [errW_none, errW_some]
    by_cases c2 : q162 = 0
    · rw [if_pos c2] at H
      have c2b0 : (q162 == 0) = true := beq_iff_eq.mpr c2
      have c2b1 : (q162 != 0) = false := bne_eq_false_iff_eq.mpr c2
      clear c2
      obtain rfl := Option.some.inj H
      go_enter Try.func14, Try.ntmps14
      go_wp2
      go_ret
      exact ⟨by first | rfl | (simp; done) | (simp [*]; done), by repeat (first | exact Drawn0.refl _ | apply Drawn0.step)⟩
    · rw [if_neg c2] at H
      have c2b0 : (q162 == 0) = false := beq_eq_false_iff_ne.mpr c2
      have c2b1 : (q162 != 0) = true := bne_iff_ne.mpr c2
      obtain rfl := Option.some.inj H
      go_enter Try.func14, Try.ntmps14
      go_wp2
      go_ret
      exact ⟨by first | rfl | (simp; done) | (simp [*]; done), by repeat (first | exact Drawn0.refl _ | apply Drawn0.step)⟩
end Go.Proofs.Ytbbhdohjhipalaa.PNoteReads
end
section
namespace Go.Proofs.Ytbbhdohjhipalaa.PNoteReads
open Go.RowKit Go.Proofs.YtbbhdohjhipalaaW.PrintWords Go.Proofs.YtbbhdohjhipalaaW.PrintLast Go.Proofs.YtbbhdohjhipalaaW.PrintMore
open Go.Proofs.Ytbbhdohjhipalaa.Flow
set_option linter.unusedVariables false
set_option linter.unusedSimpArgs false
def lowl (u : Int) : Nat → Nat → List Int
  | 0, _ => []
  | n + 1, i => (shr .u64 u (8 * (i : Int))) % 256 :: lowl u n (i + 1)
theorem lowl_len (u : Int) : ∀ n i, (lowl u n i).length = n
  | 0, _ => rfl
  | n + 1, i => by simp [lowl, lowl_len u n]
theorem low_l0 (u : Int) (N : Nat) (hN : N ≤ 8) : ∀ (n K i : Nat) (l : List Int), n + 1 ≤ K → i + n = N → l.length + n < 140737488355328 → frame_low.l0 K l u (N : Int) (i : Int) = some (l ++ lowl u n i)
  | 0, K, i, l, hK, hi, hl => by
    obtain ⟨k, rfl⟩ : ∃ k, K = k + 1 := ⟨K - 1, by omega⟩
    rw [frame_low.l0, if_neg (by omega)]
    simp [lowl]
  | n + 1, K, i, l, hK, hi, hl => by
    obtain ⟨k, rfl⟩ : ∃ k, K = k + 1 := ⟨K - 1, by omega⟩
    have e1 : wrap64 (8 * (i : Int)) = 8 * (i : Int) := wrap_id (by omega) (by omega)
    have e2 : wrap64 ((i : Int) + 1) = ((i + 1 : Nat) : Int) := wrap_id (by omega) (by omega)
    rw [frame_low.l0, if_pos (by omega), e1, if_pos (by omega), if_pos (by omega), e2]
    rw [low_l0 u N hN n k (i + 1) _ (by omega) (by omega) (by simp; omega)]
    simp [lowl]
theorem low_f (K : Nat) (l : List Int) (u : Int) (N : Nat) (hN : N ≤ 8) (hK : N + 1 ≤ K) (hl : l.length + N < 140737488355328) : frame_low.f K l u (N : Int) = some (l ++ lowl u N 0) := by
  unfold frame_low.f
  exact low_l0 u N hN N K 0 l hK (by omega) hl
def fnv (s : Int) (l : List Int) : Int := l.foldl (fun s c => ((Go.bits .xor .u32 s (c % 4294967296)) * 16777619) % 4294967296) s
theorem fnv_append (s : Int) (l m : List Int) : fnv s (l ++ m) = fnv (fnv s l) m := by simp [fnv]
theorem sum_l1 (ps : List (List Int)) (j : Nat) (p : List Int) (hp : p.length ≤ 9223372036854775806) (K0 : Nat) (R : Option Int) : ∀ (m K i : Nat) (s : Int), m + 1 + K0 ≤ K → i + m = p.length → (∀ K', K0 ≤ K' → frame_Sum.l0 K' (fnv s (p.drop i)) ps (ps.length : Int) (wrap64 ((j : Int) + 1)) = R) →
    frame_Sum.l1 K s ps (ps.length : Int) (j : Int) p (p.length : Int) (i : Int) = R
  | 0, K, i, s, hK, hi, h => by
    obtain ⟨k, rfl⟩ : ∃ k, K = k + 1 := ⟨K - 1, by omega⟩
    rw [frame_Sum.l1, if_neg (by omega)]
    have := h k (by omega)
    rw [List.drop_of_length_le (by omega)] at this
    exact this
  | m + 1, K, i, s, hK, hi, h => by
    obtain ⟨k, rfl⟩ : ∃ k, K = k + 1 := ⟨K - 1, by omega⟩
    have e2 : wrap64 ((i : Int) + 1) = ((i + 1 : Nat) : Int) := wrap_id (by omega) (by omega)
    rw [frame_Sum.l1, if_pos (by omega), if_pos (by omega), if_pos (by omega), e2]
    refine sum_l1 ps j p hp K0 R m k (i + 1) _ (by omega) (by omega) (fun K' hK' => ?_)
    have := h K' hK'
    have hlt : i < p.length := by omega
    rw [List.drop_eq_getElem_cons hlt] at this
    have e3 : rd p (i : Int) = p[i] := by
      unfold rd
      rw [List.getD_eq_getElem?_getD, show ((i : Int)).toNat = i by omega, List.getElem?_eq_getElem hlt]
      rfl
    rw [e3]
    exact this
theorem rd_L1_at (ps : List (List Int)) (j : Nat) (h : j < ps.length) : rd_L1 ps (j : Int) = ps[j] := by
  unfold rd_L1
  rw [List.getD_eq_getElem?_getD, show ((j : Int)).toNat = j by omega, List.getElem?_eq_getElem h]
  rfl
theorem sum_l0 (ps : List (List Int)) (hps : ps.length ≤ 9223372036854775806) (hall : ∀ p ∈ ps, p.length ≤ 9223372036854775806) : ∀ (m K j : Nat) (s : Int), j + m = ps.length → 2 * m + 1 + ((ps.drop j).flatten).length ≤ K → frame_Sum.l0 K s ps (ps.length : Int) (j : Int) = some (fnv s ((ps.drop j).flatten))
  | 0, K, j, s, hj, hK => by
    obtain ⟨k, rfl⟩ : ∃ k, K = k + 1 := ⟨K - 1, by omega⟩
    rw [frame_Sum.l0, if_neg (by omega), List.drop_of_length_le (by omega)]
    rfl
  | m + 1, K, j, s, hj, hK => by
    obtain ⟨k, rfl⟩ : ∃ k, K = k + 1 := ⟨K - 1, by omega⟩
    have hlt : j < ps.length := by omega
    have e2 : wrap64 ((j : Int) + 1) = ((j + 1 : Nat) : Int) := wrap_id (by omega) (by omega)
    rw [List.drop_eq_getElem_cons hlt] at hK ⊢
    simp only [List.flatten_cons, List.length_append] at hK ⊢
    rw [frame_Sum.l0, if_pos (by omega), if_pos (by omega), if_pos (by omega), rd_L1_at ps j hlt]
    refine sum_l1 ps j ps[j] (hall _ (List.getElem_mem hlt)) (2 * m + 1 + ((ps.drop (j + 1)).flatten).length) _ ps[j].length k 0 s (by omega) (by omega) (fun K' hK' => ?_)
    rw [e2, sum_l0 ps hps hall m K' (j + 1) _ (by omega) hK', fnv_append]
    rfl
theorem sum_f (ps : List (List Int)) (hps : ps.length ≤ 9223372036854775806) (hall : ∀ p ∈ ps, p.length ≤ 9223372036854775806) (K : Nat) (hK : 2 * ps.length + 1 + ps.flatten.length ≤ K) : frame_Sum.f K ps = some (fnv 2166136261 ps.flatten) := by
  unfold frame_Sum.f
  exact sum_l0 ps hps hall ps.length K 0 _ (by omega) hK
theorem fnv_range : ∀ (l : List Int) (s : Int), 0 ≤ s ∧ s < 4294967296 → 0 ≤ fnv s l ∧ fnv s l < 4294967296
  | [], s, h => h
  | c :: r, s, h => fnv_range r _ ⟨Int.emod_nonneg _ (by decide), Int.emod_lt_of_pos _ (by decide)⟩
theorem take_flat (ps : List (List Int)) (i : Nat) (h : i < ps.length) : (ps.take (i + 1)).flatten = (ps.take i).flatten ++ rd_L1 ps (i : Int) := by
  rw [List.take_succ_eq_append_getElem h, rd_L1_at ps i h, List.flatten_append]
  simp only [List.flatten_cons, List.flatten_nil, List.append_nil]
theorem take_len (ps : List (List Int)) (i : Nat) (h : i < ps.length) : ((ps.take (i + 1)).flatten).length = ((ps.take i).flatten).length + (rd_L1 ps (i : Int)).length := by
  rw [take_flat ps i h, List.length_append]
theorem take_le (ps : List (List Int)) (i : Nat) : ((ps.take i).flatten).length ≤ ps.flatten.length := by
  have h : ps.flatten = (ps.take i).flatten ++ (ps.drop i).flatten := by rw [← List.flatten_append, List.take_append_drop]
  rw [h]
  simp
theorem rd_L1_mem (ps : List (List Int)) (i : Nat) (h : i < ps.length) : rd_L1 ps (i : Int) ∈ ps := by
  rw [rd_L1_at ps i h]
  exact List.getElem_mem h
def frameB (l : List Int) : List Int := if 16376 < l.length then [] else (lowl (l.length : Int) 4 0 ++ lowl (fnv 2166136261 l) 4 0) ++ l
def frameE (l : List Int) : Option Int := if 16376 < l.length then some 7 else none
end Go.Proofs.Ytbbhdohjhipalaa.PNoteReads
end
section
namespace Go.Proofs.Ytbbhdohjhipalaa.PNoteReads
open Go.RowKit Go.Proofs.YtbbhdohjhipalaaW.PrintWords Go.Proofs.YtbbhdohjhipalaaW.PrintLast Go.Proofs.YtbbhdohjhipalaaW.PrintMore
set_option linter.unusedVariables false
set_option linter.unusedSimpArgs false
def frame_high.l0 : Nat → Int → List Int → Int → Int → Option (Int)
  | 0, _, _, _, _ => none
  | k + 1, x3, x6, x7, x8 => if x8 < x7 then (if 0 ≤ x8 then (if x8 < (x6.length : Int) then (if 0 ≤ (wrap64 (8 * x8)) then (frame_high.l0 k (Go.bits .or .u64 x3 (shl .u64 (IntKind.u64.wrap (rd x6 x8)) (wrap64 (8 * x8)))) x6 x7 (wrap64 (x8 + 1))) else (none)) else (none)) else (none)) else (some x3)
def frame_high.f (k : Nat) (l0 : List Int) : Option (Int) := frame_high.l0 k 0 l0 (l0.length : Int) 0
set_option maxHeartbeats 8000000 in
set_option maxRecDepth 100000 in
theorem frame_high.calls (k : Nat) (A0 : Option Addr) (c0 : Nat) (l0 : List Int) (r : Int) (w : World) (hr0 : Kd.C (Kd.int .u8) w A0 l0.length l0) (hc0 : l0.length ≤ c0) (h : frame_high.f k l0 = some r) :
    Calls Try.prog 64 #[.slice A0 l0.length c0] w fun e w' => e = .returned (.int .u64 r) ∧ Drawn0 w w' := by
  have HR0 := Aside0.mk hr0
  have HC0 := Aside0.mk hc0
  clear hr0 hc0
  have H : (frame_high.l0 k 0 l0 (l0.length : Int) 0) = some r := h
  clear h
  have H' := Aside0.mk H
  clear H
  go_enter Try.func64, Try.ntmps64
  go_wp2
  go_loopg [3, 8] k (fun kq v3 v8 w' => ∃ (x3_1 : Int) (x8_1 : Int), v3 = .int .u64 x3_1 ∧ v8 = .int .i64 x8_1 ∧ Aside0 (frame_high.l0 kq x3_1 l0 (l0.length : Int) x8_1 = some r) ∧ Aside0 (kq ≤ k) ∧ Drawn0 w w')
  case atStart => exact ⟨(0), (0), (by first | rfl | (simp; done) | (simp [*]; done)), (by first | rfl | (simp; done) | (simp [*]; done)), H', ⟨Nat.le_refl _⟩, by repeat (first | exact Drawn0.refl _ | apply Drawn0.step)⟩
  case round =>
    clear H'
    obtain ⟨x3_1, x8_1, rfl, rfl, HA, HK1, ⟨m1, rfl⟩⟩ := hrel
    cases gk with
    | zero => exact absurd HA.out (by simp [frame_high.l0])
    | succ k1 =>
      have H := HA.out
      clear HA
      simp only [frame_high.l0] at H
      by_cases c2 : x8_1 < (l0.length : Int)
      · rw [if_pos c2] at H
        have c2b0 : decide (x8_1 < (l0.length : Int)) = true := decide_eq_true c2
        clear c2
        by_cases c3 : 0 ≤ x8_1
        · rw [if_pos c3] at H
          have c3b0 : decide (0 ≤ x8_1) = true := decide_eq_true c3
          clear c3
          by_cases c4 : x8_1 < (l0.length : Int)
          · rw [if_pos c4] at H
            have c4b0 : decide (x8_1 < (l0.length : Int)) = true := decide_eq_true c4
            clear c4
            obtain ⟨ji5, hji5⟩ : ∃ j_ : Int, (wrap64 (8 * x8_1)) = j_ := ⟨_, rfl⟩
            replace H : (if 0 ≤ (ji5) then (frame_high.l0 k1 (Go.bits .or .u64 x3_1 (shl .u64 (IntKind.u64.wrap (rd l0 x8_1)) (ji5))) l0 (l0.length : Int) (wrap64 (x8_1 + 1))) else (none)) = some r := by first | (rw [hji5] at H; exact H) | (simp only [hji5] at H ⊢; exact H)
            have hji5w : (IntKind.i64.wrap (8 * x8_1)) = ji5 := (i64_w _).trans hji5
            by_cases c6 : 0 ≤ (ji5)
            · rw [if_pos c6] at H
              have c6b0 := eq_true c6
              have c6b1 : decide (0 ≤ (ji5)) = true := decide_eq_true c6
              clear c6
              obtain ⟨ji7, hji7⟩ : ∃ j_ : Int, (shl .u64 (IntKind.u64.wrap (rd l0 x8_1)) (ji5)) = j_ := ⟨_, rfl⟩
              replace H : (frame_high.l0 k1 (Go.bits .or .u64 x3_1 (ji7)) l0 (l0.length : Int) (wrap64 (x8_1 + 1))) = some r := by first | (rw [hji7] at H; exact H) | (simp only [hji7] at H ⊢; exact H)
              have hji7_ : (IntKind.u64.wrap ((IntKind.u64.wrap (rd l0 x8_1)) * 2 ^ min (ji5).toNat 64)) = ji7 := hji7
              have hji7z : (ji5) ≤ 64 → (IntKind.u64.wrap ((IntKind.u64.wrap (rd l0 x8_1)) * 2 ^ (ji5).toNat)) = ji7 := shl_small hji7
              have H' := Aside0.mk H
              clear H
              have p117 : 0 ≤ (x8_1 : Int) := of_decide_eq_true (by first | (with_reducible assumption) | assumption)
              have q117 : x8_1 < (l0.length : Int) := of_decide_eq_true (by first | (with_reducible assumption) | assumption)
              obtain ⟨ad117, e117, hx117_0⟩ := Kd.at_int HR0.out x8_1 p117 q117
              cases e117
              replace p117 := eq_true p117
              replace q117 := eq_true q117
              go_wp2
              go_roundg k1
              case measure => have := HK1.out; omega
              case rel => exact ⟨(Go.bits .or .u64 x3_1 (ji7)), (wrap64 (x8_1 + 1)), (by first | rfl | (simp; done) | (simp only [← hji7] <;> (first | rfl | simp)) | (simp [*]; done)), (by first | rfl | (simp; done) | (simp [*]; done)), H', ⟨by have := HK1.out; omega⟩, by repeat (first | exact Drawn0.refl _ | apply Drawn0.step)⟩
            · rw [if_neg c6] at H
              exact absurd H (by simp)
          · rw [if_neg c4] at H
            exact absurd H (by simp)
        · rw [if_neg c3] at H
          exact absurd H (by simp)
      · rw [if_neg c2] at H
        have c2b0 : decide (x8_1 < (l0.length : Int)) = false := decide_eq_false c2
        clear c2
        obtain rfl := Option.some.inj H
        go_wp2
        go_ret
        exact ⟨by first | rfl | (simp; done) | (simp [*]; done), by repeat (first | exact Drawn0.refl _ | apply Drawn0.step)⟩
def frame_back.f (a0 : Int) : Option (Int) := some (Go.bits .xor .i64 (wrap64 (a0 / 2)) (wrap64 (-(wrap64 (Go.bits .and .u64 a0 1)))))
set_option maxHeartbeats 8000000 in
set_option maxRecDepth 100000 in
theorem frame_back.calls (a0 : Int) (r : Int) (w : World) (h : frame_back.f a0 = some r) :
    Calls Try.prog 65 #[.int .u64 a0] w fun e w' => e = .returned (.int .i64 r) ∧ Drawn0 w w' := by
  have H : (some (Go.bits .xor .i64 (wrap64 (a0 / 2)) (wrap64 (-(wrap64 (Go.bits .and .u64 a0 1)))))) = some r := h
  clear h
  obtain rfl := Option.some.inj H
  go_enter Try.func65, Try.ntmps65
  go_wp2
  go_ret
  exact ⟨by first | rfl | (simp; done) | (simp [*]; done), by repeat (first | exact Drawn0.refl _ | apply Drawn0.step)⟩
end Go.Proofs.Ytbbhdohjhipalaa.PNoteReads
end
section
namespace Go.Proofs.Ytbbhdohjhipalaa.PNoteReads
open Go.RowKit Go.Proofs.YtbbhdohjhipalaaW.PrintWords Go.Proofs.YtbbhdohjhipalaaW.PrintLast Go.Proofs.YtbbhdohjhipalaaW.PrintMore
open Go.Proofs.Ytbbhdohjhipalaa.Flow
set_option linter.unusedVariables false
set_option linter.unusedSimpArgs false
def Bytes (l : List Int) : Prop := ∀ c ∈ l, 0 ≤ c ∧ c < 256
def valN : List Int → Nat
  | [] => 0
  | c :: r => c.toNat + 256 * valN r
theorem Bytes.tail {c : Int} {r : List Int} (h : Bytes (c :: r)) : Bytes r := fun x hx => h x (List.mem_cons_of_mem _ hx)
theorem Bytes.take {l : List Int} (h : Bytes l) (n : Nat) : Bytes (l.take n) := fun x hx => h x (List.mem_of_mem_take hx)
theorem Bytes.drop {l : List Int} (h : Bytes l) (n : Nat) : Bytes (l.drop n) := fun x hx => h x (List.mem_of_mem_drop hx)
theorem Bytes.append {l m : List Int} (h : Bytes l) (k : Bytes m) : Bytes (l ++ m) := fun x hx => (List.mem_append.1 hx).elim (h x) (k x)
theorem valN_lt : ∀ (l : List Int), Bytes l → valN l < 2 ^ (8 * l.length)
  | [], _ => by simp [valN]
  | c :: r, h => by
    have h1 := valN_lt r h.tail
    have h2 := h c (by simp)
    have e : 2 ^ (8 * (c :: r).length) = 256 * 2 ^ (8 * r.length) := by
      rw [List.length_cons, show 8 * (r.length + 1) = 8 * r.length + 8 by omega, Nat.pow_add, Nat.mul_comm]
    rw [e, valN]
    omega
theorem valN_inj : ∀ (l m : List Int), Bytes l → Bytes m → l.length = m.length → valN l = valN m → l = m
  | [], [], _, _, _, _ => rfl
  | c :: r, d :: s, h, k, hl, hv => by
    have h2 := h c (by simp)
    have k2 := k d (by simp)
    rw [valN, valN] at hv
    have e1 : c = d := by omega
    have e2 : valN r = valN s := by omega
    rw [e1, valN_inj r s h.tail k.tail (by simpa using hl) e2]
theorem shl_nat (C i : Nat) (hC : C < 256) (hi : i ≤ 7) : shl .u64 ((C : Int)) (8 * (i : Int)) = ((C * 2 ^ (8 * i) : Nat) : Int) := by
  have hp : C * 2 ^ (8 * i) < 2 ^ 64 := by
    have h1 : C * 2 ^ (8 * i) < 2 ^ 8 * 2 ^ (8 * i) := Nat.mul_lt_mul_of_pos_right hC (Nat.pow_pos (by omega))
    rw [← Nat.pow_add] at h1
    exact Nat.lt_of_lt_of_le h1 (Nat.pow_le_pow_right (by omega) (by omega))
  have e0 : min ((8 * (i : Int)).toNat) (IntKind.u64.bits) = 8 * i := by
    have : IntKind.u64.bits = 64 := rfl
    omega
  unfold shl
  rw [e0]
  have e1 : (C : Int) * 2 ^ (8 * i) = ((C * 2 ^ (8 * i) : Nat) : Int) := by push_cast; rfl
  rw [e1, u64_wrap]
  have hp2 : C * 2 ^ (8 * i) < 18446744073709551616 := hp
  generalize C * 2 ^ (8 * i) = z at hp2 ⊢
  omega
theorem or_step (x C i : Nat) (hx : x < 2 ^ (8 * i)) (hC : C < 256) (hi : i ≤ 7) : Go.bits .or .u64 (x : Int) (shl .u64 (C : Int) (8 * (i : Int))) = ((x + 2 ^ (8 * i) * C : Nat) : Int) := by
  rw [shl_nat C i hC hi]
  have hx2 : x < 2 ^ 64 := Nat.lt_of_lt_of_le hx (Nat.pow_le_pow_right (by omega) (by omega))
  have hp : C * 2 ^ (8 * i) < 2 ^ 64 := by
    have h1 : C * 2 ^ (8 * i) < 2 ^ 8 * 2 ^ (8 * i) := Nat.mul_lt_mul_of_pos_right hC (Nat.pow_pos (by omega))
    rw [← Nat.pow_add] at h1
    exact Nat.lt_of_lt_of_le h1 (Nat.pow_le_pow_right (by omega) (by omega))
  rw [bits_or_u64_nat x (C * 2 ^ (8 * i)) hx2 hp]
  congr 1
  rw [Nat.or_comm, Nat.mul_comm C, ← Nat.two_pow_add_eq_or_of_lt hx, Nat.add_comm]
theorem rd_at (l : List Int) (i : Nat) (h : i < l.length) : rd l (i : Int) = l[i] := by
  unfold rd
  rw [List.getD_eq_getElem?_getD, show ((i : Int)).toNat = i by omega, List.getElem?_eq_getElem h]
  rfl
theorem high_l0 (l : List Int) (hb : Bytes l) (hl : l.length ≤ 8) : ∀ (m K i x : Nat), m + 1 ≤ K → i + m = l.length → x < 2 ^ (8 * i) → frame_high.l0 K (x : Int) l (l.length : Int) (i : Int) = some ((x + 2 ^ (8 * i) * valN (l.drop i) : Nat) : Int)
  | 0, K, i, x, hK, hi, hx => by
    obtain ⟨k, rfl⟩ : ∃ k, K = k + 1 := ⟨K - 1, by omega⟩
    rw [frame_high.l0, if_neg (by omega), List.drop_of_length_le (by omega)]
    simp [valN]
  | m + 1, K, i, x, hK, hi, hx => by
    obtain ⟨k, rfl⟩ : ∃ k, K = k + 1 := ⟨K - 1, by omega⟩
    have hlt : i < l.length := by omega
    have e1 : wrap64 (8 * (i : Int)) = 8 * (i : Int) := wrap_id (by omega) (by omega)
    have e2 : wrap64 ((i : Int) + 1) = ((i + 1 : Nat) : Int) := wrap_id (by omega) (by omega)
    have hc := hb l[i] (List.getElem_mem hlt)
    have e3 : IntKind.u64.wrap (rd l (i : Int)) = ((l[i].toNat : Nat) : Int) := by
      rw [rd_at l i hlt, u64_wrap]
      omega
    rw [frame_high.l0, if_pos (by omega), if_pos (by omega), if_pos (by omega), e1, if_pos (by omega), e2, e3, or_step x l[i].toNat i hx (by omega) (by omega)]
    have hp : 2 ^ (8 * (i + 1)) = 2 ^ (8 * i) * 256 := by rw [show 8 * (i + 1) = 8 * i + 8 by omega, Nat.pow_add]
    have hx2 : x + 2 ^ (8 * i) * l[i].toNat < 2 ^ (8 * (i + 1)) := by
      have h1 : 2 ^ (8 * i) * l[i].toNat ≤ 2 ^ (8 * i) * 255 := Nat.mul_le_mul_left _ (by omega)
      omega
    rw [high_l0 l hb hl m k (i + 1) _ (by omega) (by omega) hx2, List.drop_eq_getElem_cons hlt, valN, hp, Nat.mul_add, Nat.mul_assoc]
    congr 2
    omega
theorem high_f (l : List Int) (hb : Bytes l) (hl : l.length ≤ 8) (K : Nat) (hK : 9 ≤ K) : frame_high.f K l = some ((valN l : Nat) : Int) := by
  unfold frame_high.f
  have h := high_l0 l hb hl l.length K 0 0 (by omega) (by omega) (by simp)
  simpa using h
theorem shr_nat (U i : Nat) (hi : i ≤ 8) : shr .u64 (U : Int) (8 * (i : Int)) = ((U / 2 ^ (8 * i) : Nat) : Int) := by
  have e0 : min ((8 * (i : Int)).toNat) (IntKind.u64.bits) = 8 * i := by
    have : IntKind.u64.bits = 64 := rfl
    omega
  unfold shr
  rw [e0]
  push_cast
  rfl
theorem lowl_bytes (u : Int) : ∀ n i, Bytes (lowl u n i)
  | 0, i => fun c hc => by simp [lowl] at hc
  | n + 1, i => fun c hc => by
    rw [lowl] at hc
    rcases List.mem_cons.1 hc with rfl | hc
    · exact ⟨Int.emod_nonneg _ (by decide), Int.emod_lt_of_pos _ (by decide)⟩
    · exact lowl_bytes u n (i + 1) c hc
theorem valN_lowl (U : Nat) : ∀ n i, i + n ≤ 8 → valN (lowl (U : Int) n i) = (U / 2 ^ (8 * i)) % 2 ^ (8 * n)
  | 0, i, h => by simp [lowl, valN, Nat.mod_one]
  | n + 1, i, h => by
    rw [lowl, valN, valN_lowl U n (i + 1) (by omega), shr_nat U i (by omega)]
    have e1 : U / 2 ^ (8 * (i + 1)) = U / 2 ^ (8 * i) / 256 := by rw [Nat.div_div_eq_div_mul, show 8 * (i + 1) = 8 * i + 8 by omega, Nat.pow_add]
    have e2 : 2 ^ (8 * (n + 1)) = 256 * 2 ^ (8 * n) := by rw [show 8 * (n + 1) = 8 * n + 8 by omega, Nat.pow_add, Nat.mul_comm]
    rw [e1, e2, Nat.mod_mul]
    congr 1
theorem valN_low4 (U : Nat) (h : U < 4294967296) : valN (lowl (U : Int) 4 0) = U := by
  rw [valN_lowl U 4 0 (by omega)]
  simp
  omega
def wholeP (b : List Int) : Nat :=
  if b.length < 8 then 0 else if 16376 < valN (b.take 4) then 0 else if b.length < 8 + valN (b.take 4) then 0
  else if fnv 2166136261 ((b.drop 8).take (valN (b.take 4))) = ((valN ((b.take 8).drop 4) : Nat) : Int) then 8 + valN (b.take 4) else 0
theorem xor_u32_nat (a b : Nat) (ha : a < 4294967296) (hb : b < 4294967296) : Go.bits .xor .u32 (a : Int) (b : Int) = ((a ^^^ b : Nat) : Int) := by
  show IntKind.u32.wrap ((BitVec.ofInt 32 (a : Int) ^^^ BitVec.ofInt 32 (b : Int)).toNat : Int) = _
  have h1 : (BitVec.ofInt 32 (a : Int) ^^^ BitVec.ofInt 32 (b : Int)).toNat = a ^^^ b := by
    rw [BitVec.toNat_xor, BitVec.toNat_ofInt, BitVec.toNat_ofInt]
    congr 1 <;> omega
  rw [h1]
  have h2 : a ^^^ b < 2 ^ 32 := Nat.xor_lt_two_pow (by omega) (by omega)
  simp [IntKind.wrap, IntKind.bits, IntKind.signed]
  omega
def stepS (s c : Int) : Int := ((Go.bits .xor .u32 s (c % 4294967296)) * 16777619) % 4294967296
theorem stepS_eq (s c : Nat) (hs : s < 4294967296) (hc : c < 256) : stepS (s : Int) (c : Int) = (((s ^^^ c : Nat) : Int) * 16777619) % 4294967296 := by
  unfold stepS
  rw [show ((c : Int) % 4294967296) = (c : Int) by omega, xor_u32_nat s c hs (by omega)]
theorem frameB_parts (l : List Int) (hl : l.length ≤ 16376) : ∃ a b, frameB l = a ++ b ++ l ∧ a = lowl (l.length : Int) 4 0 ∧ b = lowl (fnv 2166136261 l) 4 0 ∧ a.length = 4 ∧ b.length = 4 := by
  refine ⟨_, _, ?_, rfl, rfl, lowl_len _ _ _, lowl_len _ _ _⟩
  unfold frameB
  rw [if_neg (by omega)]
theorem frameB_len (l : List Int) (hl : l.length ≤ 16376) : (frameB l).length = 8 + l.length := by
  obtain ⟨a, b, h, _, _, h1, h2⟩ := frameB_parts l hl
  rw [h]
  simp only [List.length_append]
  omega
theorem frameB_bytes (l : List Int) (hb : Bytes l) : Bytes (frameB l) := by
  unfold frameB
  split
  · exact fun c hc => by simp at hc
  · exact ((lowl_bytes _ _ _).append (lowl_bytes _ _ _)).append hb
theorem take4 (l : List Int) (hl : l.length ≤ 16376) (r : List Int) : valN ((frameB l ++ r).take 4) = l.length := by
  obtain ⟨a, b, h, ha, hb, h1, h2⟩ := frameB_parts l hl
  have e : (frameB l ++ r).take 4 = a := by
    rw [h, List.append_assoc, List.append_assoc, ← h1]
    exact List.take_left
  rw [e, ha]
  exact valN_low4 _ (by omega)
end Go.Proofs.Ytbbhdohjhipalaa.PNoteReads
end
section
namespace Go.Proofs.Ytbbhdohjhipalaa.PNoteReads
open Go.RowKit Go.Proofs.YtbbhdohjhipalaaW.PrintWords Go.Proofs.YtbbhdohjhipalaaW.PrintLast Go.Proofs.YtbbhdohjhipalaaW.PrintMore
open Go.Proofs.Ytbbhdohjhipalaa.Flow
set_option linter.unusedVariables false
set_option linter.unusedSimpArgs false
def I64 (n : Int) : Prop := -9223372036854775808 ≤ n ∧ n ≤ 9223372036854775807
def tn (n : Int) : Nat := if 0 ≤ n then 2 * n.toNat else 2 * (-n - 1).toNat + 1
def bk (u : Nat) : Int := if u % 2 = 0 then ((u / 2 : Nat) : Int) else -((u / 2 : Nat) : Int) - 1
theorem tn_lt {n : Int} (h : I64 n) : tn n < 18446744073709551616 := by
  have h1 := h.1
  have h2 := h.2
  unfold tn
  split <;> omega
theorem bk_tn (n : Int) : bk (tn n) = n := by
  unfold bk tn
  split <;> split <;> omega
theorem tn_bk (u : Nat) : tn (bk u) = u := by
  unfold bk tn
  split <;> split <;> omega
theorem bk_range {u : Nat} (h : u < 18446744073709551616) : I64 (bk u) := by
  unfold bk I64
  split <;> omega
theorem xor_ones64 (x : Nat) (hx : x < 18446744073709551616) : Go.bits .xor .u64 (x : Int) 18446744073709551615 = ((18446744073709551615 - x : Nat) : Int) := by
  show IntKind.u64.wrap ((BitVec.ofInt 64 (x : Int) ^^^ BitVec.ofInt 64 18446744073709551615).toNat : Int) = _
  have h3 : BitVec.ofInt 64 18446744073709551615 = BitVec.allOnes 64 := by decide
  rw [h3, BitVec.xor_allOnes, BitVec.toNat_not, BitVec.toNat_ofInt]
  rw [u64_wrap]
  omega
theorem xor_zero64 (x : Nat) (hx : x < 18446744073709551616) : Go.bits .xor .u64 (x : Int) 0 = (x : Int) := by
  have h := bits_xor_u64_nat x 0 hx (by omega)
  rw [Nat.xor_zero] at h
  exact h
theorem turned_f (n : Int) (h : I64 n) : frame_turned.f n = some ((tn n : Nat) : Int) := by
  have h1 := h.1
  have h2 := h.2
  unfold frame_turned.f
  congr 1
  by_cases h0 : 0 ≤ n
  · have e1 : n / 9223372036854775808 = 0 := by omega
    have e2 : IntKind.u64.wrap (IntKind.u64.wrap n * 2) = ((tn n : Nat) : Int) := by
      rw [u64_wrap, u64_wrap]
      unfold tn
      rw [if_pos h0]
      omega
    rw [e1, e2, show IntKind.u64.wrap 0 = 0 from rfl]
    exact xor_zero64 _ (tn_lt h)
  · have e1 : n / 9223372036854775808 = -1 := by omega
    obtain ⟨x, hx⟩ : ∃ x : Nat, x = 18446744073709551615 - tn n := ⟨_, rfl⟩
    have ht : tn n = 2 * (-n - 1).toNat + 1 := by unfold tn; rw [if_neg h0]
    have e2 : IntKind.u64.wrap (IntKind.u64.wrap n * 2) = (x : Int) := by
      rw [u64_wrap, u64_wrap]
      omega
    rw [e1, e2, show IntKind.u64.wrap (-1) = 18446744073709551615 by rw [u64_wrap]; decide, xor_ones64 x (by omega)]
    omega
theorem xor_i64_ones (x : Nat) (hx : x < 9223372036854775808) : Go.bits .xor .i64 (x : Int) (-1) = -(x : Int) - 1 := by
  show IntKind.i64.wrap ((BitVec.ofInt 64 (x : Int) ^^^ BitVec.ofInt 64 (-1)).toNat : Int) = _
  have h3 : BitVec.ofInt 64 (-1) = BitVec.allOnes 64 := by decide
  rw [h3, BitVec.xor_allOnes, BitVec.toNat_not, BitVec.toNat_ofInt]
  simp [IntKind.wrap, IntKind.bits, IntKind.signed]
  omega
theorem xor_i64_zero (x : Nat) (hx : x < 9223372036854775808) : Go.bits .xor .i64 (x : Int) 0 = (x : Int) := by
  show IntKind.i64.wrap ((BitVec.ofInt 64 (x : Int) ^^^ BitVec.ofInt 64 0).toNat : Int) = _
  have h3 : BitVec.ofInt 64 0 = 0#64 := by decide
  rw [h3, BitVec.xor_zero, BitVec.toNat_ofInt]
  simp [IntKind.wrap, IntKind.bits, IntKind.signed]
  omega
theorem back_f (u : Nat) (hu : u < 18446744073709551616) : frame_back.f (u : Int) = some (bk u) := by
  unfold frame_back.f
  congr 1
  have e1 : Go.bits .and .u64 (u : Int) 1 = ((u % 2 : Nat) : Int) := by
    have h := bits_and_u64_nat u 1 hu (by omega)
    rw [Nat.and_one_is_mod] at h
    exact h
  have e2 : wrap64 ((u : Int) / 2) = ((u / 2 : Nat) : Int) := by rw [wrap_id (x := (u : Int) / 2) (by omega) (by omega)]; omega
  rw [e1, e2]
  unfold bk
  by_cases h : u % 2 = 0
  · rw [if_pos h, h]
    rw [show wrap64 (-(wrap64 ((0 : Nat) : Int))) = 0 by unfold wrap64; omega]
    exact xor_i64_zero (u / 2) (by omega)
  · rw [if_neg h, show u % 2 = 1 by omega]
    rw [show wrap64 (-(wrap64 ((1 : Nat) : Int))) = -1 by unfold wrap64; omega]
    exact xor_i64_ones (u / 2) (by omega)
def szN (u : Nat) : Nat := (blen u + 7) / 8
def numB (n : Int) : List Int := ((szN (tn n) : Nat) : Int) :: lowl ((tn n : Nat) : Int) (szN (tn n)) 0
def PB (ys : List Int) : List Int := (ys.map numB).flatten
theorem szN_le {u : Nat} (h : u < 18446744073709551616) : szN u ≤ 8 := by
  have h1 : blen u ≤ 64 := blen_le u 64 h
  unfold szN
  omega
theorem numB_len (n : Int) : (numB n).length = 1 + szN (tn n) := by
  unfold numB
  rw [List.length_cons, lowl_len]
  omega
theorem numB_bytes (n : Int) (h : I64 n) : Bytes (numB n) := fun c hc => by
  have h1 := szN_le (tn_lt h)
  unfold numB at hc
  rcases List.mem_cons.1 hc with rfl | hc
  · omega
  · exact lowl_bytes _ _ _ c hc
theorem PB_len (ys : List Int) (h : ∀ y ∈ ys, I64 y) : (PB ys).length ≤ 9 * ys.length := by
  induction ys with
  | nil => simp [PB]
  | cons y ys ih =>
    have h1 := szN_le (tn_lt (h y (by simp)))
    have h2 := numB_len y
    have h3 := ih (fun x hx => h x (List.mem_cons_of_mem _ hx))
    simp only [PB, List.map_cons, List.flatten_cons, List.length_append, List.length_cons] at h3 ⊢
    omega
theorem PB_bytes (ys : List Int) (h : ∀ y ∈ ys, I64 y) : Bytes (PB ys) := by
  induction ys with
  | nil => exact fun c hc => by simp [PB] at hc
  | cons y ys ih => exact (numB_bytes y (h y (by simp))).append (ih (fun x hx => h x (List.mem_cons_of_mem _ hx)))
theorem len_f (k u : Nat) (h : u < 18446744073709551616) : bits_Len64.f k (u : Int) = some ((blen u : Nat) : Int) := by
  unfold bits_Len64.f
  rw [if_pos (by omega), Int.toNat_natCast]
theorem size_w (u : Nat) (h : u < 18446744073709551616) : wrap64 (Int.tdiv (wrap64 (((blen u : Nat) : Int) + 7)) 8) = ((szN u : Nat) : Int) := by
  have hb : blen u ≤ 64 := blen_le _ 64 h
  rw [wrap_id (x := ((blen u : Nat) : Int) + 7) (by omega) (by omega), Int.tdiv_eq_ediv_of_nonneg (by omega)]
  unfold szN
  rw [wrap_id (by omega) (by omega)]
  omega
theorem put_step (ys : List Int) (i k : Nat) (x : List Int) (hk : 9 ≤ k) (hlt : i < ys.length) (hr : I64 ys[i]) (hl : ys.length ≤ 9223372036854775806) (hx : x.length ≤ 100000000) : frame_put.l0 (k + 1) x ys (ys.length : Int) (i : Int) = frame_put.l0 k (x ++ numB ys[i]) ys (ys.length : Int) ((i + 1 : Nat) : Int) := by
  have ht := tn_lt hr
  have hs := szN_le ht
  have e2 : wrap64 ((i : Int) + 1) = ((i + 1 : Nat) : Int) := wrap_id (by omega) (by omega)
  rw [frame_put.l0, if_pos (by omega), if_pos (by omega), if_pos (by omega), rd_at ys i hlt, turned_f _ hr, Option.bind_some, len_f k _ ht, Option.bind_some, if_pos (by omega), size_w _ ht, show ((szN (tn ys[i]) : Nat) : Int) % 256 = ((szN (tn ys[i]) : Nat) : Int) by omega]
  rw [low_f k _ _ (szN (tn ys[i])) hs (by omega) (by simp; omega), Option.bind_some, e2]
  simp only [numB, List.append_assoc, List.singleton_append]
theorem put_l0 (ys : List Int) (hy : ∀ y ∈ ys, I64 y) (hl : ys.length ≤ 9223372036854775806) : ∀ (m K i : Nat) (x : List Int), m + 12 ≤ K → i + m = ys.length → x.length + 9 * m ≤ 100000000 → frame_put.l0 K x ys (ys.length : Int) (i : Int) = some (x ++ PB (ys.drop i)) := by
  intro m
  induction m with
  | zero =>
    intro K i x hK hi hx
    obtain ⟨k, rfl⟩ : ∃ k, K = k + 1 := ⟨K - 1, by omega⟩
    rw [frame_put.l0, if_neg (by omega), List.drop_of_length_le (by omega)]
    simp [PB]
  | succ m ih =>
    intro K i x hK hi hx
    obtain ⟨k, rfl⟩ : ∃ k, K = k + 1 := ⟨K - 1, by omega⟩
    have hlt : i < ys.length := by omega
    have hr := hy ys[i] (List.getElem_mem hlt)
    have hn := numB_len ys[i]
    have hs := szN_le (tn_lt hr)
    rw [put_step ys i k x (by omega) hlt hr hl (by omega), ih k (i + 1) _ (by omega) (by omega) (by rw [List.length_append]; omega)]
    rw [List.drop_eq_getElem_cons hlt]
    simp only [PB, List.map_cons, List.flatten_cons, List.append_assoc]
def takeP (b : List Int) : Int × Nat :=
  if b.length = 0 then (0, 0) else if 8 < rd b 0 then (0, 0) else if (b.length : Int) - 1 < rd b 0 then (0, 0)
  else if 0 < rd b 0 ∧ rd b (rd b 0) = 0 then (0, 0) else (bk (valN ((b.take (1 + (rd b 0).toNat)).drop 1)), 1 + (rd b 0).toNat)
theorem rd_range {b : List Int} (hb : Bytes b) (i : Nat) (h : i < b.length) : 0 ≤ rd b (i : Int) ∧ rd b (i : Int) < 256 := by
  rw [rd_at b i h]
  exact hb _ (List.getElem_mem h)
theorem top_byte (u : Nat) (hu : u < 18446744073709551616) (h : 0 < szN u) : (u / 2 ^ (8 * (szN u - 1))) % 256 ≠ 0 := by
  have h0 : u ≠ 0 := fun h1 => by
    rw [h1] at h
    simp [szN, blen] at h
  have h1 := blen_ge u h0
  have h2 := blen_lt u
  have h3 : 8 * (szN u - 1) ≤ blen u - 1 := by unfold szN at h ⊢; omega
  have h4 : blen u ≤ 8 * (szN u - 1) + 8 := by unfold szN at h ⊢; omega
  have h5 : 2 ^ (8 * (szN u - 1)) ≤ u := Nat.le_trans (Nat.pow_le_pow_right (by omega) h3) h1
  have h6 : u < 2 ^ (8 * (szN u - 1)) * 256 := by
    have : u < 2 ^ (8 * (szN u - 1) + 8) := Nat.lt_of_lt_of_le h2 (Nat.pow_le_pow_right (by omega) h4)
    rwa [Nat.pow_add] at this
  have hp : 0 < 2 ^ (8 * (szN u - 1)) := Nat.pow_pos (by omega)
  have h7 : u / 2 ^ (8 * (szN u - 1)) < 256 := Nat.div_lt_of_lt_mul h6
  have h8 : 0 < u / 2 ^ (8 * (szN u - 1)) := Nat.div_pos h5 hp
  rw [Nat.mod_eq_of_lt h7]
  omega
theorem lowl_get (u : Nat) : ∀ (n i j : Nat) (h : j < n), i + n ≤ 8 → (lowl (u : Int) n i)[j]? = some (((u / 2 ^ (8 * (i + j))) % 256 : Nat) : Int)
  | n + 1, i, 0, h, hi => by
    rw [lowl, shr_nat u i (by omega)]
    simp
  | n + 1, i, j + 1, h, hi => by
    rw [lowl, List.getElem?_cons_succ, lowl_get u n (i + 1) j (by omega) (by omega)]
    rw [show i + 1 + j = i + (j + 1) by omega]
theorem take_num (n : Int) (hn : I64 n) (r : List Int) : takeP (numB n ++ r) = (n, 1 + szN (tn n)) := by
  have ht := tn_lt hn
  have hs := szN_le ht
  have hlen := numB_len n
  have e0 : rd (numB n ++ r) 0 = ((szN (tn n) : Nat) : Int) := by
    have := rd_at (numB n ++ r) 0 (by rw [List.length_append]; omega)
    rw [show ((0 : Nat) : Int) = 0 from rfl] at this
    rw [this]
    simp [numB]
  unfold takeP
  rw [e0, List.length_append, if_neg (by omega), if_neg (by omega), if_neg (by omega), if_neg]
  · have e1 : (((szN (tn n) : Nat) : Int)).toNat = szN (tn n) := by omega
    have e2 : ((numB n ++ r).take (1 + szN (tn n))).drop 1 = lowl ((tn n : Nat) : Int) (szN (tn n)) 0 := by
      rw [← hlen, List.take_left]
      simp [numB]
    rw [e1, e2, valN_lowl (tn n) _ 0 (by omega)]
    simp only [Nat.mul_zero, Nat.pow_zero, Nat.div_one]
    have h3 : tn n < 2 ^ (8 * szN (tn n)) := Nat.lt_of_lt_of_le (blen_lt _) (Nat.pow_le_pow_right (by omega) (by unfold szN; omega))
    rw [Nat.mod_eq_of_lt h3, bk_tn]
  · rintro ⟨h1, h2⟩
    have h3 : 0 < szN (tn n) := by omega
    have h4 := lowl_get (tn n) (szN (tn n)) 0 (szN (tn n) - 1) (by omega) (by omega)
    have h5 : (numB n ++ r)[szN (tn n)]? = some (((tn n / 2 ^ (8 * (0 + (szN (tn n) - 1)))) % 256 : Nat) : Int) := by
      rw [List.getElem?_append_left (by omega)]
      unfold numB
      rw [show szN (tn n) = (szN (tn n) - 1) + 1 by omega, List.getElem?_cons_succ, ← show szN (tn n) = (szN (tn n) - 1) + 1 by omega]
      exact h4
    rw [rd_at _ _ (by rw [List.length_append]; omega)] at h2
    rw [List.getElem?_eq_getElem (by rw [List.length_append]; omega), h2] at h5
    have h6 := top_byte (tn n) ht h3
    rw [show 0 + (szN (tn n) - 1) = szN (tn n) - 1 by omega] at h5
    have h7 := Option.some.inj h5
    omega
theorem valN_append (l m : List Int) : valN (l ++ m) = valN l + 2 ^ (8 * l.length) * valN m := by
  induction l with
  | nil => simp [valN]
  | cons c l ih =>
    have e : 2 ^ (8 * (c :: l).length) = 2 ^ (8 * l.length) * 256 := by rw [List.length_cons, show 8 * (l.length + 1) = 8 * l.length + 8 by omega, Nat.pow_add]
    rw [List.cons_append, valN, valN, ih, e, Nat.mul_add, Nat.mul_left_comm 256, Nat.mul_assoc (2 ^ (8 * l.length)), Nat.add_assoc]
theorem szN_of {u z : Nat} (hz : z ≤ 8) (h1 : u < 2 ^ (8 * z)) (h2 : 0 < z → 2 ^ (8 * (z - 1)) ≤ u) : szN u = z := by
  rcases Nat.eq_zero_or_pos z with h0 | h0
  · subst h0
    have : u = 0 := by simpa using h1
    subst this
    rfl
  · have h3 := h2 h0
    have h4 : blen u ≤ 8 * z := blen_le u _ h1
    have h5 : 8 * (z - 1) < blen u := by
      rcases Nat.lt_or_ge (8 * (z - 1)) (blen u) with h | h
      · exact h
      · have h6 := blen_lt u
        have h7 : 2 ^ blen u ≤ 2 ^ (8 * (z - 1)) := Nat.pow_le_pow_right (by omega) h
        omega
    unfold szN
    omega
theorem take_back (b : List Int) (hb : Bytes b) (h : (takeP b).2 ≠ 0) : numB (takeP b).1 ++ b.drop (takeP b).2 = b ∧ I64 (takeP b).1 ∧ (takeP b).2 ≤ b.length ∧ (takeP b).2 ≤ 9 := by
  unfold takeP at h ⊢
  by_cases c1 : b.length = 0
  · rw [if_pos c1] at h
    exact absurd rfl h
  rw [if_neg c1] at h ⊢
  by_cases c2 : 8 < rd b 0
  · rw [if_pos c2] at h
    exact absurd rfl h
  rw [if_neg c2] at h ⊢
  by_cases c3 : (b.length : Int) - 1 < rd b 0
  · rw [if_pos c3] at h
    exact absurd rfl h
  rw [if_neg c3] at h ⊢
  by_cases c4 : 0 < rd b 0 ∧ rd b (rd b 0) = 0
  · rw [if_pos c4] at h
    exact absurd rfl h
  rw [if_neg c4] at h ⊢
  have hr0 := rd_range hb 0 (by omega)
  rw [show ((0 : Nat) : Int) = 0 from rfl] at hr0
  obtain ⟨z, hz⟩ : ∃ z : Nat, rd b 0 = (z : Int) := ⟨(rd b 0).toNat, by omega⟩
  have hzn : (rd b 0).toNat = z := by omega
  rw [hzn]
  simp only
  rw [hz] at c2 c3 c4
  have hzl : 1 + z ≤ b.length := by omega
  obtain ⟨L, hL⟩ : ∃ L, L = (b.take (1 + z)).drop 1 := ⟨_, rfl⟩
  have hLl : L.length = z := by rw [hL, List.length_drop, List.length_take]; omega
  have hLb : Bytes L := by rw [hL]; exact (hb.take _).drop _
  have hu := valN_lt L hLb
  rw [hLl] at hu
  have hu64 : valN L < 18446744073709551616 := Nat.lt_of_lt_of_le hu (by have h9 : 2 ^ (8 * z) ≤ 2 ^ 64 := Nat.pow_le_pow_right (by omega) (by omega); exact h9)
  have hsz : szN (valN L) = z := by
    refine szN_of (by omega) hu (fun hz0 => ?_)
    have hne : ¬ rd b ((z : Nat) : Int) = 0 := fun h0 => c4 ⟨by omega, h0⟩
    rw [rd_at b z (by omega)] at hne
    have hr := hb b[z] (List.getElem_mem (by omega))
    have hsp : L = L.take (z - 1) ++ [b[z]] := by
      have h1 : L = L.take (z - 1) ++ L.drop (z - 1) := (List.take_append_drop _ _).symm
      have h2 : L.drop (z - 1) = [b[z]] := by
        rw [List.drop_eq_getElem_cons (by omega), List.drop_of_length_le (by omega)]
        congr 1
        subst hL
        rw [List.getElem_drop, List.getElem_take]
        congr 1
        omega
      rw [h2] at h1
      exact h1
    have hlt : (L.take (z - 1)).length = z - 1 := by rw [List.length_take]; omega
    rw [hsp, valN_append, hlt, valN, valN]
    have h3 : 2 ^ (8 * (z - 1)) * 1 ≤ 2 ^ (8 * (z - 1)) * (b[z].toNat + 256 * 0) := Nat.mul_le_mul_left _ (by omega)
    omega
  rw [← hL]
  have hnum : numB (bk (valN L)) = (z : Int) :: L := by
    unfold numB
    rw [tn_bk, hsz]
    congr 1
    refine valN_inj _ _ (lowl_bytes _ _ _) hLb (by rw [lowl_len, hLl]) ?_
    rw [valN_lowl _ _ 0 (by omega)]
    simp only [Nat.mul_zero, Nat.pow_zero, Nat.div_one]
    exact Nat.mod_eq_of_lt hu
  refine ⟨?_, bk_range hu64, hzl, by omega⟩
  rw [hnum, hL]
  have h1 : b = b.take (1 + z) ++ b.drop (1 + z) := (List.take_append_drop _ _).symm
  have h2 : b.take (1 + z) = (z : Int) :: (b.take (1 + z)).drop 1 := by
    have h3 : 0 < (b.take (1 + z)).length := by rw [List.length_take]; omega
    have h4 := List.drop_eq_getElem_cons h3
    rw [List.drop_zero] at h4
    rw [show 0 + 1 = 1 by rfl] at h4
    rw [List.getElem_take] at h4
    have h5 : b[0] = (z : Int) := by
      have := rd_at b 0 (by omega)
      rw [show ((0 : Nat) : Int) = 0 from rfl, hz] at this
      exact this.symm
    rw [h5] at h4
    exact h4
  rw [← h2]
  exact h1.symm
end Go.Proofs.Ytbbhdohjhipalaa.PNoteReads
end
section
namespace Go.Proofs.Ytbbhdohjhipalaa.PNoteReads
open Go.RowKit Go.Proofs.YtbbhdohjhipalaaW.PrintWords Go.Proofs.YtbbhdohjhipalaaW.PrintLast Go.Proofs.YtbbhdohjhipalaaW.PrintMore
open Go.Proofs.Ytbbhdohjhipalaa.Flow
set_option linter.unusedVariables false
set_option linter.unusedSimpArgs false
set_option maxHeartbeats 4000000 in
theorem clone_calls (w : World) (A : Option Addr) (n c : Nat) (xs : List Int) (hC : (Kd.int .u8).C w A n xs) (hl : n ≤ 140737488355328) :
  Calls Try.prog 49 #[.slice A n c] w fun e w' => ∃ A' n' c', e = .returned (.slice A' n' c') ∧ Own .u8 5 w' w.heap.size w.heap.size A' n' c' xs ∧ Below w.heap.size w w' := by
 refine calls_flow Try.func49 rfl 8 rfl (Nat.le_of_ble_eq_true rfl) [(0, .slice A n c)] ?_ ?_
 ·
  intro t v h; exact args_look rfl t v h
 refine wsr ?_
 refine rv (.slice none 0 0) ?_
 refine rw_end ?_
 refine w_seq ?_
 refine wsr ?_
 refine rv (.slice A n c) ?_
 refine rz (.bool A.isNone) (run_as (run_nil_eql (P := Try.prog) (e := 5) (by kernel_rfl) _ _ _ _)) ?_
 refine rw_end ?_
 refine w_cond rfl rfl (fun cN => ?_) (fun cN => ?_)
 ·
  refine wsr ?_
  refine rv (.slice none 0 0) ?_
  refine rw_end ?_
  refine w_ret (post_ret1 rfl rfl ?_)
  have hn_ : xs = [] := by
   have h1_ := hC.1
   have h2_ := hC.2.2
   rcases n with _ | n
   ·
    exact List.eq_nil_of_length_eq_zero h1_
   ·
    obtain ⟨ad, h3_, _⟩ := h2_ (by omega)
    rw [h3_] at cN
    exact absurd cN (by simp)
  subst hn_
  exact ⟨_, _, _, rfl, Own.nil _ _ _ _ _, (Below.refl _ _)⟩
 ·
  refine w_skip ?_
  refine wsr ?_
  refine rw_new (cs := #[]) (t := 5) (fun g => .slice (some ⟨g, 0, none⟩) 0 0) rfl rfl rfl rfl (by kernel_rfl) ?_
  intro g1 w2 hg6 hz5 hb3 hk4
  have hs_w2 := hb3.size
  have hO7 : Own .u8 5 w2 w.heap.size g1 (some ⟨g1, 0, none⟩) 0 0 [] := own_blk w.heap.size hk4 (by omega) rfl (by simp) (by omega) (Nums.nil _ _)
  refine rv (.slice A n c) ?_
  refine rw_append_row .u8 w.heap.size rfl rfl rfl (.tmp 5) (.tmp 6) rfl rfl 30 5 1 rfl (by kernel_rfl) info5 (by decide) (b := g1) rfl rfl (by omega) (hO7.on (Below.refl _ _)) (Kd.C_below hC hb3) hb3 (by omega) (by simp; omega) ?_
  intro A8 n9 c10 w11 hn12 hO13 hB14 hG15
  have hs_w11 := hB14.size
  have hgs_w11 := hG15.size
  refine rv (.slice A8 n9 c10) ?_
  refine rw_end ?_
  refine w_ret (post_ret1 rfl rfl ?_)
  exact ⟨_, _, _, rfl, by simpa using ((hO13.on (Below.refl _ _)).mono (by omega) : Own .u8 5 w11 w.heap.size w.heap.size _ _ _ _), hB14⟩
set_option maxHeartbeats 4000000 in
theorem wrap_calls (w : World) (A0 : Option Addr) (c0 : Nat) (ps : List (List Int)) (hP : (Kd.slice 5 (Kd.int .u8)).C w A0 ps.length ps) (hc0 : ps.length ≤ c0) (hn : ps.length ≤ 1000000) (hall : ∀ p ∈ ps, p.length ≤ 140737488355328) :
  Calls Try.prog 27 #[.slice A0 ps.length c0] w fun e w' => ∃ A' n' c', e = .returned (.tuple #[.slice A' n' c', errW (frameE ps.flatten)]) ∧ Own .u8 5 w' w.heap.size w.heap.size A' n' c' (frameB ps.flatten) ∧ Below w.heap.size w w' := by
 refine calls_flow Try.func27 rfl 46 rfl (Nat.le_of_ble_eq_true rfl) [(0, .slice A0 ps.length c0)] ?_ ?_
 ·
  intro t v h; exact args_look rfl t v h
 refine wsr ?_
 refine rv (.slice none 0 0) ?_
 refine rv .nilIface ?_
 refine rw_end ?_
 refine wsr ?_
 refine rv (.int .i64 0) ?_
 refine rw_end ?_
 refine w_seq ?_
 refine wsr ?_
 refine rv (.slice A0 ps.length c0) ?_
 refine rs2 (.int .i64 (ps.length : Int)) ?_
 refine rv (.int .i64 0) ?_
 refine rw_end ?_
 refine w_block ?_
 refine w_loop (fun m G W_ => ∃ i : Nat, i + m = ps.length ∧ (ps.take i).flatten.length ≤ 16376 ∧ w = W_ ∧ G = [(0, .slice A0 ps.length c0), (2, .slice none 0 0), (3, .nilIface), (4, .int .i64 ((ps.take i).flatten.length : Int)), (10, .slice A0 ps.length c0), (11, .int .i64 (ps.length : Int)), (12, .int .i64 (i : Int))]) ps.length [(0, .slice A0 ps.length c0), (2, .slice none 0 0), (3, .nilIface), (4, .int .i64 0), (10, .slice A0 ps.length c0), (11, .int .i64 (ps.length : Int)), (12, .int .i64 0)] ⟨0, by omega, by simp, rfl, rfl⟩ ⟨rfl, rfl, rfl, rfl, rfl, rfl, rfl, trivial⟩ ?_
 rintro m G w_ ⟨i, him, hfl, rfl, rfl⟩
 refine wsr ?_
 refine rs2 (.bool (decide ((i : Int) < (ps.length : Int)))) ?_
 refine rw_end ?_
 refine w_seq ?_
 refine w_cond rfl rfl (fun cL => ?_) (fun cL => ?_)
 ·
  refine w_skip ?_
  refine w_seq ?_
  refine w_block ?_
  refine wsr ?_
  have l_ := of_decide_eq_true cL
  obtain ⟨ad, A1, c1, hA_, hcell_, hle_, hC_⟩ := at_L1 (Kd.C_below hP (Below.refl _ _)) (i : Int) (by omega) (by omega)
  subst hA_
  rw [show ((i : Int)).toNat = i by omega] at hcell_
  have hpl_ := hall _ (rd_L1_mem ps i (by omega))
  have htl_ := take_len ps i (by omega)
  have hfl3_ := take_le ps (i + 1)
  refine rz (.pointer (some (ad.add i))) (by simp [go_sem, sEv, sLook, nbeq, i64_w, -List.length_flatten, Try.underlying100]; omega) ?_
  refine rz (.slice A1 ((rd_L1 ps (i : Int)).length) c1) (by simp [go_sem, sEv, sLook, nbeq, i64_w, -List.length_flatten, hcell_]) ?_
  refine rv (.slice A1 ((rd_L1 ps (i : Int)).length) c1) ?_
  refine rw_end ?_
  refine wsr ?_
  refine rv (.int .i64 ((ps.take i).flatten.length : Int)) ?_
  refine rv (.slice A1 ((rd_L1 ps (i : Int)).length) c1) ?_
  refine rs2 (.int .i64 ((rd_L1 ps (i : Int)).length : Int)) ?_
  refine rz (.int .i64 ((ps.take (i + 1)).flatten.length : Int)) (by simp [go_sem, sEv, sLook, nbeq, i64_w, -List.length_flatten]; rw [htl_, ← Int.natCast_add]; exact wrap_id (by omega) (by omega)) ?_
  refine rv (.int .i64 ((ps.take (i + 1)).flatten.length : Int)) ?_
  refine rw_end ?_
  refine wsr ?_
  refine rv (.int .i64 ((ps.take (i + 1)).flatten.length : Int)) ?_
  refine rs2 (.bool (decide (16376 < ((ps.take (i + 1)).flatten.length : Int)))) ?_
  refine rw_end ?_
  refine w_cond rfl rfl (fun cF => ?_) (fun cF => ?_)
  ·
   refine wsr ?_
   refine rz (errW (some 7)) (by simp [go_sem, sEv, sLook, nbeq, i64_w, -List.length_flatten, errW_some]) ?_
   refine rv (.slice none 0 0) ?_
   refine rv (errW (some 7)) ?_
   refine rw_end ?_
   refine w_ret (post_ret2 rfl rfl rfl ?_)
   have f_ := of_decide_eq_true cF
   have t_ := take_le ps (i + 1)
   have hf_ : 16376 < ps.flatten.length := by omega
   rw [frameB, frameE, if_pos hf_, if_pos hf_]
   exact ⟨_, _, _, rfl, Own.nil _ _ _ _ _, (Below.refl _ _)⟩
  ·
   refine w_skip ?_
   refine w_blk ?_
   refine w_region ?_
   refine rz (.int .i64 ((i + 1 : Nat) : Int)) (by simp [go_sem, sEv, sLook, nbeq, i64_w, -List.length_flatten]; have l_ := of_decide_eq_true cL; exact wrap_id (by omega) (by omega)) ?_
   refine rv (.int .i64 ((i + 1 : Nat) : Int)) ?_
   refine rw_end ?_
   have l_ := of_decide_eq_true cL
   have f_ := of_decide_eq_false cF
   exact w_back (m - 1) [(0, .slice (some ad) ps.length c0), (2, .slice none 0 0), (3, .nilIface), (4, .int .i64 ((ps.take (i + 1)).flatten.length : Int)), (10, .slice (some ad) ps.length c0), (11, .int .i64 (ps.length : Int)), (12, .int .i64 ((i + 1 : Nat) : Int))] (by omega) ⟨rfl, rfl, rfl, rfl, rfl, rfl, rfl, trivial⟩ ⟨i + 1, by omega, by omega, rfl, rfl⟩
 ·
  refine w_exit rfl ?_
  refine wsr ?_
  have l0_ := of_decide_eq_false cL
  obtain rfl : i = ps.length := by omega
  rw [List.take_length] at hfl
  rw [List.take_length]
  refine rv (.int .i64 (ps.flatten.length : Int)) ?_
  refine rz (.int .i64 ((8 + ps.flatten.length : Nat) : Int)) (by simp [go_sem, sEv, sLook, nbeq, i64_w, -List.length_flatten]; rw [show (8 : Int) + (ps.flatten.length : Int) = ((8 + ps.flatten.length : Nat) : Int) by omega]; exact wrap_id (by omega) (by omega)) ?_
  obtain ⟨i5_, hi5_, hz5_⟩ := Option.map_eq_some_iff.1 info5
  simp only [Prod.mk.injEq] at hz5_
  have hmk_ := run_makeSlice (P := Try.prog) w 30 5 i5_ (.int .u8 0) (by kernel_rfl) hi5_ hz5_.1 .i64 .i64 0 ((8 + ps.flatten.length : Nat) : Int) (by omega) (by omega) (by rw [hz5_.2.1]; omega) (by rw [hz5_.2.2]; omega) (by omega)
  simp only [Int.toNat_zero, Int.toNat_natCast, hz5_.2.1, Nat.mul_one] at hmk_
  refine rw_new (cs := madeCells (Value.int .u8 0).cells (8 + ps.flatten.length)) (t := 5) (fun g => .slice (some ⟨g, 0, none⟩) 0 (8 + ps.flatten.length)) rfl rfl rfl rfl (run_as hmk_) ?_
  intro g1 w2 hg6 hz5 hb3 hk4
  have hs_w2 := hb3.size
  have hO7 : Own .u8 5 w2 w.heap.size g1 (some ⟨g1, 0, none⟩) 0 (8 + ps.flatten.length) [] := own_blk w.heap.size hk4 (by omega) (size_madeCells _ _) (by simp) (by omega) (Nums.nil _ _)
  refine rv (.int .i64 (ps.flatten.length : Int)) ?_
  refine rz (.int .u64 (ps.flatten.length : Int)) (by simp [go_sem, sEv, sLook, nbeq, i64_w, -List.length_flatten]; rw [u64_wrap]; omega) ?_
  refine rw_call rfl rfl rfl rfl (f := 46) (args := #[.slice (some ⟨g1, 0, none⟩) 0 (8 + ps.flatten.length), .int .u64 (ps.flatten.length : Int), .int .i64 4]) (by simp [go_sem, sEv, sLook, nbeq, i64_w, -List.length_flatten]) (frame_low.calls 5 (fun q => w.heap.size ≤ q) _ [] (ps.flatten.length : Int) 4 _ w w2 hb3 (Own.mono (hO7.on (Below.refl _ _)) (by omega)) (low_f 5 _ _ 4 (by omega) (by omega) (by simp [lowl_len]))) ?_
  rintro e_ w10 ⟨_, rfl, hR11, hB12, hK13⟩
  refine ⟨_, rfl, ?_⟩
  have hs_w10 := hB12.size
  have hgs_w10 := hK13.1
  obtain ⟨A8, c9, rfl, hle15, hR16⟩ := R_shape hR11
  have hO14 : Own .u8 5 w10 w.heap.size w.heap.size A8 ([] ++ lowl (ps.flatten.length : Int) 4 0).length c9 ([] ++ lowl (ps.flatten.length : Int) 4 0) := Kd.R_mono hR16 (fun q hq => hq.elim id (fun h => by omega))
  refine rv (.slice A8 (([] ++ lowl (ps.flatten.length : Int) 4 0).length) c9) ?_
  refine rw_end ?_
  refine wsr ?_
  refine rv (.slice A8 (([] ++ lowl (ps.flatten.length : Int) 4 0).length) c9) ?_
  refine rv (.slice A0 ps.length c0) ?_
  refine rw_call rfl rfl rfl rfl (f := 47) (args := #[.slice A0 ps.length c0]) (by simp [go_sem, sEv, sLook, nbeq, i64_w, -List.length_flatten]) (frame_Sum.calls (2 * ps.length + 1 + ps.flatten.length) A0 c0 ps _ w10 (Kd.C_below hP hB12) hc0 (sum_f ps (by omega) (fun p hp => by have := hall p hp; omega) _ (Nat.le_refl _))) ?_
  rintro e_ w17 ⟨rfl, hb18_⟩
  refine ⟨_, rfl, ?_⟩
  have hb18 := hb18_.below
  have hs_w17 := hb18.size
  refine rz (.int .u64 (fnv 2166136261 ps.flatten)) (by simp [go_sem, sEv, sLook, nbeq, i64_w, -List.length_flatten]; rw [u64_wrap]; have := fnv_range ps.flatten 2166136261 (by omega); omega) ?_
  refine rw_call rfl rfl rfl rfl (f := 46) (args := #[.slice A8 (([] ++ lowl (ps.flatten.length : Int) 4 0).length) c9, .int .u64 (fnv 2166136261 ps.flatten), .int .i64 4]) (by simp [go_sem, sEv, sLook, nbeq, i64_w, -List.length_flatten]) (frame_low.calls 5 (fun q => w.heap.size ≤ q) _ ([] ++ lowl (ps.flatten.length : Int) 4 0) (fnv 2166136261 ps.flatten) 4 _ w w17 (chain hB12 hb18) (Own.mono (hO14.on hb18) (by omega)) (low_f 5 _ _ 4 (by omega) (by omega) (by simp [lowl_len]))) ?_
  rintro e_ w21 ⟨_, rfl, hR22, hB23, hK24⟩
  refine ⟨_, rfl, ?_⟩
  have hs_w21 := hB23.size
  have hgs_w21 := hK24.1
  obtain ⟨A19, c20, rfl, hle26, hR27⟩ := R_shape hR22
  have hO25 : Own .u8 5 w21 w.heap.size w.heap.size A19 (([] ++ lowl (ps.flatten.length : Int) 4 0) ++ lowl (fnv 2166136261 ps.flatten) 4 0).length c20 (([] ++ lowl (ps.flatten.length : Int) 4 0) ++ lowl (fnv 2166136261 ps.flatten) 4 0) := Kd.R_mono hR27 (fun q hq => hq.elim id (fun h => by omega))
  refine rv (.slice A19 ((([] ++ lowl (ps.flatten.length : Int) 4 0) ++ lowl (fnv 2166136261 ps.flatten) 4 0).length) c20) ?_
  refine rw_end ?_
  refine w_seq ?_
  refine wsr ?_
  refine rv (.slice A0 ps.length c0) ?_
  refine rs2 (.int .i64 (ps.length : Int)) ?_
  refine rv (.int .i64 0) ?_
  refine rw_end ?_
  refine w_block ?_
  refine w_loop (fun m G W_ => ∃ (i : Nat) (A7 : Option Addr) (n7 c7 : Nat), i + m = ps.length ∧ Own .u8 5 W_ w.heap.size w.heap.size A7 n7 c7 ((([] ++ lowl (ps.flatten.length : Int) 4 0) ++ lowl (fnv 2166136261 ps.flatten) 4 0) ++ (ps.take i).flatten) ∧ Below w.heap.size w W_ ∧ G = [(7, .slice A7 n7 c7), (35, .slice A0 ps.length c0), (36, .int .i64 (ps.length : Int)), (37, .int .i64 (i : Int))]) ps.length [(7, .slice A19 ((([] ++ lowl (ps.flatten.length : Int) 4 0) ++ lowl (fnv 2166136261 ps.flatten) 4 0).length) c20), (35, .slice A0 ps.length c0), (36, .int .i64 (ps.length : Int)), (37, .int .i64 0)] ⟨0, _, _, _, by omega, by simpa using (hO25.on (Below.refl _ _)), hB23, rfl⟩ ⟨rfl, rfl, rfl, rfl, trivial⟩ ?_
  rintro m G w_ ⟨i, A7, n7, c7, him2, hO7, hB7, rfl⟩
  have hfl2_ := take_le ps i
  have hs_w_ := hB7.size
  refine wsr ?_
  refine rs2 (.bool (decide ((i : Int) < (ps.length : Int)))) ?_
  refine rw_end ?_
  refine w_seq ?_
  refine w_cond rfl rfl (fun cM => ?_) (fun cM => ?_)
  ·
   refine w_skip ?_
   refine w_seq ?_
   refine w_block ?_
   refine wsr ?_
   have l_ := of_decide_eq_true cM
   obtain ⟨ad, A1, c1, hA_, hcell_, hle_, hC_⟩ := at_L1 (Kd.C_below hP hB7) (i : Int) (by omega) (by omega)
   subst hA_
   rw [show ((i : Int)).toNat = i by omega] at hcell_
   have hpl_ := hall _ (rd_L1_mem ps i (by omega))
   have htl_ := take_len ps i (by omega)
   have hfl3_ := take_le ps (i + 1)
   refine rz (.pointer (some (ad.add i))) (by simp [go_sem, sEv, sLook, nbeq, i64_w, -List.length_flatten, Try.underlying100]; omega) ?_
   refine rz (.slice A1 ((rd_L1 ps (i : Int)).length) c1) (by simp [go_sem, sEv, sLook, nbeq, i64_w, -List.length_flatten, hcell_]) ?_
   refine rv (.slice A1 ((rd_L1 ps (i : Int)).length) c1) ?_
   refine rw_end ?_
   refine w_region ?_
   refine rv (.slice A7 n7 c7) ?_
   refine rv (.slice A1 ((rd_L1 ps (i : Int)).length) c1) ?_
   refine rw_append_row .u8 w.heap.size rfl rfl rfl (.tmp 41) (.tmp 42) rfl rfl 30 5 1 rfl (by kernel_rfl) info5 (by decide) (b := w.heap.size) rfl rfl (by omega) (hO7.on (Below.refl _ _)) (Kd.C_below hC_ (Below.refl _ _)) hB7 (by omega) (by simp only [List.length_append, lowl_len, List.length_nil]; omega) ?_
   intro A28 n29 c30 w31 hn32 hO33 hB34 hG35
   have hs_w31 := hB34.size
   have hgs_w31 := hG35.size
   refine rv (.slice A28 n29 c30) ?_
   refine rw_end ?_
   refine w_blk ?_
   refine w_region ?_
   refine rz (.int .i64 ((i + 1 : Nat) : Int)) (by simp [go_sem, sEv, sLook, nbeq, i64_w, -List.length_flatten]; have l_ := of_decide_eq_true cM; exact wrap_id (by omega) (by omega)) ?_
   refine rv (.int .i64 ((i + 1 : Nat) : Int)) ?_
   refine rw_end ?_
   have l_ := of_decide_eq_true cM
   have hO8_ : Own .u8 5 w31 w.heap.size w.heap.size A28 n29 c30 ((([] ++ lowl (ps.flatten.length : Int) 4 0) ++ lowl (fnv 2166136261 ps.flatten) 4 0) ++ (ps.take (i + 1)).flatten) := by rw [take_flat ps i (by omega), ← List.append_assoc]; exact (hO33.on (Below.refl _ _))
   exact w_back (m - 1) [(7, .slice A28 n29 c30), (35, .slice (some ad) ps.length c0), (36, .int .i64 (ps.length : Int)), (37, .int .i64 ((i + 1 : Nat) : Int))] (by omega) ⟨rfl, rfl, rfl, rfl, trivial⟩ ⟨i + 1, _, _, _, by omega, hO8_, hB34, rfl⟩
  ·
   refine w_exit rfl ?_
   refine wsr ?_
   refine rv (.slice A7 n7 c7) ?_
   refine rv (.slice A7 n7 c7) ?_
   refine rv .nilIface ?_
   refine rw_end ?_
   refine w_ret (post_ret2 rfl rfl rfl ?_)
   have l_ := of_decide_eq_false cM
   obtain rfl : i = ps.length := by omega
   rw [frameB, frameE, if_neg (by omega), if_neg (by omega)]
   exact ⟨_, _, _, rfl, by simpa using (hO7.on (Below.refl _ _)), hB7⟩
end Go.Proofs.Ytbbhdohjhipalaa.PNoteReads
end
section
namespace Go.Proofs.Ytbbhdohjhipalaa.PNoteReads
open Go.RowKit Go.Proofs.YtbbhdohjhipalaaW.PrintWords Go.Proofs.YtbbhdohjhipalaaW.PrintLast Go.Proofs.YtbbhdohjhipalaaW.PrintMore
set_option linter.unusedVariables false
set_option linter.unusedSimpArgs false
mutual
def frame_take.j0 : Nat → List Int → Bool → Option (Int × Int)
  | 0, _, _ => none
  | k + 1, x0, x23 => if x23 = true then (some (0, 0)) else (if 0 < (x0.length : Int) then (if (wrap64 (rd x0 0)) > 0 then (if 0 ≤ (wrap64 (rd x0 0)) then (if (wrap64 (rd x0 0)) < (x0.length : Int) then (frame_take.j1 k x0 (wrap64 (rd x0 0)) ((rd x0 (wrap64 (rd x0 0))) == 0)) else (none)) else (none)) else (frame_take.j1 k x0 (wrap64 (rd x0 0)) false)) else (none))
def frame_take.j1 : Nat → List Int → Int → Bool → Option (Int × Int)
  | 0, _, _, _ => none
  | k + 1, x0, x4, x36 => if x36 = true then (some (0, 0)) else (if 1 ≤ (wrap64 (1 + x4)) then (if (wrap64 (1 + x4)) ≤ (x0.length : Int) then ((frame_high.f k ((x0.take ((wrap64 (1 + x4)) : Int).toNat).drop 1)).bind fun t146 => ((frame_back.f t146).bind fun t147 => (some (t147, wrap64 (1 + x4))))) else (none)) else (none))
end
def frame_take.f (k : Nat) (l0 : List Int) : Option (Int × Int) := if (l0.length : Int) = 0 then (frame_take.j0 k l0 true) else (if 0 < (l0.length : Int) then (if (rd l0 0) > 8 then (frame_take.j0 k l0 true) else (frame_take.j0 k l0 (decide ((wrap64 (rd l0 0)) > (wrap64 ((l0.length : Int) - 1)))))) else (none))
set_option maxHeartbeats 8000000 in
set_option maxRecDepth 100000 in
theorem frame_take.calls (k : Nat) (A0 : Option Addr) (c0 : Nat) (l0 : List Int) (r1 : Int) (r2 : Int) (w : World) (hr0 : Kd.C (Kd.int .u8) w A0 l0.length l0) (hc0 : l0.length ≤ c0) (h : frame_take.f k l0 = some (r1, r2)) :
    Calls Try.prog 57 #[.slice A0 l0.length c0] w fun e w' => e = .returned (.tuple #[.int .i64 r1, .int .i64 r2]) ∧ Drawn0 w w' := by
  have HR0 := Aside0.mk hr0
  have HC0 := Aside0.mk hc0
  clear hr0 hc0
  have H : (if (l0.length : Int) = 0 then (frame_take.j0 k l0 true) else (if 0 < (l0.length : Int) then (if (rd l0 0) > 8 then (frame_take.j0 k l0 true) else (frame_take.j0 k l0 (decide ((wrap64 (rd l0 0)) > (wrap64 ((l0.length : Int) - 1)))))) else (none))) = some (r1, r2) := h
  clear h
  have HC2 := Aside0.mk H
  clear H
  go_enter Try.func57, Try.ntmps57
  go_upto_region 1 with (fail)
  go_cut [23] (fun v23 wc => ∃ (kq : Nat) (x23_1 : Bool), v23 = .bool x23_1 ∧ Aside0 (frame_take.j0 kq l0 x23_1 = some (r1, r2)) ∧ Aside0 (kq ≤ k) ∧ Drawn0 w wc)
  case first =>
    have H := HC2.out
    clear HC2
    by_cases c3 : (l0.length : Int) = 0
    · rw [if_pos c3] at H
      have c3b0 : ((l0.length : Int) == 0) = true := beq_iff_eq.mpr c3
      have c3b1 : ((l0.length : Int) != 0) = false := bne_eq_false_iff_eq.mpr c3
      clear c3
      (first | rw [c3b0] | (simp only [i64_w, i32_w]; rw [c3b0]) | skip)
      have H' := Aside0.mk H
      clear H
      go_wp2
      go_meet
      case rel => exact ⟨_, (true), (by first | rfl | (simp; done) | (simp [*]; done)), H', ⟨by first | omega | exact Nat.le_refl _⟩, by repeat (first | exact Drawn0.refl _ | apply Drawn0.step)⟩
    · rw [if_neg c3] at H
      have c3b0 : ((l0.length : Int) == 0) = false := beq_eq_false_iff_ne.mpr c3
      have c3b1 : ((l0.length : Int) != 0) = true := bne_iff_ne.mpr c3
      have c3b2 : ¬ (l0 = []) := fun h_ => c3 (by rw [h_]; rfl)
      (first | rw [c3b0] | (simp only [i64_w, i32_w]; rw [c3b0]) | skip)
      by_cases c4 : 0 < (l0.length : Int)
      · rw [if_pos c4] at H
        have c4b0 : decide (0 < (l0.length : Int)) = true := decide_eq_true c4
        have c4b1 : decide (0 < l0.length) = true := decide_eq_true (by omega)
        clear c4
        by_cases c5 : (rd l0 0) > 8
        · rw [if_pos c5] at H
          have c5b0 : decide (8 < (rd l0 0)) = true := decide_eq_true c5
          clear c5
          have H' := Aside0.mk H
          clear H
          have p141 : 0 ≤ (0 : Int) := (by omega)
          have q141 : 0 < (l0.length : Int) := of_decide_eq_true (by first | (with_reducible assumption) | assumption)
          obtain ⟨ad141, e141, hx141_0⟩ := Kd.at_int HR0.out 0 p141 q141
          cases e141
          have qi141 : (0 < l0.length) = True := eq_true (by omega)
          (try rw [show ((0 : Int)).toNat = 0 from rfl] at hx141_0)
          (try rw [Addr.add_zero'] at hx141_0)
          replace p141 := eq_true p141
          replace q141 := eq_true q141
          go_wp2
          go_meet
          case rel => exact ⟨_, (true), (by first | rfl | (simp; done) | (simp [*]; done)), H', ⟨by first | omega | exact Nat.le_refl _⟩, by repeat (first | exact Drawn0.refl _ | apply Drawn0.step)⟩
        · rw [if_neg c5] at H
          have c5b0 : decide (8 < (rd l0 0)) = false := decide_eq_false c5
          clear c5
          have H' := Aside0.mk H
          clear H
          have p141 : 0 ≤ (0 : Int) := (by omega)
          have q141 : 0 < (l0.length : Int) := of_decide_eq_true (by first | (with_reducible assumption) | assumption)
          obtain ⟨ad141, e141, hx141_0⟩ := Kd.at_int HR0.out 0 p141 q141
          cases e141
          have qi141 : (0 < l0.length) = True := eq_true (by omega)
          (try rw [show ((0 : Int)).toNat = 0 from rfl] at hx141_0)
          (try rw [Addr.add_zero'] at hx141_0)
          replace p141 := eq_true p141
          replace q141 := eq_true q141
          have p142 : 0 ≤ (0 : Int) := (by omega)
          have q142 : 0 < (l0.length : Int) := of_decide_eq_true (by first | (with_reducible assumption) | assumption)
          obtain ⟨ad142, e142, hx142_0⟩ := Kd.at_int HR0.out 0 p142 q142
          obtain rfl : ad141 = ad142 := (by injection e142)
          have qi142 : (0 < l0.length) = True := eq_true (by omega)
          (try rw [show ((0 : Int)).toNat = 0 from rfl] at hx142_0)
          (try rw [Addr.add_zero'] at hx142_0)
          replace p142 := eq_true p142
          replace q142 := eq_true q142
          go_wp2
          go_meet
          case rel => exact ⟨_, (decide ((wrap64 (rd l0 0)) > (wrap64 ((l0.length : Int) - 1)))), (by first | rfl | (simp; done) | (simp [*]; done)), H', ⟨by first | omega | exact Nat.le_refl _⟩, by repeat (first | exact Drawn0.refl _ | apply Drawn0.step)⟩
      · rw [if_neg c4] at H
        exact absurd H (by simp)
  case rest =>
    clear HC2
    try clear p1
    try clear q1
    try clear hx1
    try clear qi1
    try clear p2
    try clear c3
    try clear c3b0
    try clear c3b1
    try clear c3b2
    try clear c4
    try clear c4b0
    try clear c4b1
    try clear c5
    try clear c5b0
    try clear hx141_0
    try clear hx142_0
    try clear p141
    try clear p142
    try clear q141
    try clear q142
    obtain ⟨kq, x23_1, rfl, HA, HJ1, ⟨mc1, rfl⟩⟩ := hcut
    cases kq with
    | zero => exact absurd HA.out (by simp [frame_take.j0])
    | succ kj1 =>
      have H := HA.out
      clear HA
      simp only [frame_take.j0] at H
      by_cases c6 : x23_1 = true
      · subst c6
        have H1 : (some (0, 0)) = some (r1, r2) := by rw [if_pos rfl] at H; exact H
        clear H
        have H := H1
        clear H1
        simp only [Option.some.injEq, Prod.mk.injEq] at H
        obtain ⟨rfl, rfl⟩ := H
        go_wp2
        go_ret2
        exact ⟨by first | rfl | (simp; done) | (simp [*]; done), by repeat (first | exact Drawn0.refl _ | apply Drawn0.step)⟩
      · replace c6 := Bool.eq_false_iff.mpr c6
        subst c6
        have H1 : (if 0 < (l0.length : Int) then (if (wrap64 (rd l0 0)) > 0 then (if 0 ≤ (wrap64 (rd l0 0)) then (if (wrap64 (rd l0 0)) < (l0.length : Int) then (frame_take.j1 kj1 l0 (wrap64 (rd l0 0)) ((rd l0 (wrap64 (rd l0 0))) == 0)) else (none)) else (none)) else (frame_take.j1 kj1 l0 (wrap64 (rd l0 0)) false)) else (none)) = some (r1, r2) := by rw [if_neg (show ¬ (false = true) by decide)] at H; exact H
        clear H
        have H := H1
        clear H1
        by_cases c7 : 0 < (l0.length : Int)
        · rw [if_pos c7] at H
          have c7b0 : decide (0 < (l0.length : Int)) = true := decide_eq_true c7
          have c7b1 : decide (0 < l0.length) = true := decide_eq_true (by omega)
          clear c7
          have HC8 := Aside0.mk H
          clear H
          have p143 : 0 ≤ (0 : Int) := (by omega)
          have q143 : 0 < (l0.length : Int) := of_decide_eq_true (by first | (with_reducible assumption) | assumption)
          obtain ⟨ad143, e143, hx143_0⟩ := Kd.at_int HR0.out 0 p143 q143
          cases e143
          have qi143 : (0 < l0.length) = True := eq_true (by omega)
          (try rw [show ((0 : Int)).toNat = 0 from rfl] at hx143_0)
          (try rw [Addr.add_zero'] at hx143_0)
          replace p143 := eq_true p143
          replace q143 := eq_true q143
          go_upto_region 4 with (fail)
          go_cut [36] (fun v36 wc => ∃ (kq : Nat) (x36_7 : Bool), v36 = .bool x36_7 ∧ Aside0 (frame_take.j1 kq l0 (wrap64 (rd l0 0)) x36_7 = some (r1, r2)) ∧ Aside0 (kq ≤ kj1) ∧ Drawn0 w wc)
          case first =>
            have H := HC8.out
            clear HC8
            by_cases c9 : (wrap64 (rd l0 0)) > 0
            · rw [if_pos c9] at H
              have c9b0 : decide (0 < (wrap64 (rd l0 0))) = true := decide_eq_true c9
              clear c9
              (first | rw [c9b0] | (simp only [i64_w, i32_w]; rw [c9b0]) | skip)
              obtain ⟨ji10, hji10⟩ : ∃ j_ : Int, (wrap64 (rd l0 0)) = j_ := ⟨_, rfl⟩
              replace H : (if 0 ≤ (ji10) then (if (ji10) < (l0.length : Int) then (frame_take.j1 kj1 l0 ji10 ((rd l0 (ji10)) == 0)) else (none)) else (none)) = some (r1, r2) := by first | (rw [hji10] at H; exact H) | (simp only [hji10] at H ⊢; exact H)
              (try rw [hji10] at c9b0)
              have hji10w : (IntKind.i64.wrap (rd l0 0)) = ji10 := (i64_w _).trans hji10
              by_cases c11 : 0 ≤ (ji10)
              · rw [if_pos c11] at H
                have c11b0 : decide (0 ≤ (ji10)) = true := decide_eq_true c11
                clear c11
                by_cases c12 : (ji10) < (l0.length : Int)
                · rw [if_pos c12] at H
                  have c12b0 : decide ((ji10) < (l0.length : Int)) = true := decide_eq_true c12
                  clear c12
                  have H' := Aside0.mk H
                  clear H
                  have p144 : 0 ≤ ((ji10) : Int) := of_decide_eq_true (by first | (with_reducible assumption) | assumption)
                  have q144 : (ji10) < (l0.length : Int) := of_decide_eq_true (by first | (with_reducible assumption) | assumption)
                  obtain ⟨ad144, e144, hx144_0⟩ := Kd.at_int HR0.out (ji10) p144 q144
                  obtain rfl : ad143 = ad144 := (by injection e144)
                  replace p144 := eq_true p144
                  replace q144 := eq_true q144
                  go_wp2
                  subst hji10
                  go_meet
                  case rel => exact ⟨_, (((rd l0 (wrap64 (rd l0 0))) == 0)), (by first | rfl | (simp; done) | rfl | (simp [*]; done)), H', ⟨by have := HJ1.out; first | omega | exact Nat.le_refl _⟩, by repeat (first | exact Drawn0.refl _ | apply Drawn0.step)⟩
                · rw [if_neg c12] at H
                  exact absurd H (by simp)
              · rw [if_neg c11] at H
                exact absurd H (by simp)
            · rw [if_neg c9] at H
              have c9b0 : decide (0 < (wrap64 (rd l0 0))) = false := decide_eq_false c9
              clear c9
              (first | rw [c9b0] | (simp only [i64_w, i32_w]; rw [c9b0]) | skip)
              have H' := Aside0.mk H
              clear H
              go_wp2
              go_meet
              case rel => exact ⟨_, (false), (by first | rfl | (simp; done) | (simp [*]; done)), H', ⟨by have := HJ1.out; first | omega | exact Nat.le_refl _⟩, by repeat (first | exact Drawn0.refl _ | apply Drawn0.step)⟩
          case rest =>
            clear HC8
            try clear c1
            try clear p1
            try clear q1
            try clear hx1
            try clear qi1
            try clear p2
            try clear c3
            try clear c3b0
            try clear c3b1
            try clear c3b2
            try clear c4
            try clear c4b0
            try clear c4b1
            try clear c5
            try clear c5b0
            try clear c6
            try clear p6
            try clear c7
            try clear c7b0
            try clear c7b1
            try clear c9
            try clear c9b0
            try clear c11
            try clear c11b0
            try clear c12
            try clear c12b0
            try clear hx141_0
            try clear hx142_0
            try clear hx143_0
            try clear hx144_0
            try clear p1
            try clear p141
            try clear p142
            try clear p143
            try clear p144
            try clear p2
            try clear q1
            try clear q141
            try clear q142
            try clear q143
            try clear q144
            obtain ⟨kq, x36_7, rfl, HA, HJ7, ⟨mc7, rfl⟩⟩ := hcut
            cases kq with
            | zero => exact absurd HA.out (by simp [frame_take.j1])
            | succ kj7 =>
              have H := HA.out
              clear HA
              simp only [frame_take.j1] at H
              by_cases c13 : x36_7 = true
              · subst c13
                have H1 : (some (0, 0)) = some (r1, r2) := by rw [if_pos rfl] at H; exact H
                clear H
                have H := H1
                clear H1
                simp only [Option.some.injEq, Prod.mk.injEq] at H
                obtain ⟨rfl, rfl⟩ := H
                go_wp2
                go_ret2
                exact ⟨by first | rfl | (simp; done) | (simp [*]; done), by repeat (first | exact Drawn0.refl _ | apply Drawn0.step)⟩
              · replace c13 := Bool.eq_false_iff.mpr c13
                subst c13
                have H1 : (if 1 ≤ (wrap64 (1 + (wrap64 (rd l0 0)))) then (if (wrap64 (1 + (wrap64 (rd l0 0)))) ≤ (l0.length : Int) then ((frame_high.f kj7 ((l0.take ((wrap64 (1 + (wrap64 (rd l0 0)))) : Int).toNat).drop 1)).bind fun t146 => ((frame_back.f t146).bind fun t147 => (some (t147, wrap64 (1 + (wrap64 (rd l0 0))))))) else (none)) else (none)) = some (r1, r2) := by rw [if_neg (show ¬ (false = true) by decide)] at H; exact H
                clear H
                have H := H1
                clear H1
                by_cases c14 : 1 ≤ (wrap64 (1 + (wrap64 (rd l0 0))))
                · rw [if_pos c14] at H
                  have c14b0 := eq_true c14
                  have c14b1 : decide (1 ≤ (wrap64 (1 + (wrap64 (rd l0 0))))) = true := decide_eq_true c14
                  by_cases c15 : (wrap64 (1 + (wrap64 (rd l0 0)))) ≤ (l0.length : Int)
                  · rw [if_pos c15] at H
                    have c15b0 := eq_true c15
                    have c15b1 : decide ((wrap64 (1 + (wrap64 (rd l0 0)))) ≤ (l0.length : Int)) = true := decide_eq_true c15
                    replace H := Option.bind_eq_some_iff.mp H
                    obtain ⟨t146, A160, H⟩ := H
                    replace H : ((frame_back.f t146).bind fun t147 => (some (t147, wrap64 (1 + (wrap64 (rd l0 0)))))) = some (r1, r2) := H
                    have A16 := Aside0.mk A160
                    clear A160
                    replace H := Option.bind_eq_some_iff.mp H
                    obtain ⟨t147, A170, H⟩ := H
                    replace H : (some (t147, wrap64 (1 + (wrap64 (rd l0 0))))) = some (r1, r2) := H
                    have A17 := Aside0.mk A170
                    clear A170
                    simp only [Option.some.injEq, Prod.mk.injEq] at H
                    obtain ⟨rfl, rfl⟩ := H
                    obtain ⟨i018, hi018, _, hsz18, _⟩ := info_parts info5
                    obtain ⟨A18, hcut18, hA18, hC18⟩ := print_mid_of (P := Try.prog) (Value.int .u8) 0 30 5 .i64 .i64 Try.underlying30 hi018 hsz18 (some ad143) c0 l0 1 (wrap64 (1 + (wrap64 (rd l0 0)))) (by omega) (by first | omega | exact of_decide_eq_true (by first | (with_reducible assumption) | assumption)) (of_decide_eq_true (by first | (with_reducible assumption) | assumption)) HC0.out
                    have HR145 := Aside0.mk (Kd.C_of_reads (h1 := fun _ => rfl) (hA18 _ (Kd.reads_of_C HR0.out)))
                    have HC145 := Aside0.mk hC18
                    clear hA18 hC18 hi018 hsz18
                    go_wp2_with (first | ((with_reducible refine gate_callee (f := 64) rfl ?_); refine goesL_ (some 41) rfl rfl Try.func64 (by kernel_rfl) rfl #[.slice A18 ((l0.take ((wrap64 (1 + (wrap64 (rd l0 0)))) : Int).toNat).drop 1).length (c0 - 1)] rfl (by (try simp only [List.map_toArray, List.map_cons, List.map_nil]); first | done | (rw [show ((l0.take ((wrap64 (1 + (wrap64 (rd l0 0)))) : Int).toNat).drop 1).length = ((wrap64 (1 + (wrap64 (rd l0 0)))).toNat - 1) from (by rw [List.length_drop, List.length_take]; have h_ : ((wrap64 (1 + (wrap64 (rd l0 0)))) : Int) ≤ (l0.length : Int) := of_decide_eq_true (by first | (with_reducible assumption) | assumption); omega)] <;> rfl) | rfl | (simp only [List.length_drop, List.length_take]; rfl)) ?_; (with_reducible refine (frame_high.calls kj7 _ _ ((l0.take ((wrap64 (1 + (wrap64 (rd l0 0)))) : Int).toNat).drop 1) t146 _ ?side1 ?side2 A16.out).mono ?_); (case side1 => repeat (first | exact HR145.out | (with_reducible refine Kd.C_alloc ?_ _) | (with_reducible refine Kd.C_drewN ?_ _) | (with_reducible refine Kd.C_drew ?_))); (case side2 => exact HC145.out); rintro e w' ⟨rfl, ⟨nd, rfl⟩⟩; refine ⟨_, rfl, ?_⟩) | ((with_reducible refine gate_callee (f := 65) rfl ?_); refine goesL_ (some 42) rfl rfl Try.func65 (by kernel_rfl) rfl #[.int .u64 t146] rfl (by (try simp only [List.map_toArray, List.map_cons, List.map_nil]); first | done | rfl | (simp only [List.length_drop, List.length_take]; rfl)) ?_; (with_reducible refine (frame_back.calls t146 t147 _ A17.out).mono ?_); rintro e w' ⟨rfl, ⟨nd, rfl⟩⟩; refine ⟨_, rfl, ?_⟩))
                    go_ret2
                    exact ⟨by first | rfl | (simp; done) | (simp [*]; done), by repeat (first | exact Drawn0.refl _ | apply Drawn0.step)⟩
                  · rw [if_neg c15] at H
                    exact absurd H (by simp)
                · rw [if_neg c14] at H
                  exact absurd H (by simp)
        · rw [if_neg c7] at H
          exact absurd H (by simp)
def frame_Nums.l0 : Nat → List Int → Int → List Int → Option (List Int × Option Int)
  | 0, _, _, _ => none
  | k + 1, x0, x1, x6 => if (x0.length : Int) > 0 then ((frame_take.f k x0).bind fun bt148 => (if bt148.2 = 0 then (some (([] : List Int), some 3)) else (if (x6.length : Int) ≥ x1 then (some (([] : List Int), some 3)) else (if x6.length < 17592186044416 then (if 0 ≤ bt148.2 then (if bt148.2 ≤ (x0.length : Int) then (frame_Nums.l0 k (x0.drop (bt148.2 : Int).toNat) x1 (x6 ++ [bt148.1])) else (none)) else (none)) else (none))))) else (some (x6, none))
def frame_Nums.f (k : Nat) (l0 : List Int) (a1 : Int) : Option (List Int × Option Int) := frame_Nums.l0 k l0 a1 ([] : List Int)
def frame_Nums.T6 : Bool × List (List Nat × List Nat) := (true, [([], []), ([], []), ([1], [1]), ([0, 2], [0, 2]), ([], []), ([], []), ([4, 5], [4, 5]), ([3, 3, 0, 1, 2, 3], [0, 3]), ([6, 7, 0, 1, 2, 3, 4, 5, 6, 7], [4, 6])])
def frame_Nums.B6 : List Nat := [0, 0, 2, 7, 0, 0, 48, 15, 255]
theorem frame_Nums.tab6 : rtab .any (opsOf Try.f37 6) = frame_Nums.T6 := by kernel_rfl
theorem frame_Nums.bits6 : waitsOk frame_Nums.T6.2 frame_Nums.B6 = true := by kernel_rfl
set_option maxHeartbeats 8000000 in
set_option maxRecDepth 100000 in
theorem frame_Nums.calls (k : Nat) (P0_ : Nat → Prop) (A0 : Option Addr) (c0 : Nat) (l0 : List Int) (a1 : Int) (r1 : List Int) (r2 : Option Int) (w : World) (hs0 : Kd.V (Kd.int .u8) 5 w w.heap.size (fun k_ => P0_ k_) (.slice A0 l0.length c0) l0) (h : frame_Nums.f k l0 a1 = some (r1, r2)) :
    Calls Try.prog 37 #[.slice A0 l0.length c0, .int .i64 a1] w fun e w' => ∃ v0_ : Value, e = .returned (.tuple #[v0_, errW r2]) ∧ Kd.R (Kd.int .i64) 3 w' w.heap.size (fun k_ => (w.heap.size ≤ k_)) v0_ r1 ∧ Below w.heap.size w w' := by
  have hu32 := Try.underlying32
  have hu48 := Try.underlying48
  have HO0 := Aside0.mk (show Kd.V (Kd.int .u8) 5 w w.heap.size (fun k_ => (P0_ k_ ∨ w.heap.size ≤ k_)) (.slice A0 l0.length c0) l0 from Kd.V_mono hs0 (fun k_ hk => .inl hk))
  have HB := Aside0.mk (Below.refl w.heap.size w)
  have H : (frame_Nums.l0 k l0 a1 ([] : List Int)) = some (r1, r2) := h
  clear h
  have H' := Aside0.mk H
  clear H
  go_enter Try.func37, Try.ntmps37
  go_wp2
  go_loopg [0, 6] k (fun kq v0 v6 w' => ∃ (x0_1 : List Int) (x6_1 : List Int), Aside0 (frame_Nums.l0 kq x0_1 a1 x6_1 = some (r1, r2)) ∧ Aside0 (kq ≤ k) ∧ Aside0 (Kd.V (Kd.int .u8) 5 w' w.heap.size (fun k_ => (P0_ k_ ∨ w.heap.size ≤ k_) ∧ some k_ ≠ (v6 : Value).ownBlock) v0 x0_1) ∧ Aside0 (Kd.R (Kd.int .i64) 3 w' w.heap.size (fun k_ => (w.heap.size ≤ k_)) v6 x6_1) ∧ Aside0 (Below w.heap.size w w'))
  case atStart => exact ⟨(l0), (([] : List Int)), H', ⟨Nat.le_refl _⟩, ⟨by (with_reducible repeat (first | apply Kd.V_alloc | apply Kd.V_drewN | apply Kd.V_drew)); exact Kd.V_mono HO0.out (fun _ hk => ⟨hk, (by simp [Value.ownBlock])⟩)⟩, ⟨by first | exact Kd.R_nil _ _ _ _ _ | exact Kd.N_nil _ _ _ _ _ | exact Kd.V_nil _ _ _ _ _ | exact Kd.Q_nil _ _ _ _ _ | exact Kd.S_nil _ _ _ _ _⟩, ⟨by repeat (first | (with_reducible first | exact HB.out | apply below_alloc | apply pw_below_drewN | apply below_drew1) | exact HB.out)⟩⟩
  case round =>
    clear H'
    try clear p2
    obtain ⟨x0_1, x6_1, HA, HK1, HO_0, HO_6, HB⟩ := hrel
    cases gk with
    | zero => exact absurd HA.out (by simp [frame_Nums.l0])
    | succ k1 =>
      have H := HA.out
      clear HA
      simp only [frame_Nums.l0] at H
      by_cases c3 : (x0_1.length : Int) > 0
      · rw [if_pos c3] at H
        have c3b0 : decide (0 < (x0_1.length : Int)) = true := decide_eq_true c3
        have c3b1 : decide (0 < x0_1.length) = true := decide_eq_true (by omega)
        clear c3
        replace H := Option.bind_eq_some_iff.mp H
        obtain ⟨⟨t148, t149⟩, A40, H⟩ := H
        replace H : (if t149 = 0 then (some (([] : List Int), some 3)) else (if (x6_1.length : Int) ≥ a1 then (some (([] : List Int), some 3)) else (if x6_1.length < 17592186044416 then (if 0 ≤ t149 then (if t149 ≤ (x0_1.length : Int) then (frame_Nums.l0 k1 (x0_1.drop (t149 : Int).toNat) a1 (x6_1 ++ [t148])) else (none)) else (none)) else (none)))) = some (r1, r2) := H
        have A4 := Aside0.mk A40
        clear A40
        by_cases c5 : t149 = 0
        · rw [if_pos c5] at H
          have c5b0 : (t149 == 0) = true := beq_iff_eq.mpr c5
          have c5b1 : (t149 != 0) = false := bne_eq_false_iff_eq.mpr c5
          clear c5
          simp only [Option.some.injEq, Prod.mk.injEq] at H
          obtain ⟨rfl, rfl⟩ := H
          obtain ⟨Ao6, co6, eo6⟩ := Kd.V_slice HO_0.out
          subst eo6
          go_wp2_with (first | ((with_reducible refine gate_callee (f := 57) rfl ?_); refine goesL_ (some 14) rfl rfl Try.func57 (by kernel_rfl) rfl #[.slice Ao6 x0_1.length co6] rfl (by (try simp only [List.map_toArray, List.map_cons, List.map_nil]); first | done | rfl | (simp only [List.length_drop, List.length_take]; rfl)) ?_; (with_reducible refine (frame_take.calls k1 _ _ x0_1 t148 t149 _ ?side1 ?side2 A4.out).mono ?_); (case side1 => repeat (first | exact (Kd.V_reads' HO_0.out).2.2 | (with_reducible refine Kd.C_alloc ?_ _) | (with_reducible refine Kd.C_drewN ?_ _) | (with_reducible refine Kd.C_drew ?_))); (case side2 => exact (Kd.V_reads' HO_0.out).2.1); rintro e w' ⟨rfl, ⟨nd, rfl⟩⟩; refine ⟨_, rfl, ?_⟩))
          go_ret2
          exact ⟨_, by first | rfl | (simp [errW_none, errW_some] <;> rfl) | (simp [*, errW_none, errW_some] <;> rfl), by first | exact Kd.R_nil _ _ _ _ _ | exact Kd.N_nil _ _ _ _ _ | exact Kd.V_nil _ _ _ _ _ | exact Kd.Q_nil _ _ _ _ _ | exact Kd.S_nil _ _ _ _ _, by repeat (first | (with_reducible first | exact HB.out | apply below_alloc | apply pw_below_drewN | apply below_drew1) | exact HB.out)⟩
        · rw [if_neg c5] at H
          have c5b0 : (t149 == 0) = false := beq_eq_false_iff_ne.mpr c5
          have c5b1 : (t149 != 0) = true := bne_iff_ne.mpr c5
          by_cases c7 : (x6_1.length : Int) ≥ a1
          · rw [if_pos c7] at H
            have c7b0 : decide (a1 ≤ (x6_1.length : Int)) = true := decide_eq_true c7
            clear c7
            simp only [Option.some.injEq, Prod.mk.injEq] at H
            obtain ⟨rfl, rfl⟩ := H
            obtain ⟨Ao8, co8, eo8⟩ := Kd.V_slice HO_0.out
            subst eo8
            go_wp2_with (first | ((with_reducible refine gate_callee (f := 57) rfl ?_); refine goesL_ (some 14) rfl rfl Try.func57 (by kernel_rfl) rfl #[.slice Ao8 x0_1.length co8] rfl (by (try simp only [List.map_toArray, List.map_cons, List.map_nil]); first | done | rfl | (simp only [List.length_drop, List.length_take]; rfl)) ?_; (with_reducible refine (frame_take.calls k1 _ _ x0_1 t148 t149 _ ?side1 ?side2 A4.out).mono ?_); (case side1 => repeat (first | exact (Kd.V_reads' HO_0.out).2.2 | (with_reducible refine Kd.C_alloc ?_ _) | (with_reducible refine Kd.C_drewN ?_ _) | (with_reducible refine Kd.C_drew ?_))); (case side2 => exact (Kd.V_reads' HO_0.out).2.1); rintro e w' ⟨rfl, ⟨nd, rfl⟩⟩; refine ⟨_, rfl, ?_⟩; obtain ⟨Ao9, co9, eo9⟩ := Kd.R_slice HO_6.out; subst eo9))
            go_ret2
            exact ⟨_, by first | rfl | (simp [errW_none, errW_some] <;> rfl) | (simp [*, errW_none, errW_some] <;> rfl), by first | exact Kd.R_nil _ _ _ _ _ | exact Kd.N_nil _ _ _ _ _ | exact Kd.V_nil _ _ _ _ _ | exact Kd.Q_nil _ _ _ _ _ | exact Kd.S_nil _ _ _ _ _, by repeat (first | (with_reducible first | exact HB.out | apply below_alloc | apply pw_below_drewN | apply below_drew1) | exact HB.out)⟩
          · rw [if_neg c7] at H
            have c7b0 : decide (a1 ≤ (x6_1.length : Int)) = false := decide_eq_false c7
            clear c7
            by_cases c10 : x6_1.length < 17592186044416
            · rw [if_pos c10] at H
              have LMc10 := Aside0.mk c10
              clear c10
              obtain ⟨y150, hy150⟩ : ∃ y_ : List Int, y_ = (x6_1 ++ [t148]) := ⟨_, rfl⟩
              replace H : (if 0 ≤ t149 then (if t149 ≤ (x0_1.length : Int) then (frame_Nums.l0 k1 (x0_1.drop (t149 : Int).toNat) a1 y150) else (none)) else (none)) = some (r1, r2) := by first | (rw [hy150]; with_reducible exact H) | (have H2_ := (Option.bind_some _ _).symm.trans H; rw [hy150]; with_reducible exact H2_) | (have H2_ := (Option.bind_some _ _).symm.trans H; with_reducible exact H2_) | with_reducible exact H | (rw [hy150]; exact H) | exact H
              have Ny150 := Aside0.mk hy150
              clear hy150
              by_cases c11 : 0 ≤ t149
              · rw [if_pos c11] at H
                have c11b0 := eq_true c11
                have c11b1 : decide (0 ≤ t149) = true := decide_eq_true c11
                clear c11
                by_cases c12 : t149 ≤ (x0_1.length : Int)
                · rw [if_pos c12] at H
                  have c12b0 := eq_true c12
                  have c12b1 : decide (t149 ≤ (x0_1.length : Int)) = true := decide_eq_true c12
                  clear c12
                  obtain ⟨y153, hy153⟩ : ∃ y_ : List Int, y_ = (x0_1.drop (t149 : Int).toNat) := ⟨_, rfl⟩
                  replace H : (frame_Nums.l0 k1 y153 a1 y150) = some (r1, r2) := by first | (rw [hy153]; with_reducible exact H) | (have H2_ := (Option.bind_some _ _).symm.trans H; rw [hy153]; with_reducible exact H2_) | (have H2_ := (Option.bind_some _ _).symm.trans H; with_reducible exact H2_) | with_reducible exact H | (rw [hy153]; exact H) | exact H
                  have Ny153 := Aside0.mk hy153
                  clear hy153
                  have H' := Aside0.mk H
                  clear H
                  obtain ⟨Ao13, co13, eo13⟩ := Kd.V_slice HO_0.out
                  subst eo13
                  try go_wp2_with (first | ((with_reducible refine gate_callee (f := 57) rfl ?_); refine goesL_ (some 14) rfl rfl Try.func57 (by kernel_rfl) rfl #[.slice Ao13 x0_1.length co13] rfl (by (try simp only [List.map_toArray, List.map_cons, List.map_nil]); first | done | rfl | (simp only [List.length_drop, List.length_take]; rfl)) ?_; (with_reducible refine (frame_take.calls k1 _ _ x0_1 t148 t149 _ ?side1 ?side2 A4.out).mono ?_); (case side1 => repeat (first | exact (Kd.V_reads' HO_0.out).2.2 | (with_reducible refine Kd.C_alloc ?_ _) | (with_reducible refine Kd.C_drewN ?_ _) | (with_reducible refine Kd.C_drew ?_))); (case side2 => exact (Kd.V_reads' HO_0.out).2.1); rintro e w' ⟨rfl, ⟨nd, rfl⟩⟩; refine ⟨_, rfl, ?_⟩; obtain ⟨Ao14, co14, eo14⟩ := Kd.R_slice HO_6.out; subst eo14))
                  (try (rw [drewN_self wr]; generalize hq_ : World.drewN wr _ = wr; have n0_ : Aside0 (Kd.V (Kd.int .u8) 5 wr w.heap.size (fun k_ => (P0_ k_ ∨ w.heap.size ≤ k_) ∧ some k_ ≠ (.slice Ao14 x6_1.length co14 : Value).ownBlock) (.slice Ao13 x0_1.length co13) x0_1) := ⟨by rw [← hq_]; exact (by (with_reducible repeat (first | apply Kd.V_alloc | apply Kd.V_drewN | apply Kd.V_drew)); exact HO_0.out)⟩; have n1_ : Aside0 (Kd.R (Kd.int .i64) 3 wr w.heap.size (fun k_ => (w.heap.size ≤ k_)) (.slice Ao14 x6_1.length co14) x6_1) := ⟨by rw [← hq_]; exact (by (with_reducible repeat (first | apply Kd.R_alloc | apply Kd.R_drewN | apply Kd.R_drew)); exact HO_6.out)⟩; have n2_ : Aside0 (Below w.heap.size w wr) := ⟨by rw [← hq_]; exact (by repeat (first | (with_reducible first | exact HB.out | apply below_alloc | apply pw_below_drewN | apply below_drew1) | exact HB.out))⟩; clear HO_0 HO_6 HB hq_; have HO_0 := n0_; have HO_6 := n1_; have HB := n2_; clear n0_ n1_ n2_))
                  have n0_ := Aside0.mk (Kd.V_drew HO_0.out)
                  have n1_ := Aside0.mk (Kd.R_drew HO_6.out)
                  have n2_ := Aside0.mk (below_drew1 HB.out)
                  clear HO_0
                  clear HO_6
                  clear HB
                  have HO_0 := n0_
                  have HO_6 := n1_
                  have HB := n2_
                  clear n0_ n1_ n2_
                  have q16 : (t149 : Int) ≤ ((x0_1.length : Int) : Int) := of_decide_eq_true (by first | (with_reducible assumption) | assumption)
                  obtain ⟨i016, hi016, _, hsz16, _⟩ := info_parts info5
                  have hroom16 : x0_1.length ≤ co13 := (Kd.V_reads' HO_0.out).2.1
                  have hC16 : Kd.F (Kd.int .u8) _ _ Ao13 x0_1.length x0_1 := (Kd.V_at (base := w.heap.size) HO_0.out).2.2
                  have q016 : (0 : Int) ≤ (t149 : Int) := of_decide_eq_true (by first | (with_reducible assumption) | assumption)
                  have hcut16 := cut_from (P := Try.prog) 30 5 .i64 Try.underlying30 hi016 1 hsz16 Ao13 x0_1.length co13 t149 q016 q16
                  have hr16 := Kd.F_cut (m := (t149 : Int).toNat) (c := co13) hC16 (by omega) hroom16
                  obtain ⟨A16, hA16⟩ : ∃ A1, A1 = (if co13 = (t149 : Int).toNat then Ao13 else (Ao13 : Option Addr).map (·.add ((t149 : Int).toNat * 1))) := ⟨_, rfl⟩
                  obtain ⟨c16, hc16⟩ : ∃ c1, c1 = co13 - (t149 : Int).toNat := ⟨_, rfl⟩
                  have hy16 : y153.length = x0_1.length - (t149 : Int).toNat := (by rw [Ny153.out, List.length_drop] <;> omega)
                  rw [show (x0_1).drop (t149 : Int).toNat = y153 from Ny153.out.symm] at hr16
                  replace hr16 : Kd.F (Kd.int .u8) _ _ A16 y153.length y153 := (by rw [hA16]; exact hr16)
                  rw [← hy16, ← hA16, ← hc16] at hcut16
                  have HO157 := Aside0.mk (show Kd.V (Kd.int .u8) 5 _ w.heap.size _ (.slice A16 y153.length c16) y153 from Kd.V_mk (by rw [hy16, hc16]; exact Nat.sub_le_sub_right hroom16 _) hr16)
                  have HC157 := Aside0.mk (show y153.length ≤ c16 from by rw [hy16, hc16]; exact Nat.sub_le_sub_right hroom16 _)
                  clear hr16 hC16 hroom16 hi016 hsz16 hc16
                  have KY16 := Aside0.mk hy16
                  have KA16 := Aside0.mk hA16
                  clear hy16 hA16
                  replace q16 := eq_true q16
                  refine start_ (n := 9) (S := fun w' => True) (ds := []) #[false, false, false, false, false, false, false, false, false] (by kernel_rfl) rfl rfl trivial (fun hHeld => ?_); refine with_tabW frame_Nums.tab6 frame_Nums.bits6 (fun HT_ HW_ => ?_)
                  generalize wr.drew = w15 at HO_0 HO_6 HB HO157 hHeld ⊢
                  refine pure_ (i := 0) (N := some 26) (v := ?_) (a' := ?_) #[true, false, false, false, false, false, false, false, false] rfl rfl (any_of HT_.out (by kernel_rfl)) (fun _ _ _ h => h) (Or.inl ⟨by rfl, ?_⟩) ?_ ?_
                  rotate_left
                  · intro w'
                    go_simp
                    with_reducible rfl
                  rotate_left
                  · simp only [Act.put, List.setIfInBounds_toArray, List.set_cons_zero, List.set_cons_succ, i64_w, i32_w]
                    rfl
                  refine pure_ (i := 1) (N := some 27) (v := ?_) (a' := ?_) #[true, true, false, false, false, false, false, false, false] rfl rfl (any_of HT_.out (by kernel_rfl)) (fun _ _ _ h => h) (Or.inl ⟨by rfl, ?_⟩) ?_ ?_
                  rotate_left
                  · intro w'
                    go_simp
                    with_reducible rfl
                  rotate_left
                  · simp only [Act.put, List.setIfInBounds_toArray, List.set_cons_zero, List.set_cons_succ, i64_w, i32_w]
                    rfl
                  refine pure_ (i := 4) (N := some 30) (v := ?_) (a' := ?_) #[true, true, false, false, true, false, false, false, false] rfl rfl (any_of HT_.out (by kernel_rfl)) (fun _ _ _ h => h) (Or.inl ⟨by rfl, ?_⟩) ?_ ?_
                  rotate_left
                  · intro w'
                    go_simp
                    with_reducible rfl
                  rotate_left
                  · simp only [Act.put, List.setIfInBounds_toArray, List.set_cons_zero, List.set_cons_succ, i64_w, i32_w]
                    rfl
                  refine pure_ (i := 5) (N := some 31) (v := ?_) (a' := ?_) #[true, true, false, false, true, true, false, false, false] rfl rfl (any_of HT_.out (by kernel_rfl)) (fun _ _ _ h => h) (Or.inl ⟨by rfl, ?_⟩) ?_ ?_
                  rotate_left
                  · intro w'
                    go_simp
                    with_reducible rfl
                  rotate_left
                  · simp only [Act.put, List.setIfInBounds_toArray, List.set_cons_zero, List.set_cons_succ, i64_w, i32_w]
                    rfl
                  refine pure_ (i := 6) (N := some 32) (v := ?_) (a' := ?_) #[true, true, false, false, true, true, true, false, false] rfl rfl (any_of HT_.out (by kernel_rfl)) (fun _ _ _ h => h) (Or.inl ⟨by rfl, ?_⟩) ?_ ?_
                  rotate_left
                  · intro w'
                    go_simp
                    with_reducible rfl
                  rotate_left
                  · simp only [Act.put, List.setIfInBounds_toArray, List.set_cons_zero, List.set_cons_succ, i64_w, i32_w]
                    rfl
                  refine one_ (i := 2) (N := some 28) #[true, true, true, false, true, true, true, false, false] rfl rfl (one_of HT_.out (by kernel_rfl)) (by decide) (fun K hK => ?_)
                  refine value_ (w1 := ?_) (v := ?_) (by rfl) rfl ?_ ?_
                  rotate_left 2
                  · go_simp
                    constructor
                    · rfl
                    · rfl
                  refine hK.out _ _ trivial (fun hHeld => ?_)
                  clear hK K
                  refine norm_ (a' := ?_) ?_ ?_
                  rotate_left
                  · show Act.put _ (some 28) _ = _
                    simp only [Act.put, List.setIfInBounds_toArray, List.set_cons_zero, List.set_cons_succ, i64_w, i32_w]
                    rfl
                  refine one_ (i := 3) (N := some 29) #[true, true, true, true, true, true, true, false, false] rfl rfl (one_of HT_.out (by kernel_rfl)) (by decide) (fun K hK => ?_)
                  refine Kd.R_append_step (Kd.int .i64) (w0 := w) w.heap.size (by rfl) (.tmp 26) (.tmp 28) 22 3 (.int .i64 0) 8 rfl Try.underlying22 info3 rfl (by decide) (by omega) (.slice Ao14 x6_1.length co14) x6_1 t148 [.int .i64 t148] (fun k_ => (w.heap.size ≤ k_)) (fun _ => False) rfl rfl ?aP (fun _ hk => hk.elim) ?aF ?aO ?aB ?aS ?aL ?_
                  (case aP => exact rfl)
                  (case aB => exact (by repeat (first | (with_reducible first | exact HB.out | apply below_alloc | apply pw_below_drewN | apply below_drew1) | exact HB.out)))
                  (case aF => exact (fun k_ hk => (Nat.le_trans (below_size (by repeat (first | (with_reducible first | exact HB.out | apply below_alloc | apply pw_below_drewN | apply below_drew1) | exact HB.out))) hk)))
                  (case aO => exact (by (with_reducible repeat (first | apply Kd.R_alloc | apply Kd.R_drewN | apply Kd.R_drew)); exact HO_6.out))
                  (case aS => exact (below_size (by repeat (first | (with_reducible first | exact HB.out | apply below_alloc | apply pw_below_drewN | apply below_drew1) | exact HB.out))))
                  (case aL => have := LMc10.out; omega)
                  intro v151 w17 ho hb hg hat
                  rw [← Ny150.out] at ho
                  have n0_ := Aside0.mk (Kd.V_afterv (ok := (fun k_ => (P0_ k_ ∨ w.heap.size ≤ k_))) (by (with_reducible repeat (first | apply Kd.V_alloc | apply Kd.V_drewN | apply Kd.V_drew)); exact HO_0.out) hg hat)
                  have n1_ := Aside0.mk (Kd.V_afterv (ok := (fun k_ => (P0_ k_ ∨ w.heap.size ≤ k_))) (by (with_reducible repeat (first | apply Kd.V_alloc | apply Kd.V_drewN | apply Kd.V_drew)); exact HO157.out) hg hat)
                  have n2_ := Aside0.mk (hb)
                  have n3_ := Aside0.mk (ho)
                  clear HO_0
                  clear HO157
                  clear HB
                  clear HO_6
                  have HO_0 := n0_
                  have HO157 := n1_
                  have HB := n2_
                  have HO152 := n3_
                  clear n0_ n1_ n2_ n3_
                  clear ho hb hg hat
                  refine hK.out _ _ trivial (fun hHeld => ?_)
                  clear hK K
                  refine norm_ (a' := ?_) ?_ ?_
                  rotate_left
                  · show Act.put _ (some 29) _ = _
                    simp only [Act.put, List.setIfInBounds_toArray, List.set_cons_zero, List.set_cons_succ, i64_w, i32_w]
                    rfl
                  refine pure_ (i := 7) (N := some 6) (v := ?_) (a' := ?_) #[true, true, true, true, true, true, true, true, false] rfl rfl (any_of HT_.out (by kernel_rfl)) (fun _ _ _ h => h) (Or.inl ⟨by rfl, ?_⟩) ?_ ?_
                  rotate_left
                  · intro w'
                    go_simp
                    with_reducible rfl
                  rotate_left
                  · simp only [Act.put, List.setIfInBounds_toArray, List.set_cons_zero, List.set_cons_succ, i64_w, i32_w]
                    rfl
                  refine pure_ (i := 8) (N := some 0) (v := ?_) (a' := ?_) #[true, true, true, true, true, true, true, true, true] rfl rfl (any_of HT_.out (by kernel_rfl)) (fun _ _ _ h => h) (Or.inl ⟨by rfl, ?_⟩) ?_ ?_
                  rotate_left
                  · intro w'
                    go_simp
                    with_reducible rfl
                  rotate_left
                  · simp only [Act.put, List.setIfInBounds_toArray, List.set_cons_zero, List.set_cons_succ, i64_w, i32_w]
                    rfl
                  refine done_ (done_of HT_.out (by kernel_rfl)) ?_
                  try go_wp2
                  go_roundg k1
                  case measure => have := HK1.out; omega
                  case rel => exact ⟨(y153), (y150), H', ⟨by have := HK1.out; omega⟩, ⟨by (with_reducible repeat (first | apply Kd.V_alloc | apply Kd.V_drewN | apply Kd.V_drew)); exact HO157.out⟩, ⟨by (with_reducible repeat (first | apply Kd.R_alloc | apply Kd.R_drewN | apply Kd.R_drew)); exact HO152.out⟩, ⟨by repeat (first | (with_reducible first | exact HB.out | apply below_alloc | apply pw_below_drewN | apply below_drew1) | exact HB.out)⟩⟩
                · rw [if_neg c12] at H
                  exact absurd H (by simp)
              · rw [if_neg c11] at H
                exact absurd H (by simp)
            · rw [if_neg c10] at H
              exact absurd H (by simp)
      · rw [if_neg c3] at H
        have c3b0 : decide (0 < (x0_1.length : Int)) = false := decide_eq_false c3
        have c3b1 : decide (0 < x0_1.length) = false := decide_eq_false (by omega)
        clear c3
        simp only [Option.some.injEq, Prod.mk.injEq] at H
        obtain ⟨rfl, rfl⟩ := H
        obtain ⟨Ao18, co18, eo18⟩ := Kd.V_slice HO_0.out
        subst eo18
        go_wp2
        go_ret2
        exact ⟨_, by first | rfl | (simp [errW_none, errW_some] <;> rfl) | (simp [*, errW_none, errW_some] <;> rfl), by (with_reducible repeat (first | apply Kd.R_alloc | apply Kd.R_drewN | apply Kd.R_drew)); exact HO_6.out, by repeat (first | (with_reducible first | exact HB.out | apply below_alloc | apply pw_below_drewN | apply below_drew1) | exact HB.out)⟩
end Go.Proofs.Ytbbhdohjhipalaa.PNoteReads
end
section
namespace Go.Proofs.Ytbbhdohjhipalaa.PNoteReads
open Go.RowKit Go.Proofs.YtbbhdohjhipalaaW.PrintWords Go.Proofs.YtbbhdohjhipalaaW.PrintLast Go.Proofs.YtbbhdohjhipalaaW.PrintMore
open Go.Proofs.Ytbbhdohjhipalaa.Flow
set_option linter.unusedVariables false
set_option linter.unusedSimpArgs false
theorem take_f (b : List Int) (hb : Bytes b) (hl : b.length ≤ 140737488355328) (K : Nat) (hK : 12 ≤ K) : frame_take.f K b = some ((takeP b).1, (((takeP b).2 : Nat) : Int)) := by
  obtain ⟨k, rfl⟩ : ∃ k, K = k + 2 := ⟨K - 2, by omega⟩
  unfold frame_take.f takeP
  by_cases c1 : b.length = 0
  · rw [if_pos (by omega), if_pos c1, frame_take.j0, if_pos rfl]
    rfl
  rw [if_neg (by omega), if_neg c1, if_pos (by omega)]
  have hr := rd_range hb 0 (by omega)
  rw [show ((0 : Nat) : Int) = 0 from rfl] at hr
  by_cases c2 : 8 < rd b 0
  · rw [if_pos c2, if_pos c2, frame_take.j0, if_pos rfl]
    rfl
  rw [if_neg c2, if_neg c2]
  have e1 : wrap64 (rd b 0) = rd b 0 := wrap_id (by omega) (by omega)
  have e2 : wrap64 ((b.length : Int) - 1) = (b.length : Int) - 1 := wrap_id (by omega) (by omega)
  rw [e1, e2]
  by_cases c3 : (b.length : Int) - 1 < rd b 0
  · rw [if_pos c3, frame_take.j0, if_pos (decide_eq_true c3)]
    rfl
  rw [if_neg c3, frame_take.j0, if_neg (by rw [decide_eq_false c3]; decide), if_pos (by omega), e1]
  have e3 : wrap64 (1 + rd b 0) = 1 + rd b 0 := wrap_id (by omega) (by omega)
  have key : frame_take.j1 k.succ b (rd b 0) false = some (bk (valN ((b.take (1 + (rd b 0).toNat)).drop 1)), ((1 + (rd b 0).toNat : Nat) : Int)) := by
    rw [frame_take.j1, if_neg (by decide), e3, if_pos (by omega), if_pos (by omega), show (1 + rd b 0).toNat = 1 + (rd b 0).toNat by omega]
    have hB : Bytes ((b.take (1 + (rd b 0).toNat)).drop 1) := (hb.take _).drop _
    have hL : ((b.take (1 + (rd b 0).toNat)).drop 1).length ≤ 8 := by rw [List.length_drop, List.length_take]; omega
    have hv := valN_lt _ hB
    have h9 : 2 ^ (8 * ((b.take (1 + (rd b 0).toNat)).drop 1).length) ≤ 2 ^ 64 := Nat.pow_le_pow_right (by omega) (by omega)
    have hv64 : valN ((b.take (1 + (rd b 0).toNat)).drop 1) < 18446744073709551616 := Nat.lt_of_lt_of_le hv h9
    rw [high_f _ hB hL k (by omega), Option.bind_some, back_f _ hv64, Option.bind_some]
    congr 2
    omega
  by_cases c4 : 0 < rd b 0
  · rw [if_pos c4, if_pos (by omega), if_pos (by omega)]
    by_cases c5 : rd b (rd b 0) = 0
    · rw [if_pos ⟨c4, c5⟩, frame_take.j1, if_pos (by simpa using c5)]
      rfl
    · rw [if_neg (fun h => c5 h.2), show (rd b (rd b 0) == 0) = false by simpa using c5]
      exact key
  · rw [if_neg c4, if_neg (fun h => c4 h.1)]
    exact key
theorem PB_cons (y : Int) (ys : List Int) : PB (y :: ys) = numB y ++ PB ys := rfl
end Go.Proofs.Ytbbhdohjhipalaa.PNoteReads
end
section
namespace Go.Proofs.Ytbbhdohjhipalaa.PNoteReads
open Go.RowKit Go.Proofs.YtbbhdohjhipalaaW.PrintWords Go.Proofs.YtbbhdohjhipalaaW.PrintLast Go.Proofs.YtbbhdohjhipalaaW.PrintMore
set_option linter.unusedVariables false
set_option linter.unusedSimpArgs false
mutual
def estuaryref04_Number.j0 : Nat → Int → Option (List Int)
  | 0, _ => none
  | k + 1, x3 => estuaryref04_Number.l0 k x3 ([] : List Int)
def estuaryref04_Number.l0 : Nat → Int → List Int → Option (List Int)
  | 0, _, _ => none
  | k + 1, x3, x4 => if x3 > 0 then (if x4.length < 140737488355328 then (estuaryref04_Number.l0 k (IntKind.u64.wrap (Int.tdiv x3 256)) (x4 ++ [(Int.tmod x3 256) % 256])) else (none)) else ((some (([((x4.length : Int)) % 256] : List Int) : List Int)).bind fun y183 => (if y183.length + x4.length < 140737488355328 then (some (y183 ++ x4)) else (none)))
end
def estuaryref04_Number.f (k : Nat) (a0 : Int) : Option (List Int) := if a0 < 0 then (estuaryref04_Number.j0 k (IntKind.u64.wrap ((IntKind.u64.wrap ((IntKind.u64.wrap (wrap64 (-(wrap64 (a0 + 1))))) * 2)) + 1))) else (estuaryref04_Number.j0 k (IntKind.u64.wrap ((IntKind.u64.wrap (a0)) * 2)))
set_option maxHeartbeats 8000000 in
set_option maxRecDepth 100000 in
theorem estuaryref04_Number.calls (k : Nat) (a0 : Int) (r : List Int) (w : World) (h : estuaryref04_Number.f k a0 = some r) :
    Calls Try.prog 53 #[.int .i64 a0] w fun e w' => ∃ v0_ : Value, e = .returned (v0_) ∧ Kd.R (Kd.int .u8) 5 w' w.heap.size (fun _ => True) v0_ r ∧ Below w.heap.size w w' := by
  have HB := Aside0.mk (Below.refl w.heap.size w)
  have H : (if a0 < 0 then (estuaryref04_Number.j0 k (IntKind.u64.wrap ((IntKind.u64.wrap ((IntKind.u64.wrap (wrap64 (-(wrap64 (a0 + 1))))) * 2)) + 1))) else (estuaryref04_Number.j0 k (IntKind.u64.wrap ((IntKind.u64.wrap (a0)) * 2)))) = some r := h
  clear h
  have HC2 := Aside0.mk H
  clear H
  go_enter Try.func53, Try.ntmps53
  go_upto_if 9 with (fail)
  go_cut [3] (fun v3 wc => ∃ (kq : Nat) (x3_1 : Int), v3 = .int .u64 x3_1 ∧ Aside0 (estuaryref04_Number.j0 kq x3_1 = some r) ∧ Aside0 (kq ≤ k) ∧ Aside0 (Below w.heap.size w wc))
  case first =>
    have H := HC2.out
    clear HC2
    by_cases c3 : a0 < 0
    · rw [if_pos c3] at H
      have c3b0 : decide (a0 < 0) = true := decide_eq_true c3
      clear c3
      (first | rw [c3b0] | (simp only [i64_w, i32_w]; rw [c3b0]) | skip)
      have H' := Aside0.mk H
      clear H
      go_wp2
      go_meet
      case rel => exact ⟨_, (IntKind.u64.wrap ((IntKind.u64.wrap ((IntKind.u64.wrap (wrap64 (-(wrap64 (a0 + 1))))) * 2)) + 1)), (by first | rfl | (simp; done) | (simp [*]; done)), H', ⟨by first | omega | exact Nat.le_refl _⟩, ⟨by repeat (first | (with_reducible first | exact HB.out | apply below_alloc | apply pw_below_drewN | apply below_drew1) | exact HB.out)⟩⟩
    · rw [if_neg c3] at H
      have c3b0 : decide (a0 < 0) = false := decide_eq_false c3
      clear c3
      (first | rw [c3b0] | (simp only [i64_w, i32_w]; rw [c3b0]) | skip)
      have H' := Aside0.mk H
      clear H
      go_wp2
      go_meet
      case rel => exact ⟨_, (IntKind.u64.wrap ((IntKind.u64.wrap (a0)) * 2)), (by first | rfl | (simp; done) | (simp [*]; done)), H', ⟨by first | omega | exact Nat.le_refl _⟩, ⟨by repeat (first | (with_reducible first | exact HB.out | apply below_alloc | apply pw_below_drewN | apply below_drew1) | exact HB.out)⟩⟩
  case rest =>
    clear HC2
    try clear p2
    try clear c3
    try clear c3b0
    obtain ⟨kq, x3_1, rfl, HA, HJ1, HB⟩ := hcut
    cases kq with
    | zero => exact absurd HA.out (by simp [estuaryref04_Number.j0])
    | succ kj1 =>
      have H := HA.out
      clear HA
      simp only [estuaryref04_Number.j0] at H
      have H' := Aside0.mk H
      clear H
      go_wp2
      go_loopg [3, 4] kj1 (fun kq v3 v4 w' => ∃ (x3_2 : Int) (x4_2 : List Int), v3 = .int .u64 x3_2 ∧ Aside0 (estuaryref04_Number.l0 kq x3_2 x4_2 = some r) ∧ Aside0 (kq ≤ kj1) ∧ Aside0 (Kd.R (Kd.int .u8) 5 w' w.heap.size (fun _ => True) v4 x4_2) ∧ Aside0 (Below w.heap.size w w'))
      case atStart => exact ⟨(x3_1), (([] : List Int)), (by first | rfl | (simp; done) | (simp [*]; done)), H', ⟨Nat.le_refl _⟩, ⟨by first | exact Kd.R_nil _ _ _ _ _ | exact Kd.N_nil _ _ _ _ _ | exact Kd.V_nil _ _ _ _ _ | exact Kd.Q_nil _ _ _ _ _ | exact Kd.S_nil _ _ _ _ _⟩, ⟨by repeat (first | (with_reducible first | exact HB.out | apply below_alloc | apply pw_below_drewN | apply below_drew1) | exact HB.out)⟩⟩
      case round =>
        clear H'
        try clear p2
        try clear c3
        try clear c3b0
        try clear p2
        obtain ⟨x3_2, x4_2, rfl, HA, HK2, HO_4, HB⟩ := hrel
        cases gk with
        | zero => exact absurd HA.out (by simp [estuaryref04_Number.l0])
        | succ k2 =>
          have H := HA.out
          clear HA
          simp only [estuaryref04_Number.l0] at H
          by_cases c4 : x3_2 > 0
          · rw [if_pos c4] at H
            have c4b0 : decide (0 < x3_2) = true := decide_eq_true c4
            clear c4
            by_cases c5 : x4_2.length < 140737488355328
            · rw [if_pos c5] at H
              have LMc5 := Aside0.mk c5
              clear c5
              obtain ⟨y180, hy180⟩ : ∃ y_ : List Int, y_ = (x4_2 ++ [(Int.tmod x3_2 256) % 256]) := ⟨_, rfl⟩
              replace H : (estuaryref04_Number.l0 k2 (IntKind.u64.wrap (Int.tdiv x3_2 256)) y180) = some r := by first | (rw [hy180]; with_reducible exact H) | (have H2_ := (Option.bind_some _ _).symm.trans H; rw [hy180]; with_reducible exact H2_) | (have H2_ := (Option.bind_some _ _).symm.trans H; with_reducible exact H2_) | with_reducible exact H | (rw [hy180]; exact H) | exact H
              have Ny180 := Aside0.mk hy180
              clear hy180
              have H' := Aside0.mk H
              clear H
              go_wp2_with (first | ((with_reducible refine gate_builtin (b := .append) (xs := #[.tmp 18, .tmp 22]) rfl ?_); at_builtin; refine Kd.R_append (Kd.int .u8) (w0 := w) w.heap.size rfl (.tmp 18) (.tmp 22) 30 5 (.int .u8 0) 1 rfl Try.underlying30 info5 rfl (by decide) (by omega) u4 x4_2 ((Int.tmod x3_2 256) % 256) [.int .u8 ((Int.tmod x3_2 256) % 256)] (fun _ => True) (fun _ => False) rfl rfl ?aP (fun _ hk => hk.elim) ?aF ?aO ?aB ?aS ?aL ?_; (case aP => exact rfl); (case aB => exact (by repeat (first | (with_reducible first | exact HB.out | apply below_alloc | apply pw_below_drewN | apply below_drew1) | exact HB.out))); (case aF => exact (fun _ _ => trivial)); (case aO => exact (by (with_reducible repeat (first | apply Kd.R_alloc | apply Kd.R_drewN | apply Kd.R_drew)); exact HO_4.out)); (case aS => exact (below_size (by repeat (first | (with_reducible first | exact HB.out | apply below_alloc | apply pw_below_drewN | apply below_drew1) | exact HB.out)))); (case aL => have := LMc5.out; omega); intro v181 w6 ho hb hg hat; rw [← Ny180.out] at ho; have n0_ := Aside0.mk (hb); have n1_ := Aside0.mk (ho); clear HB; clear HO_4; have HB := n0_; have HO182 := n1_; clear n0_ n1_; clear ho hb hg hat))
              go_roundg k2
              case measure => have := HJ1.out; have := HK2.out; omega
              case rel => exact ⟨(IntKind.u64.wrap (Int.tdiv x3_2 256)), (y180), (by first | rfl | (simp; done) | (simp [*]; done)), H', ⟨by have := HJ1.out; have := HK2.out; omega⟩, ⟨by (with_reducible repeat (first | apply Kd.R_alloc | apply Kd.R_drewN | apply Kd.R_drew)); exact HO182.out⟩, ⟨by repeat (first | (with_reducible first | exact HB.out | apply below_alloc | apply pw_below_drewN | apply below_drew1) | exact HB.out)⟩⟩
            · rw [if_neg c5] at H
              exact absurd H (by simp)
          · rw [if_neg c4] at H
            have c4b0 : decide (0 < x3_2) = false := decide_eq_false c4
            clear c4
            obtain ⟨y183, hy183⟩ : ∃ y_ : List Int, y_ = (([((x4_2.length : Int)) % 256] : List Int)) := ⟨_, rfl⟩
            replace H : (if y183.length + x4_2.length < 140737488355328 then (some (y183 ++ x4_2)) else (none)) = some r := by first | (rw [hy183]; with_reducible exact H) | (have H2_ := (Option.bind_some _ _).symm.trans H; rw [hy183]; with_reducible exact H2_) | (have H2_ := (Option.bind_some _ _).symm.trans H; with_reducible exact H2_) | with_reducible exact H | (rw [hy183]; exact H) | exact H
            have Ny183 := Aside0.mk hy183
            clear hy183
            by_cases c7 : y183.length + x4_2.length < 140737488355328
            · rw [if_pos c7] at H
              have LMc7 := Aside0.mk c7
              clear c7
              obtain ⟨y186, hy186⟩ : ∃ y_ : List Int, y_ = (y183 ++ x4_2) := ⟨_, rfl⟩
              replace H : (some y186) = some r := by first | (rw [hy186]; with_reducible exact H) | (have H2_ := (Option.bind_some _ _).symm.trans H; rw [hy186]; with_reducible exact H2_) | (have H2_ := (Option.bind_some _ _).symm.trans H; with_reducible exact H2_) | with_reducible exact H | (rw [hy186]; exact H) | exact H
              have Ny186 := Aside0.mk hy186
              clear hy186
              obtain rfl := Option.some.inj H
              obtain ⟨Ao8, co8, eo8⟩ := Kd.R_slice HO_4.out
              subst eo8
              go_wp2_with (first | ((with_reducible refine gate_dst (N := 29) rfl ?_); refine Kd.R_lit (Kd.int .u8) _ 5 ?hg (N := 29) ?hd (xs := ([((x4_2.length : Int)) % 256] : List Int)) (inner := [.int .u8 (((x4_2.length : Int)) % 256)]) (ok := fun _ => True) (okp := fun _ => True) ?hr ?hp (fun _ hk => hk) trivial (Below.refl _ _) (Nat.le_refl _) (by simp) ?_; (case hd => rfl); (case hg => rfl); (case hr => first | (go_simp; done) | (go_simp; rfl)); (case hp => exact (Reps.one (show Kd.M (Kd.int .u8) _ _ _ (((x4_2.length : Int)) % 256) [.int .u8 (((x4_2.length : Int)) % 256)] from rfl) (Reps.none _ _))); intro v184 w9 ho10 hb hg_ hnew_; clear hg_ hnew_; (first | rw [← Ny183.out] at ho10 | (simp only [Int.reduceToNat] at ho10; rw [← Ny183.out] at ho10)); have n0_ := Aside0.mk (Kd.R_elder' (by (with_reducible repeat (first | apply Kd.R_alloc | apply Kd.R_drewN | apply Kd.R_drew)); exact HO_4.out) (Kd.R_base ho10) hb); have n1_ := Aside0.mk (Kd.R_lower (Kd.R_new' ho10 (Kd.R_lt (by (with_reducible repeat (first | apply Kd.R_alloc | apply Kd.R_drewN | apply Kd.R_drew)); exact HO_4.out))) (below_size (by repeat (first | (with_reducible first | exact HB.out | apply below_alloc | apply pw_below_drewN | apply below_drew1) | exact HB.out)))); have n2_ := Aside0.mk (below_step (by repeat (first | (with_reducible first | exact HB.out | apply below_alloc | apply pw_below_drewN | apply below_drew1) | exact HB.out)) hb); clear HO_4; clear HB; have HO_4 := n0_; have HO185 := n1_; have HB := n2_; clear n0_ n1_ n2_; clear hb ho10) | ((with_reducible refine gate_builtin (b := .append) (xs := #[.tmp 29, .tmp 30]) rfl ?_); at_builtin; refine Kd.R_append_rows (Kd.int .u8) (w0 := w) w.heap.size rfl (.tmp 29) (.tmp 30) 30 5 (.int .u8 0) 1 rfl Try.underlying30 info5 rfl (by decide) (by omega) v184 y183 x4_2 _ _ _ (fun k_ => some k_ ≠ (.slice Ao8 x4_2.length co8 : Value).ownBlock) (fun _ => False) rfl rfl ?aO ?aR (fun _ _ h => h) (fun _ h => h.elim) ?aF ?aB ?aS ?aL ?_; (case aR => repeat (first | exact (Kd.R_reads' HO_4.out).2.2 | (with_reducible refine Kd.C_alloc ?_ _) | (with_reducible refine Kd.C_drewN ?_ _) | (with_reducible refine Kd.C_drew ?_))); (case aB => exact (by repeat (first | (with_reducible first | exact HB.out | apply below_alloc | apply pw_below_drewN | apply below_drew1) | exact HB.out))); (case aF => exact (fun k_ hk => Kd.fresh' (Kd.R_lt (by (with_reducible repeat (first | apply Kd.R_alloc | apply Kd.R_drewN | apply Kd.R_drew)); exact HO_4.out)) k_ hk)); (case aO => exact (by (with_reducible repeat (first | apply Kd.R_alloc | apply Kd.R_drewN | apply Kd.R_drew)); exact Kd.R_mono HO185.out (fun _ hk => hk.2))); (case aS => exact (below_size (by repeat (first | (with_reducible first | exact HB.out | apply below_alloc | apply pw_below_drewN | apply below_drew1) | exact HB.out)))); (case aL => have := LMc7.out; omega); intro v187 w11 ho hb hg hat; rw [← Ny186.out] at ho; have n0_ := Aside0.mk (Kd.R_after (ok := (fun _ => True)) (by (with_reducible repeat (first | apply Kd.R_alloc | apply Kd.R_drewN | apply Kd.R_drew)); exact HO_4.out) hg hat); have n1_ := Aside0.mk (hb); have n2_ := Aside0.mk (ho); clear HO_4; clear HB; clear HO185; have HO_4 := n0_; have HB := n1_; have HO188 := n2_; clear n0_ n1_ n2_; clear ho hb hg hat))
              go_ret
              exact ⟨_, by first | rfl | (simp [errW_none, errW_some] <;> rfl) | (simp [*, errW_none, errW_some] <;> rfl), by (with_reducible repeat (first | apply Kd.R_alloc | apply Kd.R_drewN | apply Kd.R_drew)); exact Kd.R_mono HO188.out (fun _ hk => trivial), by repeat (first | (with_reducible first | exact HB.out | apply below_alloc | apply pw_below_drewN | apply below_drew1) | exact HB.out)⟩
            · rw [if_neg c7] at H
              exact absurd H (by simp)
def estuaryref04_Put.l0 : Nat → List Int → List Int → Int → Option (List Int)
  | 0, _, _, _ => none
  | k + 1, x1, x5, x6 => if x6 < (x1.length : Int) then (if 0 ≤ x6 then ((estuaryref04_Number.f k (rd x1 x6)).bind fun t196 => (if x5.length + t196.length < 140737488355328 then (estuaryref04_Put.l0 k x1 (x5 ++ t196) (wrap64 (x6 + 1))) else (none))) else (none)) else (some x5)
def estuaryref04_Put.f (k : Nat) (l0 : List Int) (l1 : List Int) : Option (List Int) := (some (([] : List Int) : List Int)).bind fun y189 => (if y189.length + l0.length < 140737488355328 then (estuaryref04_Put.l0 k l1 (y189 ++ l0) 0) else (none))
set_option maxHeartbeats 8000000 in
set_option maxRecDepth 100000 in
theorem estuaryref04_Put.calls (k : Nat) (A0 : Option Addr) (c0 : Nat) (l0 : List Int) (A1 : Option Addr) (c1 : Nat) (l1 : List Int) (r : List Int) (w : World) (hr0 : Kd.C (Kd.int .u8) w A0 l0.length l0) (hc0 : l0.length ≤ c0) (hr1 : Kd.C (Kd.int .i64) w A1 l1.length l1) (hc1 : l1.length ≤ c1) (h : estuaryref04_Put.f k l0 l1 = some r) :
    Calls Try.prog 31 #[.slice A0 l0.length c0, .slice A1 l1.length c1] w fun e w' => ∃ v0_ : Value, e = .returned (v0_) ∧ Kd.R (Kd.int .u8) 5 w' w.heap.size (fun _ => True) v0_ r ∧ Below w.heap.size w w' := by
  have HR0 := Aside0.mk hr0
  have HC0 := Aside0.mk hc0
  clear hr0 hc0
  have HR1 := Aside0.mk hr1
  have HC1 := Aside0.mk hc1
  clear hr1 hc1
  have HB := Aside0.mk (Below.refl w.heap.size w)
  have H : ((some (([] : List Int) : List Int)).bind fun y189 => (if y189.length + l0.length < 140737488355328 then (estuaryref04_Put.l0 k l1 (y189 ++ l0) 0) else (none))) = some r := h
  clear h
  obtain ⟨y189, hy189⟩ : ∃ y_ : List Int, y_ = (([] : List Int)) := ⟨_, rfl⟩
  replace H : (if y189.length + l0.length < 140737488355328 then (estuaryref04_Put.l0 k l1 (y189 ++ l0) 0) else (none)) = some r := by first | (rw [hy189]; with_reducible exact H) | (have H2_ := (Option.bind_some _ _).symm.trans H; rw [hy189]; with_reducible exact H2_) | (have H2_ := (Option.bind_some _ _).symm.trans H; with_reducible exact H2_) | with_reducible exact H | (rw [hy189]; exact H) | exact H
  have Ny189 := Aside0.mk hy189
  clear hy189
  by_cases c3 : y189.length + l0.length < 140737488355328
  · rw [if_pos c3] at H
    have LMc3 := Aside0.mk c3
    clear c3
    obtain ⟨y192, hy192⟩ : ∃ y_ : List Int, y_ = (y189 ++ l0) := ⟨_, rfl⟩
    replace H : (estuaryref04_Put.l0 k l1 y192 0) = some r := by first | (rw [hy192]; with_reducible exact H) | (have H2_ := (Option.bind_some _ _).symm.trans H; rw [hy192]; with_reducible exact H2_) | (have H2_ := (Option.bind_some _ _).symm.trans H; with_reducible exact H2_) | with_reducible exact H | (rw [hy192]; exact H) | exact H
    have Ny192 := Aside0.mk hy192
    clear hy192
    have H' := Aside0.mk H
    clear H
    go_enter Try.func31, Try.ntmps31
    go_wp2_with (first | ((with_reducible refine gate_dst (N := 7) rfl ?_); refine Kd.R_lit (Kd.int .u8) _ 5 ?hg (N := 7) ?hd (xs := ([] : List Int)) (inner := []) (ok := fun _ => True) (okp := fun _ => True) ?hr ?hp (fun _ hk => hk) trivial (Below.refl _ _) (Nat.le_refl _) (by simp) ?_; (case hd => rfl); (case hg => rfl); (case hr => first | (go_simp; done) | (go_simp; rfl)); (case hp => exact (Reps.none _ _)); intro v190 w4 ho5 hb hg_ hnew_; clear hg_ hnew_; (first | rw [← Ny189.out] at ho5 | (simp only [Int.reduceToNat] at ho5; rw [← Ny189.out] at ho5)); have n0_ := Aside0.mk (Kd.R_lower ho5 (below_size (by repeat (first | (with_reducible first | exact HB.out | apply below_alloc | apply pw_below_drewN | apply below_drew1) | exact HB.out)))); have n1_ := Aside0.mk (below_step (by repeat (first | (with_reducible first | exact HB.out | apply below_alloc | apply pw_below_drewN | apply below_drew1) | exact HB.out)) hb); clear HB; have HO191 := n0_; have HB := n1_; clear n0_ n1_; clear hb ho5) | ((with_reducible refine gate_builtin (b := .append) (xs := #[.tmp 7, .tmp 8]) rfl ?_); at_builtin; refine Kd.R_append_rows (Kd.int .u8) (w0 := w) w.heap.size rfl (.tmp 7) (.tmp 8) 30 5 (.int .u8 0) 1 rfl Try.underlying30 info5 rfl (by decide) (by omega) v190 y189 l0 _ _ _ (fun _ => True) (fun _ => False) rfl rfl ?aO ?aR (fun _ _ h => h) (fun _ h => h.elim) ?aF ?aB ?aS ?aL ?_; (case aR => repeat (first | exact (Kd.C_below HR0.out HB.out) | (with_reducible refine Kd.C_alloc ?_ _) | (with_reducible refine Kd.C_drewN ?_ _) | (with_reducible refine Kd.C_drew ?_))); (case aB => exact (by repeat (first | (with_reducible first | exact HB.out | apply below_alloc | apply pw_below_drewN | apply below_drew1) | exact HB.out))); (case aF => exact (fun _ _ => trivial)); (case aO => exact (by (with_reducible repeat (first | apply Kd.R_alloc | apply Kd.R_drewN | apply Kd.R_drew)); exact HO191.out)); (case aS => exact (below_size (by repeat (first | (with_reducible first | exact HB.out | apply below_alloc | apply pw_below_drewN | apply below_drew1) | exact HB.out)))); (case aL => have := LMc3.out; omega); intro v193 w6 ho hb hg hat; rw [← Ny192.out] at ho; have n0_ := Aside0.mk (hb); have n1_ := Aside0.mk (ho); clear HB; clear HO191; have HB := n0_; have HO194 := n1_; clear n0_ n1_; clear ho hb hg hat))
    go_loopg [5, 6] k (fun kq v5 v6 w' => ∃ (x5_1 : List Int) (x6_1 : Int), v6 = .int .i64 x6_1 ∧ Aside0 (estuaryref04_Put.l0 kq l1 x5_1 x6_1 = some r) ∧ Aside0 (kq ≤ k) ∧ Aside0 (Kd.R (Kd.int .u8) 5 w' w.heap.size (fun _ => True) v5 x5_1) ∧ Aside0 (Below w.heap.size w w'))
    case atStart => exact ⟨(y192), (0), (by first | rfl | (simp; done) | (simp [*]; done)), H', ⟨Nat.le_refl _⟩, ⟨by (with_reducible repeat (first | apply Kd.R_alloc | apply Kd.R_drewN | apply Kd.R_drew)); exact HO194.out⟩, ⟨by repeat (first | (with_reducible first | exact HB.out | apply below_alloc | apply pw_below_drewN | apply below_drew1) | exact HB.out)⟩⟩
    case round =>
      clear H'
      try clear c1
      try clear p2
      try clear c3
      obtain ⟨x5_1, x6_1, rfl, HA, HK1, HO_5, HB⟩ := hrel
      cases gk with
      | zero => exact absurd HA.out (by simp [estuaryref04_Put.l0])
      | succ k1 =>
        have H := HA.out
        clear HA
        simp only [estuaryref04_Put.l0] at H
        by_cases c7 : x6_1 < (l1.length : Int)
        · rw [if_pos c7] at H
          have c7b0 : decide (x6_1 < (l1.length : Int)) = true := decide_eq_true c7
          clear c7
          by_cases c8 : 0 ≤ x6_1
          · rw [if_pos c8] at H
            have c8b0 : decide (0 ≤ x6_1) = true := decide_eq_true c8
            clear c8
            replace H := Option.bind_eq_some_iff.mp H
            obtain ⟨t196, A90, H⟩ := H
            replace H : (if x5_1.length + t196.length < 140737488355328 then (estuaryref04_Put.l0 k1 l1 (x5_1 ++ t196) (wrap64 (x6_1 + 1))) else (none)) = some r := H
            have A9 := Aside0.mk A90
            clear A90
            by_cases c10 : x5_1.length + t196.length < 140737488355328
            · rw [if_pos c10] at H
              have LMc10 := Aside0.mk c10
              clear c10
              obtain ⟨y199, hy199⟩ : ∃ y_ : List Int, y_ = (x5_1 ++ t196) := ⟨_, rfl⟩
              replace H : (estuaryref04_Put.l0 k1 l1 y199 (wrap64 (x6_1 + 1))) = some r := by first | (rw [hy199]; with_reducible exact H) | (have H2_ := (Option.bind_some _ _).symm.trans H; rw [hy199]; with_reducible exact H2_) | (have H2_ := (Option.bind_some _ _).symm.trans H; with_reducible exact H2_) | with_reducible exact H | (rw [hy199]; exact H) | exact H
              have Ny199 := Aside0.mk hy199
              clear hy199
              have H' := Aside0.mk H
              clear H
              have p195 : 0 ≤ (x6_1 : Int) := of_decide_eq_true (by first | (with_reducible assumption) | assumption)
              have q195 : x6_1 < (l1.length : Int) := of_decide_eq_true (by first | (with_reducible assumption) | assumption)
              obtain ⟨ad195, e195, hx195_0⟩ := Kd.at_int HR1.out x6_1 p195 q195
              cases e195
              replace hx195_0 := (HB.out.cell (World.block_lt_of_cell? w _ hx195_0)).trans hx195_0
              replace p195 := eq_true p195
              replace q195 := eq_true q195
              go_wp2_with (first | ((with_reducible refine gate_callee (f := 53) rfl ?_); refine goesL_ (some 21) rfl rfl Try.func53 (by kernel_rfl) rfl #[.int .i64 (rd l1 x6_1)] rfl (by (try simp only [List.map_toArray, List.map_cons, List.map_nil]); first | done | rfl | (simp only [List.length_drop, List.length_take]; rfl)) ?_; (with_reducible refine (estuaryref04_Number.calls k1 (rd l1 x6_1) t196 _ A9.out).mono ?_); rintro e w11 ⟨v197, rfl, ho0, hb⟩; refine ⟨_, rfl, ?_⟩; have n0_ := Aside0.mk (Kd.R_elder' (by (with_reducible repeat (first | apply Kd.R_alloc | apply Kd.R_drewN | apply Kd.R_drew)); exact HO_5.out) (Kd.R_base ho0) hb); have n1_ := Aside0.mk (Kd.R_lower (Kd.R_new' ho0 (Kd.R_lt (by (with_reducible repeat (first | apply Kd.R_alloc | apply Kd.R_drewN | apply Kd.R_drew)); exact HO_5.out))) (below_size (by repeat (first | (with_reducible first | exact HB.out | apply below_alloc | apply pw_below_drewN | apply below_drew1) | exact HB.out)))); have n2_ := Aside0.mk (below_step (by repeat (first | (with_reducible first | exact HB.out | apply below_alloc | apply pw_below_drewN | apply below_drew1) | exact HB.out)) hb); clear HO_5; clear HB; have HO_5 := n0_; have HO198 := n1_; have HB := n2_; clear n0_ n1_ n2_; (try clear hb); (try clear hb2); (try clear hk); (try clear hi); (try clear ho0); obtain ⟨Ao13, co13, eo13⟩ := Kd.R_slice HO198.out; subst eo13) | ((with_reducible refine gate_builtin (b := .append) (xs := #[.tmp 16, .tmp 21]) rfl ?_); at_builtin; refine Kd.R_append_rows (Kd.int .u8) (w0 := w) w.heap.size rfl (.tmp 16) (.tmp 21) 30 5 (.int .u8 0) 1 rfl Try.underlying30 info5 rfl (by decide) (by omega) u5 x5_1 t196 _ _ _ (fun k_ => some k_ ≠ (.slice Ao13 t196.length co13 : Value).ownBlock) (fun _ => False) rfl rfl ?aO ?aR (fun _ _ h => h) (fun _ h => h.elim) ?aF ?aB ?aS ?aL ?_; (case aR => repeat (first | exact (Kd.R_reads' HO198.out).2.2 | (with_reducible refine Kd.C_alloc ?_ _) | (with_reducible refine Kd.C_drewN ?_ _) | (with_reducible refine Kd.C_drew ?_))); (case aB => exact (by repeat (first | (with_reducible first | exact HB.out | apply below_alloc | apply pw_below_drewN | apply below_drew1) | exact HB.out))); (case aF => exact (fun k_ hk => Kd.fresh' (Kd.R_lt (by (with_reducible repeat (first | apply Kd.R_alloc | apply Kd.R_drewN | apply Kd.R_drew)); exact HO198.out)) k_ hk)); (case aO => exact (by (with_reducible repeat (first | apply Kd.R_alloc | apply Kd.R_drewN | apply Kd.R_drew)); exact Kd.R_mono HO_5.out (fun _ hk => hk.2))); (case aS => exact (below_size (by repeat (first | (with_reducible first | exact HB.out | apply below_alloc | apply pw_below_drewN | apply below_drew1) | exact HB.out)))); (case aL => have := LMc10.out; omega); intro v200 w12 ho hb hg hat; rw [← Ny199.out] at ho; have n0_ := Aside0.mk (Kd.R_after (ok := (fun _ => True)) (by (with_reducible repeat (first | apply Kd.R_alloc | apply Kd.R_drewN | apply Kd.R_drew)); exact HO198.out) hg hat); have n1_ := Aside0.mk (hb); have n2_ := Aside0.mk (ho); clear HO198; clear HB; clear HO_5; have HO198 := n0_; have HB := n1_; have HO201 := n2_; clear n0_ n1_ n2_; clear ho hb hg hat))
              go_roundg k1
              case measure => have := HK1.out; omega
              case rel => exact ⟨(y199), (wrap64 (x6_1 + 1)), (by first | rfl | (simp; done) | (simp [*]; done)), H', ⟨by have := HK1.out; omega⟩, ⟨by (with_reducible repeat (first | apply Kd.R_alloc | apply Kd.R_drewN | apply Kd.R_drew)); exact Kd.R_mono HO201.out (fun _ hk => trivial)⟩, ⟨by repeat (first | (with_reducible first | exact HB.out | apply below_alloc | apply pw_below_drewN | apply below_drew1) | exact HB.out)⟩⟩
            · rw [if_neg c10] at H
              exact absurd H (by simp)
          · rw [if_neg c8] at H
            exact absurd H (by simp)
        · rw [if_neg c7] at H
          have c7b0 : decide (x6_1 < (l1.length : Int)) = false := decide_eq_false c7
          clear c7
          obtain rfl := Option.some.inj H
          go_wp2
          go_ret
          exact ⟨_, by first | rfl | (simp [errW_none, errW_some] <;> rfl) | (simp [*, errW_none, errW_some] <;> rfl), by (with_reducible repeat (first | apply Kd.R_alloc | apply Kd.R_drewN | apply Kd.R_drew)); exact HO_5.out, by repeat (first | (with_reducible first | exact HB.out | apply below_alloc | apply pw_below_drewN | apply below_drew1) | exact HB.out)⟩
  · rw [if_neg c3] at H
    exact absurd H (by simp)
end Go.Proofs.Ytbbhdohjhipalaa.PNoteReads
end
section
namespace Go.Proofs.Ytbbhdohjhipalaa.Flow
open Go.RowKit Go.Proofs.YtbbhdohjhipalaaW.PrintWords Go.Proofs.YtbbhdohjhipalaaW.PrintLast Go.Proofs.YtbbhdohjhipalaaW.PrintMore
set_option linter.unusedVariables false
set_option linter.unusedSimpArgs false
def adr (A : Option Addr) (c lo : Nat) : Option Addr := if c = lo then A else A.map (·.add (lo * 1))
section
variable {P : Program} {t e : TypeId} {A : Option Addr} {n c : Nat} {xs : List Int}
theorem run_to (hu : P.underlying t = some (.slice e)) (hz : ∀ w, (sizeOf e).run P w = .ok 1 w) (hi : Nat) (y : Int) (hy : y = (hi : Int)) (hn : n = xs.length) (h2 : hi ≤ xs.length) (hc : n ≤ c) (w : World) :
    (Instr.sliceAt t (.slice A n c) none (some (.int .i64 y)) none).run P w = .ok (.slice A (xs.take hi).length c) w := by
  subst hy hn
  have hl : (xs.take hi).length = hi := by rw [List.length_take]; omega
  have h3 : hi ≤ c := by omega
  rw [hl]
  simp [go_sem, hu, hz, h3]
theorem run_mid (hu : P.underlying t = some (.slice e)) (hz : ∀ w, (sizeOf e).run P w = .ok 1 w) (lo hi : Nat) (x y : Int) (hx : x = (lo : Int)) (hy : y = (hi : Int)) (hn : n = xs.length) (h1 : lo ≤ hi) (h2 : hi ≤ xs.length) (hc : n ≤ c) (w : World) :
    (Instr.sliceAt t (.slice A n c) (some (.int .i64 x)) (some (.int .i64 y)) none).run P w = .ok (.slice (adr A c lo) ((xs.take hi).drop lo).length (c - lo)) w := by
  subst hx hy hn
  have hl : ((xs.take hi).drop lo).length = hi - lo := by rw [List.length_drop, List.length_take]; omega
  have h3 : hi ≤ c := by omega
  have h4 : ¬ hi < lo := by omega
  rw [hl]
  simp [go_sem, hu, hz, h3, h1, adr, sliced]
  try omega
theorem run_from (hu : P.underlying t = some (.slice e)) (hz : ∀ w, (sizeOf e).run P w = .ok 1 w) (lo : Nat) (x : Int) (hx : x = (lo : Int)) (hn : n = xs.length) (h1 : lo ≤ xs.length) (hc : n ≤ c) (w : World) :
    (Instr.sliceAt t (.slice A n c) (some (.int .i64 x)) none none).run P w = .ok (.slice (adr A c lo) (xs.drop lo).length (c - lo)) w := by
  subst hx hn
  have hl : (xs.drop lo).length = xs.length - lo := List.length_drop
  rw [hl]
  simp [go_sem, hu, hz, h1, hc, adr, sliced]
  try omega
end
section
variable {k : IntKind} {w : World} {A : Option Addr} {n c : Nat} {xs : List Int}
theorem to_C (h : (Kd.int k).C w A xs.length xs) (hi : Nat) (h2 : hi ≤ xs.length) : (Kd.int k).C w A (xs.take hi).length (xs.take hi) := Kd.C_take h h2
theorem mid_C (h : (Kd.int k).C w A xs.length xs) (lo hi : Nat) (h1 : lo ≤ hi) (h2 : hi ≤ xs.length) (hc : xs.length ≤ c) : (Kd.int k).C w (adr A c lo) ((xs.take hi).drop lo).length ((xs.take hi).drop lo) := Kd.C_mid h h1 h2 hc
theorem from_C (h : (Kd.int k).C w A xs.length xs) (lo : Nat) (h1 : lo ≤ xs.length) (hc : xs.length ≤ c) : (Kd.int k).C w (adr A c lo) (xs.drop lo).length (xs.drop lo) := Kd.C_drop h h1 hc
end
end Go.Proofs.Ytbbhdohjhipalaa.Flow
end
section
namespace Go.Proofs.Ytbbhdohjhipalaa.PNoteReads
open Go.RowKit Go.Proofs.YtbbhdohjhipalaaW.PrintWords Go.Proofs.YtbbhdohjhipalaaW.PrintLast Go.Proofs.YtbbhdohjhipalaaW.PrintMore
open Go.Proofs.Ytbbhdohjhipalaa.Flow
set_option linter.unusedVariables false
set_option linter.unusedSimpArgs false
theorem make0_run (w : World) (l : Int) (n : Nat) (hl : l = (n : Int)) (hn : n ≤ 16777216) : (Instr.makeSlice 30 (.int .i64 0) (.int .i64 l)).run Try.prog w = .ok (.slice (some ⟨w.heap.size, 0, none⟩) 0 n) (w.alloc (.cells (madeCells #[Value.int .u8 0] n) 5)) := by
  subst hl
  obtain ⟨i5, hi5, hz5⟩ := Option.map_eq_some_iff.1 info5
  simp only [Prod.mk.injEq] at hz5
  have h := run_makeSlice (P := Try.prog) w 30 5 i5 (.int .u8 0) (by kernel_rfl) hi5 hz5.1 .i64 .i64 0 (n : Int) (by omega) (by omega) (by rw [hz5.2.1]; omega) (by rw [hz5.2.2]; omega) (by omega)
  simp only [Int.toNat_natCast, hz5.2.1, Nat.mul_one] at h
  exact h
theorem upto_run {P : Program} {t e : TypeId} (hu : P.underlying t = some (.slice e)) {sz : Nat} (hz : ∀ w, (sizeOf e).run P w = .ok sz w) {A : Option Addr} {n c : Nat} {x : Int} (h0 : 0 ≤ x) (h1 : x ≤ c) (w : World) : (Instr.sliceAt t (.slice A n c) none (some (.int .i64 x)) none).run P w = .ok (.slice A x.toNat c) w := by
  simp [go_sem, hu, h0, h1, hz]
theorem made_size (n : Nat) : (madeCells #[Value.int .u8 0] n).size = n := by
  rw [← Array.length_toList, toList_madeCells_one]
  simp
set_option maxHeartbeats 4000000 in
theorem copy_calls (w : World) (A0 : Option Addr) (c0 : Nat) (b : List Int) (hC : (Kd.int .u8).C w A0 b.length b) (hc : b.length ≤ c0) (hl : b.length ≤ 1000000) :
  Calls Try.prog 18 #[.slice A0 b.length c0] w fun e w' => ∃ A' c', e = .returned (.slice A' b.length c') ∧ Own .u8 5 w' w.heap.size w.heap.size A' (b.length + 2) c' (b ++ [165, 90]) ∧ Below w.heap.size w w' := by
 refine calls_flow Try.func18 rfl 14 rfl (Nat.le_of_ble_eq_true rfl) [(0, .slice A0 b.length c0)] ?_ ?_
 ·
  intro t v h; exact args_look rfl t v h
 refine wsr ?_
 refine rv (.slice none 0 0) ?_
 refine rw_end ?_
 refine wsr ?_
 refine rv (.slice A0 b.length c0) ?_
 refine rs2 (.int .i64 (b.length : Int)) ?_
 refine rz (.int .i64 ((b.length + 2 : Nat) : Int)) (by simp [go_sem, sEv, sLook, nbeq, i64_w, -List.length_flatten]; exact wrap_id (by omega) (by omega)) ?_
 refine rw_new (cs := madeCells #[Value.int .u8 0] (b.length + 2)) (t := 5) (fun g => .slice (some ⟨g, 0, none⟩) 0 (b.length + 2)) rfl rfl rfl rfl (run_as (make0_run _ _ (b.length + 2) (by omega) (by omega))) ?_
 intro g1 w2 hg6 hz5 hb3 hk4
 have hs_w2 := hb3.size
 have hO7 : Own .u8 5 w2 w.heap.size w.heap.size (some ⟨g1, 0, none⟩) 0 (b.length + 2) [] := Own.mono (own_blk (xs := []) w.heap.size hk4 (by omega) (made_size _) (by simp) (by omega) (Nums.nil _ _)) (by omega)
 refine rv (.slice A0 b.length c0) ?_
 refine rw_append_row .u8 w.heap.size rfl rfl rfl (.tmp 6) (.tmp 7) rfl rfl 30 5 1 rfl (by kernel_rfl) info5 (by decide) (b := w.heap.size) rfl rfl (by omega) (hO7.on (Below.refl _ _)) (Kd.C_below hC hb3) hb3 (by omega) (by simp; omega) ?_
 intro A8 n9 c10 w11 hn12 hO13 hB14 hG15
 have hs_w11 := hB14.size
 have hgs_w11 := hG15.size
 refine rw_new (cs := #[.int .u8 165, .int .u8 90]) (t := 5) (fun g => .slice (some ⟨g, 0, none⟩) 2 2) rfl rfl rfl rfl (by kernel_rfl) ?_
 intro g16 w17 hg21 hz20 hb18 hk19
 have hs_w17 := hb18.size
 have hO22 : Own .u8 5 w17 w.heap.size g16 (some ⟨g16, 0, none⟩) 2 2 [165, 90] := own_blk (xs := [165, 90]) w.heap.size hk19 (by omega) rfl (by simp) (by omega) (fun j hj => by
  match j, hj with
  | 0, _ => rfl
  | 1, _ => rfl
  | j + 2, hj => simp at hj; omega)
 refine rw_append_row .u8 w.heap.size rfl rfl rfl (.tmp 8) (.tmp 9) rfl rfl 30 5 1 rfl (by kernel_rfl) info5 (by decide) (b := w.heap.size) rfl rfl (by omega) (hO13.on hb18) (Kd.C_below (Own.C hO22) (Below.refl _ _)) (chain hB14 hb18) (by omega) (by simp; omega) ?_
 intro A23 n24 c25 w26 hn27 hO28 hB29 hG30
 have hs_w26 := hB29.size
 have hgs_w26 := hG30.size
 refine rv (.slice A0 b.length c0) ?_
 refine rs2 (.int .i64 (b.length : Int)) ?_
 have hn_ := hO28.len
 have hcp_ := hO28.cap
 simp only [List.nil_append, List.length_append, List.length_cons, List.length_nil] at hn_
 refine rz (.slice A23 b.length c25) (by have h_ := upto_run (P := Try.prog) (t := 30) (e := 5) (sz := 1) (by kernel_rfl) (fun _ => by kernel_rfl) (A := A23) (n := n24) (c := c25) (x := (b.length : Int)) (by omega) (by omega) w26; rw [Int.toNat_natCast] at h_; exact run_as h_) ?_
 refine rv (.slice A23 b.length c25) ?_
 refine rw_end ?_
 refine w_ret (post_ret1 rfl rfl ?_)
 have hf_ : Own .u8 5 w26 w.heap.size w.heap.size A23 (b.length + 2) c25 (b ++ [165, 90]) := by have h_ := (hO28.on (Below.refl _ _)); rw [show n24 = b.length + 2 by omega] at h_; simpa using h_
 exact ⟨_, _, rfl, hf_, hB29⟩
theorem rd_mark0 (b : List Int) : rd (b ++ [165, 90]) ((b.length : Nat) : Int) = 165 := by
  rw [rd_at _ b.length (by simp)]
  simp
theorem rd_mark1 (b : List Int) : rd (b ++ [165, 90]) ((b.length + 1 : Nat) : Int) = 90 := by
  rw [rd_at _ (b.length + 1) (by simp)]
  simp
set_option maxHeartbeats 4000000 in
theorem kept_calls (w : World) (A0 B0 : Option Addr) (c0 cb : Nat) (b : List Int) (hM : (Kd.int .u8).C w A0 (b.length + 2) (b ++ [165, 90])) (hMs : (Kd.int .u8).C w A0 b.length b) (hM2 : b.length + 2 ≤ c0) (hMc : b.length ≤ c0) (hC : (Kd.int .u8).C w B0 b.length b) (hc : b.length ≤ cb) (hl : b.length ≤ 1000000) :
  Calls Try.prog 21 #[.slice A0 b.length c0, .slice B0 b.length cb] w fun e w' => e = .returned (.bool true) ∧ Below w.heap.size w w' := by
 refine calls_flow Try.func21 rfl 39 rfl (Nat.le_of_ble_eq_true rfl) [(0, .slice A0 b.length c0), (1, .slice B0 b.length cb)] ?_ ?_
 ·
  intro t v h; exact args_look rfl t v h
 refine wsr ?_
 refine rv (.bool false) ?_
 refine rw_end ?_
 refine w_seq ?_
 refine wsr ?_
 refine rv (.slice A0 b.length c0) ?_
 refine rz (.string (strOfNums b)) (run_as (run_str_of (P := Try.prog) (e := 5) (by kernel_rfl) (by kernel_rfl) (by kernel_rfl) (Kd.C_below hMs (Below.refl _ _)))) ?_
 refine rv (.slice B0 b.length cb) ?_
 refine rz (.string (strOfNums b)) (run_as (run_str_of (P := Try.prog) (e := 5) (by kernel_rfl) (by kernel_rfl) (by kernel_rfl) (Kd.C_below hC (Below.refl _ _)))) ?_
 refine rz (.bool false) (run_bool (run_as (run_str_neq 9 _ _ _)) (by simp)) ?_
 refine rv (.bool false) ?_
 refine rn false ?_
 refine rv (.slice A0 b.length c0) ?_
 refine rn false ?_
 refine rs2 (.int .i64 (c0 : Int)) ?_
 refine rn false ?_
 refine rv (.slice B0 b.length cb) ?_
 refine rn false ?_
 refine rs2 (.int .i64 (b.length : Int)) ?_
 refine rn false ?_
 refine rz (.int .i64 ((b.length + 2 : Nat) : Int)) (by simp [go_sem, sEv, sLook, nbeq, i64_w, -List.length_flatten]; exact wrap_id (by omega) (by omega)) ?_
 refine rn false ?_
 refine rs2 (.bool (decide ((c0 : Int) < ((b.length + 2 : Nat) : Int)))) ?_
 refine rs2 (.bool (decide ((c0 : Int) < ((b.length + 2 : Nat) : Int)))) ?_
 refine rw_end ?_
 have hq1 : (decide ((c0 : Int) < ((b.length + 2 : Nat) : Int))) = false := by exact decide_eq_false (by omega)
 refine w_cond_f rfl rfl hq1 ?_
 refine w_skip ?_
 refine wsr ?_
 refine rv (.slice A0 b.length c0) ?_
 refine rv (.slice B0 b.length cb) ?_
 refine rs2 (.int .i64 (b.length : Int)) ?_
 refine rz (.int .i64 ((b.length + 2 : Nat) : Int)) (by simp [go_sem, sEv, sLook, nbeq, i64_w, -List.length_flatten]; exact wrap_id (by omega) (by omega)) ?_
 refine rz (.slice A0 (b.length + 2) c0) (by have h_ := upto_run (P := Try.prog) (t := 30) (e := 5) (sz := 1) (by kernel_rfl) (fun _ => by kernel_rfl) (A := A0) (n := b.length) (c := c0) (x := ((b.length + 2 : Nat) : Int)) (by omega) (by omega) w; rw [Int.toNat_natCast] at h_; exact run_as h_) ?_
 refine rv (.slice A0 (b.length + 2) c0) ?_
 refine rw_end ?_
 refine wsr ?_
 refine rv (.slice A0 (b.length + 2) c0) ?_
 refine rv (.slice B0 b.length cb) ?_
 refine rs2 (.int .i64 (b.length : Int)) ?_
 obtain ⟨ad, hA_, hcell0_⟩ := Kd.at_int hM ((b.length : Nat) : Int) (by omega) (by omega)
 obtain ⟨ad2, hA2_, hcell1_⟩ := Kd.at_int hM ((b.length + 1 : Nat) : Int) (by omega) (by omega)
 rw [hA_] at hA2_
 obtain rfl := Option.some.inj hA2_
 rw [Int.toNat_natCast] at hcell0_ hcell1_
 rw [rd_mark0] at hcell0_
 rw [rd_mark1, Flow.add_pos] at hcell1_
 refine rz (.pointer (some (ad.add b.length))) (by simp [go_sem, sEv, sLook, nbeq, i64_w, -List.length_flatten, Try.underlying30, hA_]; try omega) ?_
 refine rz (.int .u8 165) (by simp [go_sem, sEv, sLook, nbeq, i64_w, -List.length_flatten, hcell0_]) ?_
 refine rs2 (.bool true) ?_
 refine rv (.bool true) ?_
 refine rn true ?_
 refine rv (.slice A0 (b.length + 2) c0) ?_
 refine rn true ?_
 refine rv (.slice B0 b.length cb) ?_
 refine rn true ?_
 refine rs2 (.int .i64 (b.length : Int)) ?_
 refine rn true ?_
 refine rz (.int .i64 ((b.length + 1 : Nat) : Int)) (by simp [go_sem, sEv, sLook, nbeq, i64_w, -List.length_flatten]; exact wrap_id (by omega) (by omega)) ?_
 refine rn true ?_
 refine rz (.pointer (some (ad.add (b.length + 1)))) (by simp [go_sem, sEv, sLook, nbeq, i64_w, -List.length_flatten, Try.underlying30, hA_]; try omega) ?_
 refine rn true ?_
 refine rz (.int .u8 90) (by simp [go_sem, sEv, sLook, nbeq, i64_w, -List.length_flatten, hcell1_]) ?_
 refine rn true ?_
 refine rs2 (.bool true) ?_
 refine rs2 (.bool true) ?_
 refine rv (.bool true) ?_
 refine rw_end ?_
 refine w_ret (post_ret1 rfl rfl ?_)
 exact ⟨rfl, (Below.refl _ _)⟩
end Go.Proofs.Ytbbhdohjhipalaa.PNoteReads
end
