/- Flow: a range over a function: the statement, a round's body, an iterator's call of yield. Own work; plain theorems. -/
import Derived.Test.YtheaipbnbnjlgaaFlowC
import Derived.Test.YtheaipbnbnjlgaaFlowE
import Derived.RangeFuncNested
import Derived.RangeFuncLeaves
namespace Go.Proofs.Ytheaipbnbnjlgaa.Flow
open Go.RowKit
set_option linter.unusedVariables false
set_option linter.unusedSimpArgs false
set_option linter.unusedSectionVars false
section
variable {P : Program} {cx : Cx} {n : Nat} {Q : Exit → Act → World → Prop} {st : List Itm} {G : Env} {w : World} {ops : Array Oper}
abbrev mark (D : Nat) : Deferred := { target := .collected D, args := #[] }
/-- A context outside of rounds. -/
abbrev cxm (m : Nat) (ds : List Deferred) : Cx := ⟨ds, none, m⟩
/-- The context of a round of a loop whose statement stands in cxm m. -/
abbrev cxr (m : Nat) (l : Nat) : Cx := ⟨[], some l, m⟩
theorem fw_none : FW none = Fence.wide := rfl
theorem fw_round (l : Nat) : FW (some l) = Fence.wide.inRound l := rfl
/-- A function with a range over a function in it. -/
theorem calls_flowM {f : FuncId} {fn : Func} {c : Code} {args : Array Value} {R : Ending → World → Prop} (hf : P.funcs[f]? = some fn) (hb : fn.body = some c) (n : Nat) (hn : fn.ntmps = n) (hsz : args.size ≤ n)
    (G : Env) (hG : ∀ t v, sLook G t = some v → args[t]? = some v) (h : W P cx0 n (bodyPostM Fence.wide 9 P fn R) [Itm.code c] G w) : Calls P f args w R := by
  refine (callsIn_wide (n := 9)).1 (callsIn_of_wp_marks hf hb trivial ?_)
  refine wpIn_mono (c := c) (Q := Ks cx0 P [] (bodyPostM Fence.wide 9 P fn R)) ?_ fun e a w q => ?_
  rotate_left
  · cases e <;> first | exact q.2 | exact q
  refine h _ ⟨by simp [hn]; omega, rfl, fun t v hl => ?_⟩
  have h1 := hG t v hl
  have hlt : t < args.size := (Array.getElem?_eq_some_iff.1 h1).1
  rw [Array.getElem?_append_left hlt]
  exact h1
/-- Its ends: without a mark. -/
theorem postM {fn : Func} {R : Ending → World → Prop} {Gs : Env} (h : ∀ a, Fits cx0 n G a → bodyPost P fn R .ret a w) : ∀ a, Fits cx0 n G a → bodyPostM Fence.wide 9 P fn R .ret a w := fun a ha => by
  obtain ⟨hd, v, hv, hR⟩ := h a ha
  show LeavesInM _ _ _ _ _ _ _ _ _
  rw [hd]
  exact ⟨v, hv, hR⟩
/-- With the mark of a loop that is over. -/
theorem postMD {fn : Func} {R : Ending → World → Prop} {D : Nat} (hD : w.heap[D]? = some (.deferred (some [])))
    (h : ∀ a, Fits cx0 n G a → bodyPost P fn R .ret a (w.putObj D (.deferred none))) : ∀ a, Fits (cxm 9 [mark D]) n G a → bodyPostM Fence.wide 9 P fn R .ret a w := fun a ha => by
  obtain ⟨hd, v, hv, hR⟩ := h { a with defers := [] } ⟨ha.size, rfl, ha.at_⟩
  show LeavesInM _ _ _ _ _ _ _ _ _
  rw [ha.defers]
  exact ⟨by simp, .inl ⟨D, _, rfl, run_takeDeferred hD, v, hv, hR⟩⟩
theorem fits_pair {t : Nat} {v : Value} {a : Act} {cx' : Cx} (hc : cx'.ds = []) (ht : Nat.blt t n = true) (ha : Fits cx n G a) : Fits cx' n ((t, v) :: G) { tmps := ((#[t] : Array Tmp).zip (#[v] : Array Value)).foldl (fun s (p, u) => s.setIfInBounds p u) a.tmps, defers := [] } := by
  have h1 := (Fits.put (cx := ⟨a.defers, cx.r, cx.m⟩) ⟨ha.size, rfl, ha.at_⟩ ht v)
  have e : ((#[t] : Array Tmp).zip (#[v] : Array Value)).foldl (fun s (p, u) => s.setIfInBounds p u) a.tmps = a.tmps.setIfInBounds t v := by
    have e2 : (#[t] : Array Tmp).zip (#[v] : Array Value) = #[(t, v)] := by apply Array.ext' ; rw [Array.toList_zip]; rfl
    rw [e2]
    rfl
  rw [e]
  exact ⟨h1.size, hc.symm, h1.at_⟩
theorem ks_post {cx : Cx} {Q : Exit → Act → World → Prop} {c : Code} {a : Act} {m : Nat} {r : Option Nat} (h : c.wpIn (FW r) m P (Ks cx P [] Q) a w) : c.wpIn (FW r) m P Q a w :=
  wpIn_mono h fun e a w q => by cases e <;> first | exact q.2 | exact q
theorem Ks_ds {ds ds' : List Deferred} {r : Option Nat} {m : Nat} {Q : Exit → Act → World → Prop} : ∀ (st : List Itm), Ks ⟨ds, r, m⟩ P st Q = Ks ⟨ds', r, m⟩ P st Q
  | [] => by funext e a w; cases e <;> rfl
  | .inl c :: st => by
    funext e a w
    cases e <;> simp only [Ks, Ks_ds (ds := ds) (ds' := ds') (r := r) (m := m) (Q := Q) st]
  | .inr (.inl i) :: st => by
    funext e a w
    cases e <;> simp only [Ks, Ks_ds (ds := ds) (ds' := ds') (r := r) (m := m) (Q := Q) st]
  | .inr (.inr I) :: st => by
    funext e a w
    cases e <;> simp only [Ks, Ks_ds (ds := ds) (ds' := ds') (r := r) (m := m) (Q := Q) st]
/-- The statement: the iterator's contract, the assignment, the body, walked once; the two ways out. -/
theorem w_rangeFunc {α : Type} {g : Operand} {t gf : Nat} {assign body : Code} {lb : Array Value} {enc : α → Value} {Kp : World → World → Prop} {S Sp : List α → Prop} {N : Nat}
    (hk : knownO G g = true) (hg : sEv G g = .func (.func gf) #[] lb) (eg : ∀ args w, (callFunc gf args).run P w = .ok (.enter gf args) w)
    (hseq : SeqStopsK Fence.wide 8 P gf lb (fun x => #[enc x]) Kp S Sp N w)
    (hKt : ∀ {A B C : World}, Kp A B → Kp B C → Kp A C) (hKr : ∀ A, Kp A A) (hKb : ∀ (V : World) (l : Nat) (o o' : Obj), w.heap.size ≤ l → V.heap[l]? = some o → o.isCells = false → o.isWalk = false → Kp V (V.putObj l o'))
    (htn : Nat.blt t n = true) (I Ir : List α → World → Prop) (hI : OwnFrom w.heap.size I) (hIr : OwnFrom w.heap.size Ir) (h0 : I [] w) (Gx : α → Env)
    (hassign : ∀ (l : Nat) (x : α) (V : World) (Q : Exit → Act → World → Prop), W P (cxr 7 l) n Q [] (Gx x) V → W P (cxr 7 l) n Q [Itm.code assign] ((t, enc x) :: G) V)
    (hbody : ∀ (l : Nat) (pre : List α) (x : α) (V : World), I pre V → pre.length < N → W P (cxr 7 l) n (ownPostG w.heap.size Kp I (fun c xs V' => c = .ret ∧ Ir xs V') (pre ++ [x]) V) [Itm.code body] (Gx x) V)
    (hdone : ∀ (D : Nat) (xs : List α) (V : World), w.heap.size ≤ D → S xs → I xs V → V.heap[D]? = some (.deferred (some [])) → W P (cxm 9 [mark D]) n Q st G V)
    (hstop : ∀ (D : Nat) (pre : List α) (V : World), w.heap.size ≤ D → Sp pre → Ir pre V → V.heap[D]? = some (.deferred (some [])) → ∀ a, Fits (cxm 9 [mark D]) n G a → Q .ret a V) :
    W P cx0 n Q (Itm.code (.rangeFunc g #[t] assign body) :: st) G w := fun a ha => by
  show (Code.rangeFunc g #[t] assign body).wpIn (FW none) 9 P (Ks cx0 P st Q) a w
  refine wpIn_rangeFunc_ownH (F := Fence.wide) (n := 9) rfl (by decide) (gf := gf) (lb := lb) ((eval_known ha hk).trans hg) trivial eg hseq (fun h k => hKt h k) hKb (Below.refl _ _) (fun _ => rfl)
    I (fun c xs V' => c = .ret ∧ Ir xs V') hI (fun c => OwnFrom.and (ownFrom_pure _ (fun _ => c = .ret)) hIr) h0 (fun x a' _ => Fits (cxr 7 0) n (Gx x) a') (fun x a' => ownFrom_pure _ _) ?_ ?_ ?_ ?_
  · intro l pre x V K hi hK
    have h1 := hassign l x V (fun e a' V' => e = .normal ∧ V' = V ∧ Fits (cxr 7 l) n (Gx x) a') (fun a' ha' => ⟨rfl, rfl, ha'⟩) _ (fits_pair (cx' := cxr 7 l) rfl htn ha)
    refine wpIn_mono (ks_post h1) fun e a' V' q => ?_
    obtain ⟨rfl, rfl, h2⟩ := q
    exact hK a' _ (KeepsFrom.refl _ _) (hKr _) hi ⟨h2.size, h2.defers, h2.at_⟩
  · intro l pre x a' V hl hr hi hx hN
    exact ks_post (hbody l pre x V hi hN a' ⟨hx.size, hx.defers, hx.at_⟩)
  · intro D xs V hD hS hi hV
    have h1 := hdone D xs V hD hS hi hV { a with defers := mark D :: a.defers } ⟨ha.size, by rw [ha.defers], ha.at_⟩
    rw [Ks_ds (ds' := [])] at h1
    exact h1
  · rintro D c pre V hD hS ⟨rfl, hi⟩ hV
    exact wpIn_ret (Ks_ret st (hstop D pre V hD hS hi hV _ ⟨ha.size, by rw [ha.defers], ha.at_⟩))
/-! ### An iterator's call of yield -/
def RI (P : Program) (ops : Array Oper) (cx : Cx) (n : Nat) (Q : Exit → Act → World → Prop) (rest : List Oper) (G : Env) (w : World) : Prop :=
  ∀ a, Fits cx n G a → wpListIn (FW cx.r) cx.m P ops Q rest a w
theorem w_regionI {id : Nat} {l : List Oper} (h : RI P l.toArray cx n (Ks cx P st Q) l G w) : W P cx n Q (Itm.code (.region id l.toArray false) :: st) G w := fun a ha => wpIn_region_lit (h a ha)
theorem ri_end (h : W P cx n Q st G w) : RI P ops cx n (Ks cx P st Q) [] G w := fun a ha => h a ha
variable {o : Oper} {rest : List Oper}
theorem ri_val {d : Nat} {v : Value} {w' : World} (hg : o.guard = none) (hd : o.dst = some d) (hdn : Nat.blt d n = true) (hk : known G o = true)
    (hrun : (execOp (sEv G) o).run P w = .ok (.value v) w') (k : RI P ops cx n Q rest ((d, v) :: G) w') : RI P ops cx n Q (o :: rest) G w := fun a ha =>
  wpListIn_plain hg fun K hK => by
    have hs : isSel o.op = false := by
      simp only [known, Bool.and_eq_true, Bool.not_eq_true'] at hk
      exact hk.1
    refine ⟨fun _ _ => trivial, ?_⟩
    rw [Oper.semAt_eq _ _ _ (sel_def hs), exec_known ha hk, hrun, Oper.uponIn_value, hd]
    exact hK _ _ (k _ (ha.put hdn v))
theorem ri_yield {d l m : Nat} {args : Array Value} {R : Ending → World → Prop} (hg : o.guard = none) (hd : o.dst = some d) (hdn : Nat.blt d n = true) (hk : known G o = true)
    (hrun : (execOp (sEv G) o).run P w = (Instr.yield l args).run P w) (hy : YieldAt Fence.wide m P l args w R) (hm : cx.m - 1 = m) (hr : cx.r = none)
    (k : ∀ e w', R e w' → ∃ b : Bool, e = .returned (.bool b) ∧ RI P ops cx n Q rest ((d, .bool b) :: G) w') : RI P ops cx n Q (o :: rest) G w := fun a ha =>
  wpListIn_plain hg fun K hK => by
    have hs : isSel o.op = false := by
      simp only [known, Bool.and_eq_true, Bool.not_eq_true'] at hk
      exact hk.1
    refine ⟨fun _ _ => trivial, ?_⟩
    obtain ⟨fn, tmps, assign, body, h1, h2⟩ := hy
    rw [Oper.semAt_eq _ _ _ (sel_def hs), exec_known ha hk, hrun, h1, Oper.uponIn_round, hd, hm, hr]
    refine ⟨fun q => (by cases q), h2.mono fun e w' he => ?_⟩
    obtain ⟨b, rfl, hb⟩ := k e w' he
    exact hK _ _ (hb _ (ha.put hdn _))
/-- Later worlds that keep what lay: a growth of no row. -/
theorem grown_below {w w' : World} (h : Below w.heap.size w w') : w.grownBy w' none := ⟨h.os, h.tape, h.output, h.size, fun k hk _ => h.block k hk⟩
theorem yieldAt_any {m m' l : Nat} {args : Array Value} {R : Ending → World → Prop} (h : YieldAt Fence.wide m P l args w R) : YieldAt Fence.wide m' P l args w R := by
  obtain ⟨fn, tmps, assign, body, h1, h2⟩ := h
  exact ⟨fn, tmps, assign, body, h1, h2.1, fun c cs _ => h2.2 c cs (room_wide _)⟩
/-! ### What a turn of a block that is no cells leaves -/
theorem blk_turned {V V' : World} {g B : Nat} {t : TypeId} {cs : Array Value} {row : Option Nat} (hb : Blk V g t cs) (hg : V.grownBy V' row) (hr : ∀ r, row = some r → B ≤ r ∧ ∃ o : Obj, V.heap[r]? = some o ∧ o.isCells = false) : Blk V' g t cs := by
  have hlt := hb.lt
  have e := hg.block g hlt (fun he => by
    obtain ⟨_, o, h1, h2⟩ := hr g he.symm
    have h3 : V.heap[g]? = some (.cells cs t (0, 0)) := hb
    rw [h3] at h1
    cases h1
    cases h2)
  exact e.trans hb
theorem blk_put {V : World} {g D : Nat} {t : TypeId} {cs : Array Value} {o : Obj} {d : Option (List Deferred)} (hb : Blk V g t cs) (hD : V.heap[D]? = some (.deferred d)) : Blk (V.putObj D o) g t cs := by
  have h3 : V.heap[g]? = some (.cells cs t (0, 0)) := hb
  have hne : g ≠ D := fun e => by rw [e, hD] at h3; cases h3
  exact (World.putObj_heap_other hne).trans hb
theorem below_put {V V' : World} {N D : Nat} {o : Obj} (h : Below N V V') (hD : N ≤ D) (hN : D < V'.heap.size) (hV : N ≤ V.heap.size) : Below N V (V'.putObj D o) :=
  h.grown (grownBy_putObj' V' D o) (Nat.le_trans hV h.size) (fun k e => by cases e; exact hD)
theorem keepsFrom_below {B : Nat} {V V' : World} (h : Below V.heap.size V V') : KeepsFrom B V V' := ⟨h.size, fun k o _ hk _ => (h.block k (Array.getElem?_eq_some_iff.1 hk).1).trans hk⟩
theorem keepsFrom_keep {B g : Nat} {t : TypeId} {cs : Array Value} {V V' : World} (hb : Blk V g t cs) (h : Keep g V V') : KeepsFrom B V V' := ⟨Nat.le_of_eq h.size.symm, fun k o _ hk ho => by
  have h3 : V.heap[g]? = some (.cells cs t (0, 0)) := hb
  have hne : k ≠ g := fun e => by rw [e, h3] at hk; cases hk; cases ho
  exact (h.block k hne).trans hk⟩
/-- Two blocks lie as they lay. -/
def Two (g g' : Nat) (V V' : World) : Prop := V'.heap[g]? = V.heap[g]? ∧ V'.heap[g']? = V.heap[g']?
theorem two_t {g g' : Nat} {A B C : World} (h : Two g g' A B) (k : Two g g' B C) : Two g g' A C := ⟨k.1.trans h.1, k.2.trans h.2⟩
theorem two_r {g g' : Nat} (A : World) : Two g g' A A := ⟨rfl, rfl⟩
theorem two_b {g g' N : Nat} (h1 : g < N) (h2 : g' < N) (V : World) (l : Nat) (o o' : Obj) (hl : N ≤ l) (_ : V.heap[l]? = some o) (_ : o.isCells = false) (_ : o.isWalk = false) : Two g g' V (V.putObj l o') :=
  ⟨World.putObj_heap_other (by omega), World.putObj_heap_other (by omega)⟩
theorem two_below {g g' : Nat} {V V' : World} (h : Below V.heap.size V V') (h1 : g < V.heap.size) (h2 : g' < V.heap.size) : Two g g' V V' := ⟨h.block g h1, h.block g' h2⟩
theorem two_keep {g g' q : Nat} {V V' : World} (h : Keep q V V') (h1 : g ≠ q) (h2 : g' ≠ q) : Two g g' V V' := ⟨h.block g h1, h.block g' h2⟩
/-- Three results in memory. -/
theorem post_ret3c {fn : Func} {R : Ending → World → Prop} {t1 t2 t3 y1 y2 y3 : Nat} {a1 a2 a3 : Addr} {v1 v2 v3 : Value} (hr : fn.results = #[.cell t1 y1, .cell t2 y2, .cell t3 y3]) (h1 : sLook G t1 = some (.pointer (some a1))) (h2 : sLook G t2 = some (.pointer (some a2))) (h3 : sLook G t3 = some (.pointer (some a3)))
    (l1 : (Instr.loadAt y1 (.pointer (some a1))).run P w = .ok v1 w) (l2 : (Instr.loadAt y2 (.pointer (some a2))).run P w = .ok v2 w) (l3 : (Instr.loadAt y3 (.pointer (some a3))).run P w = .ok v3 w) (hR : R (.returned (.tuple #[v1, v2, v3])) w) : ∀ c, Fits cx0 n G c → bodyPost P fn R .ret c w := fun c hc => by
  refine ⟨hc.defers, .tuple #[v1, v2, v3], ?_, hR⟩
  have k1 := fits_getD hc h1
  have k2 := fits_getD hc h2
  have k3 := fits_getD hc h3
  simp only [Array.getD_eq_getD_getElem?] at k1 k2 k3
  have m1 : (loadVar y1 a1).run P w = .ok v1 w := by simpa [Instr.loadAt, Instr.sureAddr] using l1
  have m2 : (loadVar y2 a2).run P w = .ok v2 w := by simpa [Instr.loadAt, Instr.sureAddr] using l2
  have m3 : (loadVar y3 a3).run P w = .ok v3 w := by simpa [Instr.loadAt, Instr.sureAddr] using l3
  simp [results, hr, k1, k2, k3, asAddr, m1, m2, m3]
/-- A part with a bound of its own room. -/
theorem sl_max {t e sz : Nat} {A : Option Addr} {n' c : Nat} (hu : P.underlying t = some (.slice e)) (hz : ∀ w, (sizeOf e).run P w = .ok sz w) (lo hi : Nat) (x y z : Int) (hx : x = (lo : Int)) (hy : y = (hi : Int)) (hz' : z = (hi : Int)) (h1 : lo < hi) (hc : hi ≤ c) (w : World) :
    (Instr.sliceAt t (.slice A n' c) (some (.int .i64 x)) (some (.int .i64 y)) (some (.int .i64 z))).run P w = .ok (.slice (A.map (·.add (lo * sz))) (hi - lo) (hi - lo)) w := by
  subst hx hy hz'
  have h3 : (hi : Int) ≤ (c : Int) := by omega
  have h4 : (lo : Int) ≤ (hi : Int) := by omega
  have h5 : ¬ (hi = lo) := by omega
  simp [go_sem, hu, h3, h4, h5, hz]
theorem cell_lit {ad : Addr} {v : Value} {k : Nat} (h : w.cell? (ad.add k) = some v) (hk : k ≠ 0) : w.cell? ⟨ad.block, ad.off + k, none⟩ = some v := by
  have e : ad.add k = ⟨ad.block, ad.off + k, none⟩ := by
    cases k with
    | zero => exact absurd rfl hk
    | succ k => exact add_pos ad k
  rwa [← e]
theorem load_one {ty t g : Nat} {v : Value} (hna : (isAgg ty).run P w = .ok false w) (hb : Blk w g t #[v]) : (Instr.loadAt ty (.pointer (some ⟨g, 0, none⟩))).run P w = .ok v w := by
  have e0 := hb.cellv (i := 0) (v := v) rfl
  simp [go_sem, Instr.loadAt, loadVar, hna, e0]
end
end Go.Proofs.Ytheaipbnbnjlgaa.Flow
