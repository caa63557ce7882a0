/- Parts of the proofs of noteReads_holds: FlowZ, CeNumsW, CeTake0, CeTake, NtMem, NtErr, NtCheck, NtNums, NtRd, NtRead. -/
import Derived.RangeFuncLeaves
import Derived.RangeFuncNested
import Derived.Shelf.Abstract
import Derived.Test.YtbbhdohjhipalaaQD3
section
namespace Go.Proofs.Ytbbhdohjhipalaa.Flow
open Go.RowKit
set_option linter.unusedVariables false
set_option linter.unusedSimpArgs false
set_option linter.unusedSectionVars false
section
variable {P : Program} {cx : Cx} {n : Nat} {Q : Exit → Act → World → Prop} {st : List Itm} {G : Env} {w : World} {ops : Array Oper}
abbrev mark (D : Nat) : Deferred := { target := .collected D, args := #[] }
abbrev cxm (m : Nat) (ds : List Deferred) : Cx := ⟨ds, none, m⟩
abbrev cxr (m : Nat) (l : Nat) : Cx := ⟨[], some l, m⟩
theorem calls_flowM {f : FuncId} {fn : Func} {c : Code} {args : Array Value} {R : Ending → World → Prop} (hf : P.funcs[f]? = some fn) (hb : fn.body = some c) (n : Nat) (hn : fn.ntmps = n) (hsz : args.size ≤ n)
    (G : Env) (hG : ∀ t v, sLook G t = some v → args[t]? = some v) (h : W P cx0 n (bodyPostM Fence.wide 9 P fn R) [Itm.code c] G w) : Calls P f args w R := by
  refine (callsIn_wide (n := 9)).1 (callsIn_of_wp_marks hf hb trivial ?_)
  refine wpIn_mono (c := c) (Q := Ks cx0 P [] (bodyPostM Fence.wide 9 P fn R)) ?_ fun e a w q => ?_
  rotate_left
  · cases e <;> first | exact q.2 | exact q
  refine h _ ⟨by simp [hn]; omega, rfl, fun t v hl => ?_⟩
  have h1 := hG t v hl
  have hlt : t < args.size := (Array.getElem?_eq_some_iff.1 h1).1
  rw [Array.getElem?_append_left hlt]
  exact h1
theorem postM {fn : Func} {R : Ending → World → Prop} {Gs : Env} (h : ∀ a, Fits cx0 n G a → bodyPost P fn R .ret a w) : ∀ a, Fits cx0 n G a → bodyPostM Fence.wide 9 P fn R .ret a w := fun a ha => by
  obtain ⟨hd, v, hv, hR⟩ := h a ha
  show LeavesInM _ _ _ _ _ _ _ _ _
  rw [hd]
  exact ⟨v, hv, hR⟩
theorem postMD {fn : Func} {R : Ending → World → Prop} {D : Nat} (hD : w.heap[D]? = some (.deferred (some [])))
    (h : ∀ a, Fits cx0 n G a → bodyPost P fn R .ret a (w.putObj D (.deferred none))) : ∀ a, Fits (cxm 9 [mark D]) n G a → bodyPostM Fence.wide 9 P fn R .ret a w := fun a ha => by
  obtain ⟨hd, v, hv, hR⟩ := h { a with defers := [] } ⟨ha.size, rfl, ha.at_⟩
  show LeavesInM _ _ _ _ _ _ _ _ _
  rw [ha.defers]
  exact ⟨by simp, .inl ⟨D, _, rfl, run_takeDeferred hD, v, hv, hR⟩⟩
theorem fits_pair {t : Nat} {v : Value} {a : Act} {cx' : Cx} (hc : cx'.ds = []) (ht : Nat.blt t n = true) (ha : Fits cx n G a) : Fits cx' n ((t, v) :: G) { tmps := ((#[t] : Array Tmp).zip (#[v] : Array Value)).foldl (fun s (p, u) => s.setIfInBounds p u) a.tmps, defers := [] } := by
  have h1 := (Fits.put (cx := ⟨a.defers, cx.r, cx.m⟩) ⟨ha.size, rfl, ha.at_⟩ ht v)
  have e : ((#[t] : Array Tmp).zip (#[v] : Array Value)).foldl (fun s (p, u) => s.setIfInBounds p u) a.tmps = a.tmps.setIfInBounds t v := by
    have e2 : (#[t] : Array Tmp).zip (#[v] : Array Value) = #[(t, v)] := by apply Array.ext' ; rw [Array.toList_zip]; rfl
    rw [e2]
    rfl
  rw [e]
  exact ⟨h1.size, hc.symm, h1.at_⟩
theorem ks_post {cx : Cx} {Q : Exit → Act → World → Prop} {c : Code} {a : Act} {m : Nat} {r : Option Nat} (h : c.wpIn (FW r) m P (Ks cx P [] Q) a w) : c.wpIn (FW r) m P Q a w :=
  wpIn_mono h fun e a w q => by cases e <;> first | exact q.2 | exact q
theorem Ks_ds {ds ds' : List Deferred} {r : Option Nat} {m : Nat} {Q : Exit → Act → World → Prop} : ∀ (st : List Itm), Ks ⟨ds, r, m⟩ P st Q = Ks ⟨ds', r, m⟩ P st Q
  | [] => by funext e a w; cases e <;> rfl
  | .inl c :: st => by
    funext e a w
    cases e <;> simp only [Ks, Ks_ds (ds := ds) (ds' := ds') (r := r) (m := m) (Q := Q) st]
  | .inr (.inl i) :: st => by
    funext e a w
    cases e <;> simp only [Ks, Ks_ds (ds := ds) (ds' := ds') (r := r) (m := m) (Q := Q) st]
  | .inr (.inr I) :: st => by
    funext e a w
    cases e <;> simp only [Ks, Ks_ds (ds := ds) (ds' := ds') (r := r) (m := m) (Q := Q) st]
theorem w_rangeFunc {α : Type} {g : Operand} {t gf : Nat} {assign body : Code} {lb : Array Value} {enc : α → Value} {Kp : World → World → Prop} {S Sp : List α → Prop} {N : Nat}
    (hk : knownO G g = true) (hg : sEv G g = .func (.func gf) #[] lb) (eg : ∀ args w, (callFunc gf args).run P w = .ok (.enter gf args) w)
    (hseq : SeqStopsK Fence.wide 8 P gf lb (fun x => #[enc x]) Kp S Sp N w)
    (hKt : ∀ {A B C : World}, Kp A B → Kp B C → Kp A C) (hKr : ∀ A, Kp A A) (hKb : ∀ (V : World) (l : Nat) (o o' : Obj), w.heap.size ≤ l → V.heap[l]? = some o → o.isCells = false → o.isWalk = false → Kp V (V.putObj l o'))
    (htn : Nat.blt t n = true) (I Ir : List α → World → Prop) (hI : OwnFrom w.heap.size I) (hIr : OwnFrom w.heap.size Ir) (h0 : I [] w) (Gx : α → Env)
    (hassign : ∀ (l : Nat) (x : α) (V : World) (Q : Exit → Act → World → Prop), W P (cxr 7 l) n Q [] (Gx x) V → W P (cxr 7 l) n Q [Itm.code assign] ((t, enc x) :: G) V)
    (hbody : ∀ (l : Nat) (pre : List α) (x : α) (V : World), I pre V → pre.length < N → W P (cxr 7 l) n (ownPostG w.heap.size Kp I (fun c xs V' => c = .ret ∧ Ir xs V') (pre ++ [x]) V) [Itm.code body] (Gx x) V)
    (hdone : ∀ (D : Nat) (xs : List α) (V : World), w.heap.size ≤ D → S xs → I xs V → V.heap[D]? = some (.deferred (some [])) → W P (cxm 9 [mark D]) n Q st G V)
    (hstop : ∀ (D : Nat) (pre : List α) (V : World), w.heap.size ≤ D → Sp pre → Ir pre V → V.heap[D]? = some (.deferred (some [])) → ∀ a, Fits (cxm 9 [mark D]) n G a → Q .ret a V) :
    W P cx0 n Q (Itm.code (.rangeFunc g #[t] assign body) :: st) G w := fun a ha => by
  show (Code.rangeFunc g #[t] assign body).wpIn (FW none) 9 P (Ks cx0 P st Q) a w
  refine wpIn_rangeFunc_ownH (F := Fence.wide) (n := 9) rfl (by decide) (gf := gf) (lb := lb) ((eval_known ha hk).trans hg) trivial eg hseq (fun h k => hKt h k) hKb (Below.refl _ _) (fun _ => rfl)
    I (fun c xs V' => c = .ret ∧ Ir xs V') hI (fun c => OwnFrom.and (ownFrom_pure _ (fun _ => c = .ret)) hIr) h0 (fun x a' _ => Fits (cxr 7 0) n (Gx x) a') (fun x a' => ownFrom_pure _ _) ?_ ?_ ?_ ?_
  · intro l pre x V K hi hK
    have h1 := hassign l x V (fun e a' V' => e = .normal ∧ V' = V ∧ Fits (cxr 7 l) n (Gx x) a') (fun a' ha' => ⟨rfl, rfl, ha'⟩) _ (fits_pair (cx' := cxr 7 l) rfl htn ha)
    refine wpIn_mono (ks_post h1) fun e a' V' q => ?_
    obtain ⟨rfl, rfl, h2⟩ := q
    exact hK a' _ (KeepsFrom.refl _ _) (hKr _) hi ⟨h2.size, h2.defers, h2.at_⟩
  · intro l pre x a' V hl hr hi hx hN
    exact ks_post (hbody l pre x V hi hN a' ⟨hx.size, hx.defers, hx.at_⟩)
  · intro D xs V hD hS hi hV
    have h1 := hdone D xs V hD hS hi hV { a with defers := mark D :: a.defers } ⟨ha.size, by rw [ha.defers], ha.at_⟩
    rw [Ks_ds (ds' := [])] at h1
    exact h1
  · rintro D c pre V hD hS ⟨rfl, hi⟩ hV
    exact wpIn_ret (Ks_ret st (hstop D pre V hD hS hi hV _ ⟨ha.size, by rw [ha.defers], ha.at_⟩))
def RI (P : Program) (ops : Array Oper) (cx : Cx) (n : Nat) (Q : Exit → Act → World → Prop) (rest : List Oper) (G : Env) (w : World) : Prop :=
  ∀ a, Fits cx n G a → wpListIn (FW cx.r) cx.m P ops Q rest a w
theorem w_regionI {id : Nat} {l : List Oper} (h : RI P l.toArray cx n (Ks cx P st Q) l G w) : W P cx n Q (Itm.code (.region id l.toArray false) :: st) G w := fun a ha => wpIn_region_lit (h a ha)
theorem ri_end (h : W P cx n Q st G w) : RI P ops cx n (Ks cx P st Q) [] G w := fun a ha => h a ha
variable {o : Oper} {rest : List Oper}
theorem ri_val {d : Nat} {v : Value} {w' : World} (hg : o.guard = none) (hd : o.dst = some d) (hdn : Nat.blt d n = true) (hk : known G o = true)
    (hrun : (execOp (sEv G) o).run P w = .ok (.value v) w') (k : RI P ops cx n Q rest ((d, v) :: G) w') : RI P ops cx n Q (o :: rest) G w := fun a ha =>
  wpListIn_plain hg fun K hK => by
    have hs : isSel o.op = false := by
      simp only [known, Bool.and_eq_true, Bool.not_eq_true'] at hk
      exact hk.1
    refine ⟨fun _ _ => trivial, ?_⟩
    rw [Oper.semAt_eq _ _ _ (sel_def hs), exec_known ha hk, hrun, Oper.uponIn_value, hd]
    exact hK _ _ (k _ (ha.put hdn v))
theorem ri_yield {d l m : Nat} {args : Array Value} {R : Ending → World → Prop} (hg : o.guard = none) (hd : o.dst = some d) (hdn : Nat.blt d n = true) (hk : known G o = true)
    (hrun : (execOp (sEv G) o).run P w = (Instr.yield l args).run P w) (hy : YieldAt Fence.wide m P l args w R) (hm : cx.m - 1 = m) (hr : cx.r = none)
    (k : ∀ e w', R e w' → ∃ b : Bool, e = .returned (.bool b) ∧ RI P ops cx n Q rest ((d, .bool b) :: G) w') : RI P ops cx n Q (o :: rest) G w := fun a ha =>
  wpListIn_plain hg fun K hK => by
    have hs : isSel o.op = false := by
      simp only [known, Bool.and_eq_true, Bool.not_eq_true'] at hk
      exact hk.1
    refine ⟨fun _ _ => trivial, ?_⟩
    obtain ⟨fn, tmps, assign, body, h1, h2⟩ := hy
    rw [Oper.semAt_eq _ _ _ (sel_def hs), exec_known ha hk, hrun, h1, Oper.uponIn_round, hd, hm, hr]
    refine ⟨fun q => (by cases q), h2.mono fun e w' he => ?_⟩
    obtain ⟨b, rfl, hb⟩ := k e w' he
    exact hK _ _ (hb _ (ha.put hdn _))
theorem grown_below {w w' : World} (h : Below w.heap.size w w') : w.grownBy w' none := ⟨h.os, h.tape, h.output, h.size, fun k hk _ => h.block k hk⟩
theorem yieldAt_any {m m' l : Nat} {args : Array Value} {R : Ending → World → Prop} (h : YieldAt Fence.wide m P l args w R) : YieldAt Fence.wide m' P l args w R := by
  obtain ⟨fn, tmps, assign, body, h1, h2⟩ := h
  exact ⟨fn, tmps, assign, body, h1, h2.1, fun c cs _ => h2.2 c cs (room_wide _)⟩
theorem blk_turned {V V' : World} {g B : Nat} {t : TypeId} {cs : Array Value} {row : Option Nat} (hb : Blk V g t cs) (hg : V.grownBy V' row) (hr : ∀ r, row = some r → B ≤ r ∧ ∃ o : Obj, V.heap[r]? = some o ∧ o.isCells = false) : Blk V' g t cs := by
  have hlt := hb.lt
  have e := hg.block g hlt (fun he => by
    obtain ⟨_, o, h1, h2⟩ := hr g he.symm
    have h3 : V.heap[g]? = some (.cells cs t (0, 0)) := hb
    rw [h3] at h1
    cases h1
    cases h2)
  exact e.trans hb
theorem blk_put {V : World} {g D : Nat} {t : TypeId} {cs : Array Value} {o : Obj} {d : Option (List Deferred)} (hb : Blk V g t cs) (hD : V.heap[D]? = some (.deferred d)) : Blk (V.putObj D o) g t cs := by
  have h3 : V.heap[g]? = some (.cells cs t (0, 0)) := hb
  have hne : g ≠ D := fun e => by rw [e, hD] at h3; cases h3
  exact (World.putObj_heap_other hne).trans hb
theorem below_put {V V' : World} {N D : Nat} {o : Obj} (h : Below N V V') (hD : N ≤ D) (hN : D < V'.heap.size) (hV : N ≤ V.heap.size) : Below N V (V'.putObj D o) :=
  h.grown (grownBy_putObj' V' D o) (Nat.le_trans hV h.size) (fun k e => by cases e; exact hD)
theorem keepsFrom_below {B : Nat} {V V' : World} (h : Below V.heap.size V V') : KeepsFrom B V V' := ⟨h.size, fun k o _ hk _ => (h.block k (Array.getElem?_eq_some_iff.1 hk).1).trans hk⟩
theorem keepsFrom_keep {B g : Nat} {t : TypeId} {cs : Array Value} {V V' : World} (hb : Blk V g t cs) (h : Keep g V V') : KeepsFrom B V V' := ⟨Nat.le_of_eq h.size.symm, fun k o _ hk ho => by
  have h3 : V.heap[g]? = some (.cells cs t (0, 0)) := hb
  have hne : k ≠ g := fun e => by rw [e, h3] at hk; cases hk; cases ho
  exact (h.block k hne).trans hk⟩
def Two (g g' : Nat) (V V' : World) : Prop := V'.heap[g]? = V.heap[g]? ∧ V'.heap[g']? = V.heap[g']?
theorem two_t {g g' : Nat} {A B C : World} (h : Two g g' A B) (k : Two g g' B C) : Two g g' A C := ⟨k.1.trans h.1, k.2.trans h.2⟩
theorem two_r {g g' : Nat} (A : World) : Two g g' A A := ⟨rfl, rfl⟩
theorem two_b {g g' N : Nat} (h1 : g < N) (h2 : g' < N) (V : World) (l : Nat) (o o' : Obj) (hl : N ≤ l) (_ : V.heap[l]? = some o) (_ : o.isCells = false) (_ : o.isWalk = false) : Two g g' V (V.putObj l o') :=
  ⟨World.putObj_heap_other (by omega), World.putObj_heap_other (by omega)⟩
theorem two_below {g g' : Nat} {V V' : World} (h : Below V.heap.size V V') (h1 : g < V.heap.size) (h2 : g' < V.heap.size) : Two g g' V V' := ⟨h.block g h1, h.block g' h2⟩
theorem two_keep {g g' q : Nat} {V V' : World} (h : Keep q V V') (h1 : g ≠ q) (h2 : g' ≠ q) : Two g g' V V' := ⟨h.block g h1, h.block g' h2⟩
theorem post_ret3c {fn : Func} {R : Ending → World → Prop} {t1 t2 t3 y1 y2 y3 : Nat} {a1 a2 a3 : Addr} {v1 v2 v3 : Value} (hr : fn.results = #[.cell t1 y1, .cell t2 y2, .cell t3 y3]) (h1 : sLook G t1 = some (.pointer (some a1))) (h2 : sLook G t2 = some (.pointer (some a2))) (h3 : sLook G t3 = some (.pointer (some a3)))
    (l1 : (Instr.loadAt y1 (.pointer (some a1))).run P w = .ok v1 w) (l2 : (Instr.loadAt y2 (.pointer (some a2))).run P w = .ok v2 w) (l3 : (Instr.loadAt y3 (.pointer (some a3))).run P w = .ok v3 w) (hR : R (.returned (.tuple #[v1, v2, v3])) w) : ∀ c, Fits cx0 n G c → bodyPost P fn R .ret c w := fun c hc => by
  refine ⟨hc.defers, .tuple #[v1, v2, v3], ?_, hR⟩
  have k1 := fits_getD hc h1
  have k2 := fits_getD hc h2
  have k3 := fits_getD hc h3
  simp only [Array.getD_eq_getD_getElem?] at k1 k2 k3
  have m1 : (loadVar y1 a1).run P w = .ok v1 w := by simpa [Instr.loadAt, Instr.sureAddr] using l1
  have m2 : (loadVar y2 a2).run P w = .ok v2 w := by simpa [Instr.loadAt, Instr.sureAddr] using l2
  have m3 : (loadVar y3 a3).run P w = .ok v3 w := by simpa [Instr.loadAt, Instr.sureAddr] using l3
  simp [results, hr, k1, k2, k3, asAddr, m1, m2, m3]
theorem sl_max {t e sz : Nat} {A : Option Addr} {n' c : Nat} (hu : P.underlying t = some (.slice e)) (hz : ∀ w, (sizeOf e).run P w = .ok sz w) (lo hi : Nat) (x y z : Int) (hx : x = (lo : Int)) (hy : y = (hi : Int)) (hz' : z = (hi : Int)) (h1 : lo < hi) (hc : hi ≤ c) (w : World) :
    (Instr.sliceAt t (.slice A n' c) (some (.int .i64 x)) (some (.int .i64 y)) (some (.int .i64 z))).run P w = .ok (.slice (A.map (·.add (lo * sz))) (hi - lo) (hi - lo)) w := by
  subst hx hy hz'
  have h3 : (hi : Int) ≤ (c : Int) := by omega
  have h4 : (lo : Int) ≤ (hi : Int) := by omega
  have h5 : ¬ (hi = lo) := by omega
  simp [go_sem, hu, h3, h4, h5, hz]
theorem cell_lit {ad : Addr} {v : Value} {k : Nat} (h : w.cell? (ad.add k) = some v) (hk : k ≠ 0) : w.cell? ⟨ad.block, ad.off + k, none⟩ = some v := by
  have e : ad.add k = ⟨ad.block, ad.off + k, none⟩ := by
    cases k with
    | zero => exact absurd rfl hk
    | succ k => exact add_pos ad k
  rwa [← e]
theorem load_one {ty t g : Nat} {v : Value} (hna : (isAgg ty).run P w = .ok false w) (hb : Blk w g t #[v]) : (Instr.loadAt ty (.pointer (some ⟨g, 0, none⟩))).run P w = .ok v w := by
  have e0 := hb.cellv (i := 0) (v := v) rfl
  simp [go_sem, Instr.loadAt, loadVar, hna, e0]
end
end Go.Proofs.Ytbbhdohjhipalaa.Flow
end
section
namespace Go.Proofs.Ytbbhdohjhipalaa.Ce
open Go.RowKit Go.Proofs.YtbbhdohjhipalaaW.PrintWords Go.Proofs.YtbbhdohjhipalaaW.PrintLast Go.Proofs.YtbbhdohjhipalaaW.PrintMore
open Go.Proofs.Ytbbhdohjhipalaa.Flow
set_option linter.unusedVariables false
set_option linter.unusedSimpArgs false
set_option maxHeartbeats 4000000 in
theorem nums_calls (w : World) (c : CL) :
  Calls Try.prog 50 #[.agg (carr c)] w fun e w' => ∃ A' c', e = .returned (.slice A' (numsC c).length c') ∧ OwnK (Kd.int .i64) 3 w' w.heap.size w.heap.size A' (numsC c).length c' (numsC c) ∧ Below w.heap.size w w' := by
 refine calls_flow Try.func50 rfl 52 rfl (Nat.le_of_ble_eq_true rfl) [(0, .agg (carr c))] ?_ ?_
 ·
  intro t v h; exact args_look rfl t v h
 refine wsr ?_
 refine rw_new (cs := carr c) (t := 81) (fun g => .pointer (some ⟨g, 0, none⟩)) rfl rfl rfl rfl (by simp [go_sem, sEv, sLook, nbeq, i64_w, -List.getD_eq_getElem?_getD]) ?_
 intro g1 w2 hg6 hz5 hb3 hk4
 have hs_w2 := hb3.size
 refine rv (.slice none 0 0) ?_
 refine rw_end ?_
 refine wsr ?_
 refine ru (.pointer (some ⟨g1, 0, none⟩)) ?_
 refine rz (.int .i64 c.cnt) (by have eb_ := hk4; have e0_ := eb_.cellv (v := .int .i64 c.cnt) (cA0 c); simp [go_sem, sEv, sLook, nbeq, i64_w, -List.getD_eq_getElem?_getD, e0_]) ?_
 refine ru (.pointer (some ⟨g1, 1, none⟩)) ?_
 refine ru (.pointer (some ⟨g1, 1, none⟩)) ?_
 refine rz (.int .i64 c.hi) (by have eb_ := hk4; have e0_ := eb_.cellv (v := .int .i64 c.hi) (cA1 c); simp [go_sem, sEv, sLook, nbeq, i64_w, -List.getD_eq_getElem?_getD, e0_]) ?_
 refine ru (.pointer (some ⟨g1, 1, none⟩)) ?_
 refine ru (.pointer (some ⟨g1, 2, none⟩)) ?_
 refine rz (.int .u64 c.lo) (by have eb_ := hk4; have e0_ := eb_.cellv (v := .int .u64 c.lo) (cA2 c); simp [go_sem, sEv, sLook, nbeq, i64_w, -List.getD_eq_getElem?_getD, e0_]) ?_
 refine ru (.int .i64 (wrap64 (c.lo))) ?_
 refine ru (.pointer (some ⟨g1, 3, none⟩)) ?_
 refine rz (.int .i64 c.mn) (by have eb_ := hk4; have e0_ := eb_.cellv (v := .int .i64 c.mn) (cA3 c); simp [go_sem, sEv, sLook, nbeq, i64_w, -List.getD_eq_getElem?_getD, e0_]) ?_
 refine ru (.pointer (some ⟨g1, 4, none⟩)) ?_
 refine rz (.int .i64 c.mx) (by have eb_ := hk4; have e0_ := eb_.cellv (v := .int .i64 c.mx) (cA4 c); simp [go_sem, sEv, sLook, nbeq, i64_w, -List.getD_eq_getElem?_getD, e0_]) ?_
 refine ru (.pointer (some ⟨g1, 5, none⟩)) ?_
 refine ru (.pointer (some ⟨g1, 5, none⟩)) ?_
 refine rz (.int .i64 c.t) (by have eb_ := hk4; have e0_ := eb_.cellv (v := .int .i64 c.t) (cA5 c); simp [go_sem, sEv, sLook, nbeq, i64_w, -List.getD_eq_getElem?_getD, e0_]) ?_
 refine ru (.pointer (some ⟨g1, 5, none⟩)) ?_
 refine ru (.pointer (some ⟨g1, 6, none⟩)) ?_
 refine rz (.int .i64 c.src) (by have eb_ := hk4; have e0_ := eb_.cellv (v := .int .i64 c.src) (cA6 c); simp [go_sem, sEv, sLook, nbeq, i64_w, -List.getD_eq_getElem?_getD, e0_]) ?_
 refine ru (.pointer (some ⟨g1, 5, none⟩)) ?_
 refine ru (.pointer (some ⟨g1, 7, none⟩)) ?_
 refine rz (.int .i64 c.seq) (by have eb_ := hk4; have e0_ := eb_.cellv (v := .int .i64 c.seq) (cA7 c); simp [go_sem, sEv, sLook, nbeq, i64_w, -List.getD_eq_getElem?_getD, e0_]) ?_
 refine ru (.pointer (some ⟨g1, 5, none⟩)) ?_
 refine ru (.pointer (some ⟨g1, 8, none⟩)) ?_
 refine rz (.int .i64 c.v) (by have eb_ := hk4; have e0_ := eb_.cellv (v := .int .i64 c.v) (cA8 c); simp [go_sem, sEv, sLook, nbeq, i64_w, -List.getD_eq_getElem?_getD, e0_]) ?_
 refine rw_new (cs := #[.int .i64 c.cnt, .int .i64 c.hi, .int .i64 (wrap64 (c.lo)), .int .i64 c.mn, .int .i64 c.mx, .int .i64 c.t, .int .i64 c.src, .int .i64 c.seq, .int .i64 c.v, .int .i64 0]) (t := 3) (fun g => .slice (some ⟨g, 0, none⟩) 10 10) rfl rfl rfl rfl (by kernel_rfl) ?_
 intro g7 w8 hg12 hz11 hb9 hk10
 have hs_w8 := hb9.size
 have hk10r : OwnK (Kd.int .i64) 3 w8 w.heap.size g7 (some ⟨g7, 0, none⟩) 10 10 ([c.cnt, c.hi, wrap64 (c.lo), c.mn, c.mx, c.t, c.src, c.seq, c.v, 0] : List Int) := scal_own w.heap.size hk10 (by omega) rfl rfl (by simp)
 refine rv (.slice (some ⟨g7, 0, none⟩) 10 10) ?_
 refine rw_end ?_
 refine w_weaken (G' := [(1, .pointer (some ⟨g1, 0, none⟩)), (2, .slice none 0 0), (3, .slice (some ⟨g7, 0, none⟩) 10 10)]) ⟨rfl, rfl, rfl, trivial⟩ ?_
 refine w_seq ?_
 refine wsr ?_
 refine ru (.pointer (some ⟨g1, 9, none⟩)) ?_
 refine rz (.agg (encH c.h).toArray) (run_as (load_hist (c := c) (hk4.on hb9))) ?_
 refine rv (.int .i64 0) ?_
 refine rw_end ?_
 refine w_block ?_
 refine w_loop (fun m_ G W_ => ∃ (j : Nat) (A3_ : Option Addr) (c3_ : Nat), j + m_ = 65 ∧ Below w.heap.size w W_ ∧ OwnK (Kd.int .i64) 3 W_ w.heap.size w.heap.size A3_ (headC c ((pr c.h j).length : Int) ++ flatP (pr c.h j)).length c3_ (headC c ((pr c.h j).length : Int) ++ flatP (pr c.h j)) ∧ G = [(3, .slice A3_ ((headC c ((pr c.h j).length : Int) ++ flatP (pr c.h j)).length) c3_), (33, .agg (encH c.h).toArray), (34, .int .i64 ((j : Nat) : Int))]) 65 [(3, .slice (some ⟨g7, 0, none⟩) ((headC c ((pr c.h 0).length : Int) ++ flatP (pr c.h 0)).length) 10), (33, .agg (encH c.h).toArray), (34, .int .i64 0)] ⟨0, (some ⟨g7, 0, none⟩), 10, by omega, (chain hb3 hb9), (OwnK.mono (d := (Kd.int .i64)) hk10r (by omega)), rfl⟩ ⟨rfl, rfl, rfl, trivial⟩ ?_
 rintro m_ G w_L13 ⟨j, A3_, c3_, hp14, hB_L13, hO3_, rfl⟩
 have hs_w_L13 := hB_L13.size
 refine wsr ?_
 refine rs (.bool (decide (((j : Nat) : Int) < 65))) ?_
 refine rw_end ?_
 refine w_seq ?_
 refine w_cond rfl rfl (fun cJ => ?_) (fun cJ => ?_)
 ·
  have l15 : (((j : Nat) : Int) < 65) := of_decide_eq_true cJ
  refine w_skip ?_
  refine w_seq ?_
  refine w_block ?_
  refine wsr ?_
  refine rv (.int .i64 ((j : Nat) : Int)) ?_
  refine rz (.int .i64 (atF c.h j)) (run_as (index_at c.h j (by omega) _)) ?_
  refine rv (.int .i64 ((j : Nat) : Int)) ?_
  refine rv (.int .i64 (atF c.h j)) ?_
  refine rw_end ?_
  refine w_weaken (G' := [(3, .slice A3_ ((headC c ((pr c.h j).length : Int) ++ flatP (pr c.h j)).length) c3_), (4, .int .i64 ((j : Nat) : Int)), (5, .int .i64 (atF c.h j)), (33, .agg (encH c.h).toArray), (34, .int .i64 ((j : Nat) : Int))]) ⟨rfl, rfl, rfl, rfl, rfl, trivial⟩ ?_
  refine wsr ?_
  refine rv (.int .i64 (atF c.h j)) ?_
  refine rs (.bool ((atF c.h j) != 0)) ?_
  refine rw_end ?_
  refine w_cond rfl rfl (fun cZ => ?_) (fun cZ => ?_)
  ·
   have l16 : ¬ (atF c.h j) = 0 := by simpa using cZ
   refine wsr ?_
   refine rv (.slice A3_ ((headC c ((pr c.h j).length : Int) ++ flatP (pr c.h j)).length) c3_) ?_
   refine rv (.int .i64 ((j : Nat) : Int)) ?_
   refine rv (.int .i64 (atF c.h j)) ?_
   refine rw_new (cs := #[.int .i64 ((j : Nat) : Int), .int .i64 (atF c.h j)]) (t := 3) (fun g => .slice (some ⟨g, 0, none⟩) 2 2) rfl rfl rfl rfl (by kernel_rfl) ?_
   intro g17 w18 hg22 hz21 hb19 hk20
   have hs_w18 := hb19.size
   have hk20r : OwnK (Kd.int .i64) 3 w18 w.heap.size g17 (some ⟨g17, 0, none⟩) 2 2 ([((j : Nat) : Int), (atF c.h j)] : List Int) := scal_own w.heap.size hk20 (by omega) rfl rfl (by simp)
   have oA29 : OwnK (Kd.int .i64) 3 w18 w.heap.size w.heap.size A3_ ((headC c ((pr c.h j).length : Int) ++ flatP (pr c.h j)).length) c3_ (headC c ((pr c.h j).length : Int) ++ flatP (pr c.h j)) := (OwnK.on (d := (Kd.int .i64)) hO3_ hb19)
   refine rw_append_kd (d := (Kd.int .i64)) w.heap.size rfl rfl rfl (.tmp 40) (.tmp 43) rfl rfl 22 3 (.int .i64 0) 8 rfl (by kernel_rfl) (by kernel_rfl) rfl (show 0 < 1 by decide) (by decide) (fun _ _ h => h) (b := w.heap.size) rfl rfl (by omega) oA29 (OwnK.Cn (d := (Kd.int .i64)) hk20r) (chain hB_L13 hb19) (by omega) (by first | omega | (have q_ := pr_len c.h j; simp only [List.length_append, List.length_cons, List.length_nil, headC, flatP_len]; omega)) ?_
   intro A23 c24 w25 hO26 hB27 hG28
   have hs_w25 := hB27.size
   have hgs_w25 := hG28.size
   refine rv (.slice A23 (((headC c ((pr c.h j).length : Int) ++ flatP (pr c.h j)) ++ ([((j : Nat) : Int), (atF c.h j)] : List Int)).length) c24) ?_
   refine rw_end ?_
   refine w_weaken (G' := [(3, .slice A23 (((headC c ((pr c.h j).length : Int) ++ flatP (pr c.h j)) ++ ([((j : Nat) : Int), (atF c.h j)] : List Int)).length) c24), (33, .agg (encH c.h).toArray), (34, .int .i64 ((j : Nat) : Int))]) ⟨rfl, rfl, rfl, trivial⟩ ?_
   refine w_region ?_
   have e9_ : (((headC c ((pr c.h j).length : Int) ++ flatP (pr c.h j)) ++ ([((j : Nat) : Int), (atF c.h j)] : List Int))).getD 9 0 = ((pr c.h j).length : Int) := rfl
   have q9_ := pr_len c.h j
   have l9_ : 9 < (((headC c ((pr c.h j).length : Int) ++ flatP (pr c.h j)) ++ ([((j : Nat) : Int), (atF c.h j)] : List Int))).length := by simp only [List.length_append, List.length_cons, headC]; omega
   refine rv (.slice A23 (((headC c ((pr c.h j).length : Int) ++ flatP (pr c.h j)) ++ ([((j : Nat) : Int), (atF c.h j)] : List Int)).length) c24) ?_
   obtain ⟨g34, rfl⟩ := OwnK.adr (d := (Kd.int .i64)) hO26 (by first | omega | decide)
   obtain ⟨ad31, hA32, hc33⟩ := int_at (Kd.C_below (OwnK.C (d := (Kd.int .i64)) hO26) (Below.refl _ _)) 0 9 (by first | omega | decide)
   obtain rfl := Option.some.inj hA32
   have he35 : w25.cell? ⟨g34, 9, none⟩ = some (.int .i64 (((headC c ((pr c.h j).length : Int) ++ flatP (pr c.h j)) ++ ([((j : Nat) : Int), (atF c.h j)] : List Int)).getD 9 0)) := cell_g (hc33 0 _ rfl) rfl
   refine rz (.pointer (some ⟨g34, 9, none⟩)) (by rw [← add_plain g34 (9)]; exact (run_as (run_at_1 (P := Try.prog) (e := 3) (by kernel_rfl) (by kernel_rfl) 9 (by first | omega | decide) _))) ?_
   refine rz (.int .i64 (((headC c ((pr c.h j).length : Int) ++ flatP (pr c.h j)) ++ ([((j : Nat) : Int), (atF c.h j)] : List Int)).getD 9 0)) (by have e0_ := cellOn he35 (Below.refl _ _); simp [go_sem, sEv, sLook, nbeq, i64_w, -List.getD_eq_getElem?_getD, e0_]) ?_
   refine rz (.int .i64 (((pr c.h j).length + 1 : Nat) : Int)) (by exact run_int (a := wrap64 ((((headC c ((pr c.h j).length : Int) ++ flatP (pr c.h j)) ++ ([((j : Nat) : Int), (atF c.h j)] : List Int))).getD 9 0 + 1)) (by simp [go_sem, sEv, sLook, nbeq, i64_w, -List.getD_eq_getElem?_getD]) (by rw [e9_]; unfold wrap64; omega)) ?_
   refine rz (.pointer (some ⟨g34, 9, none⟩)) (by rw [← add_plain g34 (9)]; exact (run_as (run_at_1 (P := Try.prog) (e := 3) (by kernel_rfl) (by kernel_rfl) 9 (by first | omega | decide) _))) ?_
   have oA36 : OwnK (Kd.int .i64) 3 w25 w.heap.size w.heap.size (some ⟨g34, 0, none⟩) (((headC c ((pr c.h j).length : Int) ++ flatP (pr c.h j)) ++ ([((j : Nat) : Int), (atF c.h j)] : List Int)).length) c24 ((headC c ((pr c.h j).length : Int) ++ flatP (pr c.h j)) ++ ([((j : Nat) : Int), (atF c.h j)] : List Int)) := hO26
   refine rw_store_el (d := (Kd.int .i64)) w.heap.size rfl rfl 3 (.tmp 49) (.tmp 48) rfl rfl rfl 3 (i := 9) (((pr c.h j).length + 1 : Nat) : Int) [.int .i64 (((pr c.h j).length + 1 : Nat) : Int)] rfl (congrArg (fun z => (⟨_, z, none⟩ : Addr)) (Nat.mul_one _).symm) rfl rfl (by kernel_rfl) (by intro q hq; simp only [List.mem_cons, List.not_mem_nil, or_false] at hq; rcases hq with rfl <;> rfl) rfl oA36 (by omega) rfl hB27 ?_
   intro w37 hO38 hB39 hG40
   have hs_w37 := hB39.size
   have hgs_w37 := hG40.size
   refine rw_end ?_
   refine w_weaken (G' := [(3, .slice (some ⟨g34, 0, none⟩) (((headC c ((pr c.h j).length : Int) ++ flatP (pr c.h j)) ++ ([((j : Nat) : Int), (atF c.h j)] : List Int)).length) c24), (33, .agg (encH c.h).toArray), (34, .int .i64 ((j : Nat) : Int))]) ⟨rfl, rfl, rfl, trivial⟩ ?_
   refine w_blk ?_
   refine w_region ?_
   refine rw1 (.int .i64 ((j + 1 : Nat) : Int)) ?_
   refine rv (.int .i64 ((j + 1 : Nat) : Int)) ?_
   refine rw_end ?_
   have e41 : (((headC c ((pr c.h j).length : Int) ++ flatP (pr c.h j)) ++ ([((j : Nat) : Int), (atF c.h j)] : List Int)).set 9 (((pr c.h j).length + 1 : Nat) : Int)) = (headC c ((pr c.h (j + 1)).length : Int) ++ flatP (pr c.h (j + 1))) := by (first | rw [pr_zero c.h j (by assumption)] | (rw [pr_more c.h j (by assumption), flatP_append, List.length_append]; rfl))
   have hO42 : OwnK (Kd.int .i64) 3 w37 w.heap.size w.heap.size (some ⟨g34, 0, none⟩) (headC c ((pr c.h (j + 1)).length : Int) ++ flatP (pr c.h (j + 1))).length c24 (headC c ((pr c.h (j + 1)).length : Int) ++ flatP (pr c.h (j + 1))) := by rw [← e41]; exact OwnK.full hO38
   have en43 : ((headC c ((pr c.h j).length : Int) ++ flatP (pr c.h j)) ++ ([((j : Nat) : Int), (atF c.h j)] : List Int)).length = (headC c ((pr c.h (j + 1)).length : Int) ++ flatP (pr c.h (j + 1))).length := by rw [← e41] <;> exact OwnK.len (d := (Kd.int .i64)) hO38
   exact w_back (m_ - 1) [(3, .slice (some ⟨g34, 0, none⟩) ((headC c ((pr c.h (j + 1)).length : Int) ++ flatP (pr c.h (j + 1))).length) c24), (33, .agg (encH c.h).toArray), (34, .int .i64 ((j + 1 : Nat) : Int))] (by omega) ⟨(by first | rfl | (rw [← en43]; rfl)), rfl, rfl, trivial⟩ ⟨(j + 1), (some ⟨g34, 0, none⟩), c24, by omega, hB39, (OwnK.mono (d := (Kd.int .i64)) hO42 (by omega)), rfl⟩
  ·
   have l44 : (atF c.h j) = 0 := by simpa using cZ
   refine w_skip ?_
   refine w_blk ?_
   refine w_region ?_
   refine rw1 (.int .i64 ((j + 1 : Nat) : Int)) ?_
   refine rv (.int .i64 ((j + 1 : Nat) : Int)) ?_
   refine rw_end ?_
   have e45 : (headC c ((pr c.h j).length : Int) ++ flatP (pr c.h j)) = (headC c ((pr c.h (j + 1)).length : Int) ++ flatP (pr c.h (j + 1))) := by (first | rw [pr_zero c.h j (by assumption)] | (rw [pr_more c.h j (by assumption), flatP_append, List.length_append]; rfl))
   have hO46 : OwnK (Kd.int .i64) 3 w_L13 w.heap.size w.heap.size A3_ (headC c ((pr c.h (j + 1)).length : Int) ++ flatP (pr c.h (j + 1))).length c3_ (headC c ((pr c.h (j + 1)).length : Int) ++ flatP (pr c.h (j + 1))) := by rw [← e45]; exact OwnK.full hO3_
   have en47 : (headC c ((pr c.h j).length : Int) ++ flatP (pr c.h j)).length = (headC c ((pr c.h (j + 1)).length : Int) ++ flatP (pr c.h (j + 1))).length := by rw [← e45] <;> exact OwnK.len (d := (Kd.int .i64)) hO3_
   exact w_back (m_ - 1) [(3, .slice A3_ ((headC c ((pr c.h (j + 1)).length : Int) ++ flatP (pr c.h (j + 1))).length) c3_), (33, .agg (encH c.h).toArray), (34, .int .i64 ((j + 1 : Nat) : Int))] (by omega) ⟨(by first | rfl | (rw [← en47]; rfl)), rfl, rfl, trivial⟩ ⟨(j + 1), A3_, c3_, by omega, hB_L13, (OwnK.mono (d := (Kd.int .i64)) hO46 (by omega)), rfl⟩
 ·
  have l48 : ¬ (((j : Nat) : Int) < 65) := of_decide_eq_false cJ
  refine w_exit rfl ?_
  refine wsr ?_
  refine rv (.slice A3_ ((headC c ((pr c.h j).length : Int) ++ flatP (pr c.h j)).length) c3_) ?_
  refine rv (.slice A3_ ((headC c ((pr c.h j).length : Int) ++ flatP (pr c.h j)).length) c3_) ?_
  refine rw_end ?_
  refine w_ret (post_ret1 rfl rfl ?_)
  have eX_ : (headC c ((pr c.h j).length : Int) ++ flatP (pr c.h j)) = numsC c := (by rw [show j = 65 by omega]; rfl)
  have hf_ := hO3_
  rw [eX_] at hf_
  rw [eX_]
  exact ⟨_, _, rfl, OwnK.mono (d := (Kd.int .i64)) hf_ (by omega), hB_L13⟩
set_option maxHeartbeats 4000000 in
theorem rnums_calls (w : World) (c : CL) :
  Calls Try.prog 54 #[.agg (carr c)] w fun e w' => ∃ A' c', e = .returned (.slice A' (numsC c).length c') ∧ OwnK (Kd.int .i64) 3 w' w.heap.size w.heap.size A' (numsC c).length c' (numsC c) ∧ Below w.heap.size w w' := by
 refine calls_flow Try.func54 rfl 55 rfl (Nat.le_of_ble_eq_true rfl) [(0, .agg (carr c))] ?_ ?_
 ·
  intro t v h; exact args_look rfl t v h
 refine wsr ?_
 refine rw_new (cs := carr c) (t := 81) (fun g => .pointer (some ⟨g, 0, none⟩)) rfl rfl rfl rfl (by simp [go_sem, sEv, sLook, nbeq, i64_w, -List.getD_eq_getElem?_getD]) ?_
 intro g1 w2 hg6 hz5 hb3 hk4
 have hs_w2 := hb3.size
 refine rv (.slice none 0 0) ?_
 refine rw_end ?_
 refine wsr ?_
 refine rv (.slice none 0 0) ?_
 refine rw_end ?_
 refine w_seq ?_
 refine wsr ?_
 refine rv (.int .i64 0) ?_
 refine rw_end ?_
 refine w_block ?_
 refine w_loop (fun m_ G W_ => ∃ (j : Nat) (A3_ : Option Addr) (c3_ : Nat), j + m_ = 65 ∧ Below w.heap.size w W_ ∧ OwnK (Kd.int .i64) 3 W_ w.heap.size w.heap.size A3_ (flatP (pr c.h j)).length c3_ (flatP (pr c.h j)) ∧ (Blk W_ g1 81 (carr c)) ∧ G = [(1, .pointer (some ⟨g1, 0, none⟩)), (3, .slice A3_ ((flatP (pr c.h j)).length) c3_), (4, .int .i64 ((j : Nat) : Int))]) 65 [(1, .pointer (some ⟨g1, 0, none⟩)), (3, .slice none ((flatP (pr c.h 0)).length) 0), (4, .int .i64 0)] ⟨0, none, 0, by omega, hb3, (OwnK.nil _ _ _ _ _), hk4, rfl⟩ ⟨rfl, rfl, rfl, trivial⟩ ?_
 rintro m_ G w_L7 ⟨j, A3_, c3_, hp8, hB_L7, hO3_, hf9, rfl⟩
 have hs_w_L7 := hB_L7.size
 have hltc_ := hf9.lt
 refine w_seq ?_
 refine wsr ?_
 refine rv (.int .i64 ((j : Nat) : Int)) ?_
 refine rs (.bool (decide (((j : Nat) : Int) < 65))) ?_
 refine rw_end ?_
 refine w_cond rfl rfl (fun cJ => ?_) (fun cJ => ?_)
 ·
  have l10 : (((j : Nat) : Int) < 65) := of_decide_eq_true cJ
  refine w_skip ?_
  refine w_seq ?_
  refine w_block ?_
  refine wsr ?_
  refine rv (.int .i64 ((j : Nat) : Int)) ?_
  refine ru (.pointer (some ⟨g1, 9, none⟩)) ?_
  refine rz (.pointer (some ⟨g1, 9 + j, none⟩)) (run_as (addr_hist j (by omega) _)) ?_
  refine rz (.int .i64 (atF c.h j)) (by have e0_ := (hf9).cellv (cHA c j (by omega)); simp [go_sem, sEv, sLook, nbeq, i64_w, -List.getD_eq_getElem?_getD, e0_]) ?_
  refine rs (.bool ((atF c.h j) != 0)) ?_
  refine rw_end ?_
  refine w_weaken (G' := [(1, .pointer (some ⟨g1, 0, none⟩)), (3, .slice A3_ ((flatP (pr c.h j)).length) c3_), (4, .int .i64 ((j : Nat) : Int)), (14, .bool ((atF c.h j) != 0))]) ⟨rfl, rfl, rfl, rfl, trivial⟩ ?_
  refine w_cond rfl rfl (fun cZ => ?_) (fun cZ => ?_)
  ·
   have l11 : ¬ (atF c.h j) = 0 := by simpa using cZ
   refine w_region ?_
   refine rv (.slice A3_ ((flatP (pr c.h j)).length) c3_) ?_
   refine rv (.int .i64 ((j : Nat) : Int)) ?_
   refine rv (.int .i64 ((j : Nat) : Int)) ?_
   refine ru (.pointer (some ⟨g1, 9, none⟩)) ?_
   refine rz (.pointer (some ⟨g1, 9 + j, none⟩)) (run_as (addr_hist j (by omega) _)) ?_
   refine rz (.int .i64 (atF c.h j)) (by have e0_ := (hf9).cellv (cHA c j (by omega)); simp [go_sem, sEv, sLook, nbeq, i64_w, -List.getD_eq_getElem?_getD, e0_]) ?_
   refine rw_new (cs := #[.int .i64 ((j : Nat) : Int), .int .i64 (atF c.h j)]) (t := 3) (fun g => .slice (some ⟨g, 0, none⟩) 2 2) rfl rfl rfl rfl (by kernel_rfl) ?_
   intro g12 w13 hg17 hz16 hb14 hk15
   have hs_w13 := hb14.size
   have hk15r : OwnK (Kd.int .i64) 3 w13 w.heap.size g12 (some ⟨g12, 0, none⟩) 2 2 ([((j : Nat) : Int), (atF c.h j)] : List Int) := scal_own w.heap.size hk15 (by omega) rfl rfl (by simp)
   have oA24 : OwnK (Kd.int .i64) 3 w13 w.heap.size w.heap.size A3_ ((flatP (pr c.h j)).length) c3_ (flatP (pr c.h j)) := (OwnK.on (d := (Kd.int .i64)) hO3_ hb14)
   refine rw_append_kd (d := (Kd.int .i64)) w.heap.size rfl rfl rfl (.tmp 15) (.tmp 21) rfl rfl 22 3 (.int .i64 0) 8 rfl (by kernel_rfl) (by kernel_rfl) rfl (show 0 < 1 by decide) (by decide) (fun _ _ h => h) (b := w.heap.size) rfl rfl (by omega) oA24 (OwnK.Cn (d := (Kd.int .i64)) hk15r) (chain hB_L7 hb14) (by omega) (by first | omega | (have q_ := pr_len c.h j; simp only [List.length_append, List.length_cons, List.length_nil, headC, flatP_len]; omega) | (have q_ := pr_len c.h 65; simp only [List.length_append, List.length_cons, List.length_nil, flatP_len]; omega)) ?_
   intro A18 c19 w20 hO21 hB22 hG23
   have hs_w20 := hB22.size
   have hgs_w20 := hG23.size
   have hk26 := OwnK.blk_grown (hf9.on hb14) oA24 (.inr (by decide)) hG23
   refine rv (.slice A18 (((flatP (pr c.h j)) ++ ([((j : Nat) : Int), (atF c.h j)] : List Int)).length) c19) ?_
   refine rw_end ?_
   refine w_weaken (G' := [(1, .pointer (some ⟨g1, 0, none⟩)), (3, .slice A18 (((flatP (pr c.h j)) ++ ([((j : Nat) : Int), (atF c.h j)] : List Int)).length) c19), (4, .int .i64 ((j : Nat) : Int))]) ⟨rfl, rfl, rfl, trivial⟩ ?_
   refine w_blk ?_
   refine w_region ?_
   refine rv (.int .i64 ((j : Nat) : Int)) ?_
   refine rw1 (.int .i64 ((j + 1 : Nat) : Int)) ?_
   refine rv (.int .i64 ((j + 1 : Nat) : Int)) ?_
   refine rw_end ?_
   have e27 : ((flatP (pr c.h j)) ++ ([((j : Nat) : Int), (atF c.h j)] : List Int)) = (flatP (pr c.h (j + 1))) := by (first | rw [pr_zero c.h j (by assumption)] | (rw [pr_more c.h j (by assumption), flatP_append]; rfl))
   have hO28 : OwnK (Kd.int .i64) 3 w20 w.heap.size w.heap.size A18 (flatP (pr c.h (j + 1))).length c19 (flatP (pr c.h (j + 1))) := by rw [← e27]; exact OwnK.full hO21
   have en29 : ((flatP (pr c.h j)) ++ ([((j : Nat) : Int), (atF c.h j)] : List Int)).length = (flatP (pr c.h (j + 1))).length := by rw [← e27] <;> exact OwnK.len (d := (Kd.int .i64)) hO21
   exact w_back (m_ - 1) [(1, .pointer (some ⟨g1, 0, none⟩)), (3, .slice A18 ((flatP (pr c.h (j + 1))).length) c19), (4, .int .i64 ((j + 1 : Nat) : Int))] (by omega) ⟨rfl, (by first | rfl | (rw [← en29]; rfl)), rfl, trivial⟩ ⟨(j + 1), A18, c19, by omega, hB22, (OwnK.mono (d := (Kd.int .i64)) hO28 (by omega)), hk26, rfl⟩
  ·
   have l30 : (atF c.h j) = 0 := by simpa using cZ
   refine w_skip ?_
   refine w_blk ?_
   refine w_region ?_
   refine rv (.int .i64 ((j : Nat) : Int)) ?_
   refine rw1 (.int .i64 ((j + 1 : Nat) : Int)) ?_
   refine rv (.int .i64 ((j + 1 : Nat) : Int)) ?_
   refine rw_end ?_
   have e31 : (flatP (pr c.h j)) = (flatP (pr c.h (j + 1))) := by (first | rw [pr_zero c.h j (by assumption)] | (rw [pr_more c.h j (by assumption), flatP_append]; rfl))
   have hO32 : OwnK (Kd.int .i64) 3 w_L7 w.heap.size w.heap.size A3_ (flatP (pr c.h (j + 1))).length c3_ (flatP (pr c.h (j + 1))) := by rw [← e31]; exact OwnK.full hO3_
   have en33 : (flatP (pr c.h j)).length = (flatP (pr c.h (j + 1))).length := by rw [← e31] <;> exact OwnK.len (d := (Kd.int .i64)) hO3_
   exact w_back (m_ - 1) [(1, .pointer (some ⟨g1, 0, none⟩)), (3, .slice A3_ ((flatP (pr c.h (j + 1))).length) c3_), (4, .int .i64 ((j + 1 : Nat) : Int))] (by omega) ⟨rfl, (by first | rfl | (rw [← en33]; rfl)), rfl, trivial⟩ ⟨(j + 1), A3_, c3_, by omega, hB_L7, (OwnK.mono (d := (Kd.int .i64)) hO32 (by omega)), hf9, rfl⟩
 ·
  have l34 : ¬ (((j : Nat) : Int) < 65) := of_decide_eq_false cJ
  refine w_exit rfl ?_
  refine wsr ?_
  refine ru (.pointer (some ⟨g1, 0, none⟩)) ?_
  refine rz (.int .i64 c.cnt) (by have eb_ := hf9; have e0_ := eb_.cellv (v := .int .i64 c.cnt) (cA0 c); simp [go_sem, sEv, sLook, nbeq, i64_w, -List.getD_eq_getElem?_getD, e0_]) ?_
  refine ru (.pointer (some ⟨g1, 1, none⟩)) ?_
  refine ru (.pointer (some ⟨g1, 1, none⟩)) ?_
  refine rz (.int .i64 c.hi) (by have eb_ := hf9; have e0_ := eb_.cellv (v := .int .i64 c.hi) (cA1 c); simp [go_sem, sEv, sLook, nbeq, i64_w, -List.getD_eq_getElem?_getD, e0_]) ?_
  refine ru (.pointer (some ⟨g1, 1, none⟩)) ?_
  refine ru (.pointer (some ⟨g1, 2, none⟩)) ?_
  refine rz (.int .u64 c.lo) (by have eb_ := hf9; have e0_ := eb_.cellv (v := .int .u64 c.lo) (cA2 c); simp [go_sem, sEv, sLook, nbeq, i64_w, -List.getD_eq_getElem?_getD, e0_]) ?_
  refine ru (.int .i64 (wrap64 (c.lo))) ?_
  refine ru (.pointer (some ⟨g1, 3, none⟩)) ?_
  refine rz (.int .i64 c.mn) (by have eb_ := hf9; have e0_ := eb_.cellv (v := .int .i64 c.mn) (cA3 c); simp [go_sem, sEv, sLook, nbeq, i64_w, -List.getD_eq_getElem?_getD, e0_]) ?_
  refine ru (.pointer (some ⟨g1, 4, none⟩)) ?_
  refine rz (.int .i64 c.mx) (by have eb_ := hf9; have e0_ := eb_.cellv (v := .int .i64 c.mx) (cA4 c); simp [go_sem, sEv, sLook, nbeq, i64_w, -List.getD_eq_getElem?_getD, e0_]) ?_
  refine ru (.pointer (some ⟨g1, 5, none⟩)) ?_
  refine ru (.pointer (some ⟨g1, 5, none⟩)) ?_
  refine rz (.int .i64 c.t) (by have eb_ := hf9; have e0_ := eb_.cellv (v := .int .i64 c.t) (cA5 c); simp [go_sem, sEv, sLook, nbeq, i64_w, -List.getD_eq_getElem?_getD, e0_]) ?_
  refine ru (.pointer (some ⟨g1, 5, none⟩)) ?_
  refine ru (.pointer (some ⟨g1, 6, none⟩)) ?_
  refine rz (.int .i64 c.src) (by have eb_ := hf9; have e0_ := eb_.cellv (v := .int .i64 c.src) (cA6 c); simp [go_sem, sEv, sLook, nbeq, i64_w, -List.getD_eq_getElem?_getD, e0_]) ?_
  refine ru (.pointer (some ⟨g1, 5, none⟩)) ?_
  refine ru (.pointer (some ⟨g1, 7, none⟩)) ?_
  refine rz (.int .i64 c.seq) (by have eb_ := hf9; have e0_ := eb_.cellv (v := .int .i64 c.seq) (cA7 c); simp [go_sem, sEv, sLook, nbeq, i64_w, -List.getD_eq_getElem?_getD, e0_]) ?_
  refine ru (.pointer (some ⟨g1, 5, none⟩)) ?_
  refine ru (.pointer (some ⟨g1, 8, none⟩)) ?_
  refine rz (.int .i64 c.v) (by have eb_ := hf9; have e0_ := eb_.cellv (v := .int .i64 c.v) (cA8 c); simp [go_sem, sEv, sLook, nbeq, i64_w, -List.getD_eq_getElem?_getD, e0_]) ?_
  have ej_ : j = 65 := by omega
  refine rv (.slice A3_ ((flatP (pr c.h j)).length) c3_) ?_
  refine rs (.int .i64 (((flatP (pr c.h j)).length : Nat) : Int)) ?_
  refine rz (.int .i64 (((pr c.h j).length : Nat) : Int)) (by exact run_int (a := wrap64 (((flatP (pr c.h j)).length : Int) / 2)) (by simp [go_sem, sEv, sLook, nbeq, i64_w, -List.getD_eq_getElem?_getD]) (by have q_ := pr_len c.h j; rw [flatP_len]; unfold wrap64; omega)) ?_
  refine rw_new (cs := #[.int .i64 c.cnt, .int .i64 c.hi, .int .i64 (wrap64 (c.lo)), .int .i64 c.mn, .int .i64 c.mx, .int .i64 c.t, .int .i64 c.src, .int .i64 c.seq, .int .i64 c.v, .int .i64 (((pr c.h j).length : Nat) : Int)]) (t := 3) (fun g => .slice (some ⟨g, 0, none⟩) 10 10) rfl rfl rfl rfl (by kernel_rfl) ?_
  intro g35 w36 hg40 hz39 hb37 hk38
  have hs_w36 := hb37.size
  have hk38r : OwnK (Kd.int .i64) 3 w36 w.heap.size g35 (some ⟨g35, 0, none⟩) 10 10 ([c.cnt, c.hi, wrap64 (c.lo), c.mn, c.mx, c.t, c.src, c.seq, c.v, (((pr c.h j).length : Nat) : Int)] : List Int) := scal_own w.heap.size hk38 (by omega) rfl rfl (by simp)
  refine rv (.slice (some ⟨g35, 0, none⟩) 10 10) ?_
  refine rw_end ?_
  refine w_weaken (G' := [(3, .slice A3_ ((flatP (pr c.h j)).length) c3_), (5, .slice (some ⟨g35, 0, none⟩) 10 10)]) ⟨rfl, rfl, trivial⟩ ?_
  refine wsr ?_
  refine rv (.slice (some ⟨g35, 0, none⟩) 10 10) ?_
  refine rv (.slice A3_ ((flatP (pr c.h j)).length) c3_) ?_
  have oA47 : OwnK (Kd.int .i64) 3 w36 w.heap.size g35 (some ⟨g35, 0, none⟩) 10 10 ([c.cnt, c.hi, wrap64 (c.lo), c.mn, c.mx, c.t, c.src, c.seq, c.v, (((pr c.h j).length : Nat) : Int)] : List Int) := hk38r
  refine rw_append_kd (d := (Kd.int .i64)) w.heap.size rfl rfl rfl (.tmp 52) (.tmp 53) rfl rfl 22 3 (.int .i64 0) 8 rfl (by kernel_rfl) (by kernel_rfl) rfl (show 0 < 1 by decide) (by decide) (fun _ _ h => h) (b := g35) rfl rfl (by omega) oA47 (OwnK.Cn (d := (Kd.int .i64)) (OwnK.on (d := (Kd.int .i64)) hO3_ hb37)) (chain hB_L7 hb37) (by omega) (by first | omega | (have q_ := pr_len c.h j; simp only [List.length_append, List.length_cons, List.length_nil, headC, flatP_len]; omega) | (have q_ := pr_len c.h 65; simp only [List.length_append, List.length_cons, List.length_nil, flatP_len]; omega)) ?_
  intro A41 c42 w43 hO44 hB45 hG46
  have hs_w43 := hB45.size
  have hgs_w43 := hG46.size
  have hO48 := OwnK.elder (d := (Kd.int .i64)) hO3_ hb37 hG46 (fun q hq => Nat.le_trans (by omega) (OwnK.blk_ge (d := (Kd.int .i64)) oA47 hq))
  have hk49 := OwnK.blk_grown (hf9.on hb37) oA47 (.inr (by decide)) hG46
  refine rv (.slice A41 ((([c.cnt, c.hi, wrap64 (c.lo), c.mn, c.mx, c.t, c.src, c.seq, c.v, (((pr c.h j).length : Nat) : Int)] : List Int) ++ (flatP (pr c.h j))).length) c42) ?_
  refine rw_end ?_
  refine w_weaken (G' := [(2, .slice A41 ((([c.cnt, c.hi, wrap64 (c.lo), c.mn, c.mx, c.t, c.src, c.seq, c.v, (((pr c.h j).length : Nat) : Int)] : List Int) ++ (flatP (pr c.h j))).length) c42)]) ⟨rfl, trivial⟩ ?_
  refine w_ret (post_ret1 rfl rfl ?_)
  have eX_ : (([c.cnt, c.hi, wrap64 (c.lo), c.mn, c.mx, c.t, c.src, c.seq, c.v, (((pr c.h j).length : Nat) : Int)] : List Int) ++ (flatP (pr c.h j))) = numsC c := (by rw [ej_]; rfl)
  have hf_ := hO44
  rw [eX_] at hf_
  rw [eX_]
  exact ⟨_, _, rfl, OwnK.mono (d := (Kd.int .i64)) hf_ (by omega), hB45⟩
theorem C_none {α : Type} {d : Kd α} {w : World} {A : Option Addr} {n : Nat} {xs : List α} (h : d.C w A n xs) (hn : A.isNone = true) : xs = [] := by
  cases xs with
  | nil => rfl
  | cons x xs =>
    have h1 : n = (x :: xs).length := h.1.symm
    obtain ⟨ad, h2, _⟩ := h.2.2 (by rw [h1]; simp)
    rw [h2] at hn
    cases hn
set_option maxHeartbeats 4000000 in
theorem clonei_calls (w : World) (A1 : Option Addr) (c1 : Nat) (l : List Int) (hl : (Kd.int .i64).C w A1 l.length l) (hc : l.length ≤ c1) (hln : l.length ≤ 100000) :
  Calls Try.prog 69 #[.slice A1 l.length c1] w fun e w' => ∃ A' c', e = .returned (.slice A' l.length c') ∧ OwnK (Kd.int .i64) 3 w' w.heap.size w.heap.size A' l.length c' l ∧ Below w.heap.size w w' := by
 refine calls_flow Try.func69 rfl 8 rfl (Nat.le_of_ble_eq_true rfl) [(0, .slice A1 l.length c1)] ?_ ?_
 ·
  intro t v h; exact args_look rfl t v h
 refine wsr ?_
 refine rv (.slice none 0 0) ?_
 refine rw_end ?_
 refine w_seq ?_
 refine wsr ?_
 refine rv (.slice A1 l.length c1) ?_
 refine rz (.bool A1.isNone) (run_as (run_nil_eql (P := Try.prog) (e := 3) (by kernel_rfl) _ _ _ _)) ?_
 refine rw_end ?_
 refine w_cond rfl rfl (fun cN => ?_) (fun cN => ?_)
 ·
  refine wsr ?_
  refine rv (.slice none 0 0) ?_
  refine rw_end ?_
  refine w_ret (post_ret1 rfl rfl ?_)
  obtain rfl : l = [] := C_none (d := (Kd.int .i64)) hl cN
  exact ⟨_, _, rfl, OwnK.nil _ _ _ _ _, (Below.refl _ _)⟩
 ·
  refine w_skip ?_
  refine wsr ?_
  refine rw_new (cs := #[]) (t := 3) (fun g => .slice (some ⟨g, 0, none⟩) 0 0) rfl rfl rfl rfl (by kernel_rfl) ?_
  intro g1 w2 hg6 hz5 hb3 hk4
  have hs_w2 := hb3.size
  have hk4r : OwnK (Kd.int .i64) 3 w2 w.heap.size g1 (some ⟨g1, 0, none⟩) 0 0 ([] : List Int) := lit_nilK _ w.heap.size hk4 (by omega)
  refine rv (.slice A1 l.length c1) ?_
  have oA13 : OwnK (Kd.int .i64) 3 w2 w.heap.size g1 (some ⟨g1, 0, none⟩) 0 0 ([] : List Int) := hk4r
  refine rw_append_kd (d := (Kd.int .i64)) w.heap.size rfl rfl rfl (.tmp 5) (.tmp 6) rfl rfl 22 3 (.int .i64 0) 8 rfl (by kernel_rfl) (by kernel_rfl) rfl (show 0 < 1 by decide) (by decide) (fun _ _ h => h) (b := g1) rfl rfl (by omega) oA13 (Kd.C_below hl hb3) hb3 (by omega) (by simp; omega) ?_
  intro A7 c8 w9 hO10 hB11 hG12
  rw [List.nil_append] at hO10
  try rw [List.nil_append]
  have hs_w9 := hB11.size
  have hgs_w9 := hG12.size
  refine rv (.slice A7 l.length c8) ?_
  refine rw_end ?_
  refine w_weaken (G' := [(2, .slice A7 l.length c8)]) ⟨rfl, trivial⟩ ?_
  refine w_ret (post_ret1 rfl rfl ?_)
  exact ⟨_, _, rfl, OwnK.mono (d := (Kd.int .i64)) hO10 (by omega), hB11⟩
end Go.Proofs.Ytbbhdohjhipalaa.Ce
end
section
namespace Go.Proofs.Ytbbhdohjhipalaa.Ce
open Go.RowKit Go.Proofs.YtbbhdohjhipalaaW.PrintWords Go.Proofs.YtbbhdohjhipalaaW.PrintLast Go.Proofs.YtbbhdohjhipalaaW.PrintMore
open Go.Proofs.Ytbbhdohjhipalaa.Flow
set_option linter.unusedVariables false
set_option linter.unusedSimpArgs false
set_option maxHeartbeats 4000000 in
theorem chunk_calls (w : World) (A : Option Addr) (n c : Nat) :
  Calls Try.prog 68 #[.slice A n c, .int .i64 2] w fun e w' => ∃ gs gn, e = .returned (.func (.func 70) #[] #[.pointer (some ⟨gs, 0, none⟩), .pointer (some ⟨gn, 0, none⟩)]) ∧ Blk w' gs 22 #[.slice A n c] ∧ Blk w' gn 3 #[.int .i64 2] ∧ w.heap.size ≤ gs ∧ gs < gn ∧ Below w.heap.size w w' := by
 refine calls_flow Try.func68 rfl 9 rfl (Nat.le_of_ble_eq_true rfl) [(0, .slice A n c), (1, .int .i64 2)] ?_ ?_
 ·
  intro t v h; exact args_look rfl t v h
 refine wsr ?_
 refine rw_new (cs := #[.slice A n c]) (t := 22) (fun g => .pointer (some ⟨g, 0, none⟩)) rfl rfl rfl rfl (by simp [go_sem, sEv, sLook, nbeq, i64_w, -List.getD_eq_getElem?_getD]) ?_
 intro g1 w2 hg6 hz5 hb3 hk4
 have hs_w2 := hb3.size
 refine rw_new (cs := #[.int .i64 2]) (t := 3) (fun g => .pointer (some ⟨g, 0, none⟩)) rfl rfl rfl rfl (by simp [go_sem, sEv, sLook, nbeq, i64_w, -List.getD_eq_getElem?_getD]) ?_
 intro g7 w8 hg12 hz11 hb9 hk10
 have hs_w8 := hb9.size
 refine rv .nilFunc ?_
 refine rw_end ?_
 refine w_seq ?_
 refine wsr ?_
 refine rl hk10 0 (.int .i64 2) ?_
 refine rs (.bool false) ?_
 refine rw_end ?_
 refine w_cond_f rfl rfl rfl ?_
 refine w_skip ?_
 refine wsr ?_
 refine rs (.func (.func 70) #[] #[.pointer (some ⟨g1, 0, none⟩), .pointer (some ⟨g7, 0, none⟩)]) ?_
 refine rv (.func (.func 70) #[] #[.pointer (some ⟨g1, 0, none⟩), .pointer (some ⟨g7, 0, none⟩)]) ?_
 refine rw_end ?_
 refine w_ret (post_ret1 rfl rfl ?_)
 exact ⟨g1, g7, rfl, (hk4.on hb9), hk10, by omega, by omega, (chain hb3 hb9)⟩
theorem sl_two {A : Option Addr} {n' c : Nat} (j : Nat) (x y z : Int) (hx : x = ((2 * j : Nat) : Int)) (hy : y = ((2 * j + 2 : Nat) : Int)) (hz : z = ((2 * j + 2 : Nat) : Int)) (hc : 2 * j + 2 ≤ c) (w : World) :
    (Instr.sliceAt 22 (.slice A n' c) (some (.int .i64 x)) (some (.int .i64 y)) (some (.int .i64 z))).run Try.prog w = .ok (.slice (A.map (·.add (2 * j * 1))) 2 2) w := by
  have h := sl_max (P := Try.prog) (t := 22) (n' := n') (A := A) (e := 3) (sz := 1) (by kernel_rfl) (fun _ => by kernel_rfl) (2 * j) (2 * j + 2) x y z hx hy hz (by omega) hc w
  rwa [show 2 * j + 2 - 2 * j = 2 by omega] at h
theorem fin_take (k j : Nat) (h : j < k) : (List.finRange k).take (j + 1) = (List.finRange k).take j ++ [⟨j, h⟩] := by
  rw [List.take_succ_eq_append_getElem (by rw [List.length_finRange]; exact h), List.getElem_finRange]
  rfl
set_option maxHeartbeats 4000000 in
theorem chunk1_walk (w : World) (l gs gn : Nat) (A : Option Addr) (c k : Nat) (hk : k ≤ 1000000) (hc : 2 * k ≤ c) (J Jx : List (Fin k) → World → Prop) (hgs : Blk w gs 22 #[.slice A (2 * k) c]) (hgn : Blk w gn 3 #[.int .i64 2]) (hJ : AbidesFrom w.heap.size J)
  (hY : ∀ (pre : List (Fin k)) (x : Fin k) (W1 : World), J pre W1 → pre.length < k → YieldAt Fence.wide 7 Try.prog l #[.slice (A.map (·.add (2 * x.val * 1))) 2 2] W1 fun e W' => (e = .returned (.bool true) ∧ J (pre ++ [x]) W' ∧ Two gs gn W1 W') ∨ (e = .returned (.bool false) ∧ Jx (pre ++ [x]) W'))
  (h0 : J [] w) :
  Calls Try.prog 70 #[.func (.yield l) #[] #[], .pointer (some ⟨gs, 0, none⟩), .pointer (some ⟨gn, 0, none⟩)] w fun e w' => (∃ v, e = .returned v) ∧ ((∃ xs, xs = List.finRange k ∧ J xs w') ∨ (∃ pre, (∃ i, pre = (List.finRange k).take i) ∧ Jx pre w')) := by
 refine calls_flow Try.func70 rfl 31 rfl (Nat.le_of_ble_eq_true rfl) [(0, .func (.yield l) #[] #[]), (1, .pointer (some ⟨gs, 0, none⟩)), (2, .pointer (some ⟨gn, 0, none⟩))] ?_ ?_
 ·
  intro t v h; exact args_look rfl t v h
 refine wsr ?_
 refine rv (.int .i64 0) ?_
 refine rw_end ?_
 refine w_block ?_
 refine w_loop (fun m_ G W_ => ∃ j, j + m_ = k ∧ J ((List.finRange k).take j) W_ ∧ Blk W_ gs 22 #[.slice A (2 * k) c] ∧ Blk W_ gn 3 #[.int .i64 2] ∧ G = [(0, .func (.yield l) #[] #[]), (1, .pointer (some ⟨gs, 0, none⟩)), (2, .pointer (some ⟨gn, 0, none⟩)), (4, .int .i64 ((2 * j : Nat) : Int))]) k [(0, .func (.yield l) #[] #[]), (1, .pointer (some ⟨gs, 0, none⟩)), (2, .pointer (some ⟨gn, 0, none⟩)), (4, .int .i64 0)] ⟨0, by omega, by rw [List.take_zero]; exact h0, hgs, hgn, rfl⟩ ⟨rfl, rfl, rfl, rfl, trivial⟩ ?_
 rintro m_ G w1 ⟨j, hj, hJ1, hs1, hn1, rfl⟩
 have hlts_ := hs1.lt
 have hltn_ := hn1.lt
 refine w_seq ?_
 refine wsr ?_
 refine rv (.int .i64 ((2 * j : Nat) : Int)) ?_
 refine rl hs1 0 (.slice A (2 * k) c) ?_
 refine rs (.int .i64 (((2 * k) : Nat) : Int)) ?_
 refine rs (.bool (decide (((2 * j : Nat) : Int) < (((2 * k) : Nat) : Int)))) ?_
 refine rw_end ?_
 refine w_weaken (G' := [(0, .func (.yield l) #[] #[]), (1, .pointer (some ⟨gs, 0, none⟩)), (2, .pointer (some ⟨gn, 0, none⟩)), (4, .int .i64 ((2 * j : Nat) : Int)), (9, .bool (decide (((2 * j : Nat) : Int) < (((2 * k) : Nat) : Int))))]) ⟨rfl, rfl, rfl, rfl, rfl, trivial⟩ ?_
 refine w_cond rfl rfl (fun cJ => ?_) (fun cJ => ?_)
 ·
  have l1 : (((2 * j : Nat) : Int) < (((2 * k) : Nat) : Int)) := of_decide_eq_true cJ
  refine w_skip ?_
  refine w_seq ?_
  refine w_block ?_
  refine w_seq ?_
  refine w_drawk (M := [0, 0, 0, 6, 14, 31, 63]) (ss := [Is (.int .i64 2), Is (.slice A (2 * k) c), Is (.int .i64 ((2 * j : Nat) : Int)), Is (.slice (adrS 1 A c (2 * j)) (2 * k - 2 * j) (c - 2 * j)), Is (.int .i64 (((2 * k - 2 * j) : Nat) : Int))]) 5 rfl (by decide +kernel) ?_
  refine t_is (.int .i64 2) rfl rfl rfl rfl (fun W_ hW_ F_ => by have eb_ := (hn1.on (below_of_drew hW_)); have e0_ := eb_.cellv (i := 0) (v := (.int .i64 2 : Value)) rfl; simp [go_sem, sEv, sLook, nbeq, i64_w, -List.getD_eq_getElem?_getD, e0_]) ?_
  refine t_is (.slice A (2 * k) c) rfl rfl rfl rfl (fun W_ hW_ F_ => by have eb_ := (hs1.on (below_of_drew hW_)); have e0_ := eb_.cellv (i := 0) (v := (.slice A (2 * k) c : Value)) rfl; simp [go_sem, sEv, sLook, nbeq, i64_w, -List.getD_eq_getElem?_getD, e0_, Try.underlying22]) ?_
  refine tr (.int .i64 ((2 * j : Nat) : Int)) ?_
  refine t_is (.slice (adrS 1 A c (2 * j)) (2 * k - 2 * j) (c - 2 * j)) rfl rfl rfl rfl (fun W_ hW_ F_ => (run_as (sl_from (e := 3) (sz := 1) (by kernel_rfl) (fun _ => by kernel_rfl) (2 * j) _ (by first | rfl | (simp; done) | omega) (by omega) (by omega) _))) ?_
  refine ts (.int .i64 (((2 * k - 2 * j) : Nat) : Int)) ?_
  refine t_tail ?_
  intro w2 hb3_ F4
  have hb3 := below_of_drew hb3_
  have hs_w2 := hb3.size
  refine rz (.int .i64 2) (by simp [go_sem, sEv, sLook, nbeq, i64_w, -List.getD_eq_getElem?_getD]; omega) ?_
  refine rv (.int .i64 2) ?_
  refine rw_end ?_
  refine w_weaken (G' := [(0, .func (.yield l) #[] #[]), (1, .pointer (some ⟨gs, 0, none⟩)), (2, .pointer (some ⟨gn, 0, none⟩)), (4, .int .i64 ((2 * j : Nat) : Int)), (5, .int .i64 2)]) ⟨rfl, rfl, rfl, rfl, rfl, trivial⟩ ?_
  refine w_seq ?_
  refine w_regionI ?_
  refine ri_val (v := .func (.yield l) #[] #[]) (w' := w2) rfl rfl rfl rfl rfl ?_
  refine ri_val (v := .slice A (2 * k) c) (w' := w2) rfl rfl rfl rfl (by have eb_ := (hs1.on hb3); have e0_ := eb_.cellv (i := 0) (v := (.slice A (2 * k) c : Value)) rfl; simp [go_sem, sEv, sLook, nbeq, i64_w, -List.getD_eq_getElem?_getD, e0_, Try.underlying22]) ?_
  refine ri_val (v := .int .i64 ((2 * j : Nat) : Int)) (w' := w2) rfl rfl rfl rfl rfl ?_
  refine ri_val (v := .int .i64 ((2 * j : Nat) : Int)) (w' := w2) rfl rfl rfl rfl rfl ?_
  refine ri_val (v := .int .i64 2) (w' := w2) rfl rfl rfl rfl rfl ?_
  refine ri_val (v := .int .i64 ((2 * j + 2 : Nat) : Int)) (w' := w2) rfl rfl rfl rfl (by simp [go_sem, sEv, sLook, nbeq, i64_w, -List.getD_eq_getElem?_getD]; exact wrap_id (by omega) (by omega)) ?_
  refine ri_val (v := .int .i64 ((2 * j : Nat) : Int)) (w' := w2) rfl rfl rfl rfl rfl ?_
  refine ri_val (v := .int .i64 2) (w' := w2) rfl rfl rfl rfl rfl ?_
  refine ri_val (v := .int .i64 ((2 * j + 2 : Nat) : Int)) (w' := w2) rfl rfl rfl rfl (by simp [go_sem, sEv, sLook, nbeq, i64_w, -List.getD_eq_getElem?_getD]; exact wrap_id (by omega) (by omega)) ?_
  refine ri_val (v := .slice (A.map (·.add (2 * j * 1))) 2 2) (w' := w2) rfl rfl rfl rfl (by have q_ := sl_two (A := A) (n' := 2 * k) (c := c) j ((2 * j : Nat) : Int) ((2 * j + 2 : Nat) : Int) ((2 * j + 2 : Nat) : Int) rfl rfl rfl (by omega) w2; exact run_as q_) ?_
  have hJ2_ := hJ _ _ _ none hJ1 (grown_below hb3) (fun r h => by cases h)
  refine ri_yield (l := l) (m := 8) rfl rfl rfl rfl (by simp [go_sem, sEv, sLook, nbeq, i64_w, -List.getD_eq_getElem?_getD]) (yieldAt_any (hY _ ⟨j, by omega⟩ _ hJ2_ (by rw [List.length_take, List.length_finRange]; omega))) rfl rfl ?_
  rintro e_ w3 (⟨rfl, hJ3, hk3⟩ | ⟨rfl, hx3⟩)
  ·
   refine ⟨true, rfl, ?_⟩
   have hs3 : Blk w3 gs 22 #[.slice A (2 * k) c] := hk3.1.trans (hs1.on hb3)
   have hn3 : Blk w3 gn 3 #[.int .i64 2] := hk3.2.trans (hn1.on hb3)
   have hJ4_ : J ((List.finRange k).take (j + 1)) w3 := by rw [fin_take k j (by omega)]; exact hJ3
   refine ri_val (v := .bool false) (w' := w3) rfl rfl rfl rfl (by simp [go_sem, sEv, sLook, nbeq, i64_w, -List.getD_eq_getElem?_getD]) ?_
   refine ri_end ?_
   refine w_weaken (G' := [(0, .func (.yield l) #[] #[]), (1, .pointer (some ⟨gs, 0, none⟩)), (2, .pointer (some ⟨gn, 0, none⟩)), (4, .int .i64 ((2 * j : Nat) : Int)), (30, .bool false)]) ⟨rfl, rfl, rfl, rfl, rfl, trivial⟩ ?_
   refine w_cond_f rfl rfl rfl ?_
   refine w_skip ?_
   refine w_blk ?_
   refine w_region ?_
   refine rv (.int .i64 ((2 * j : Nat) : Int)) ?_
   refine rl hn3 0 (.int .i64 2) ?_
   refine rz (.int .i64 ((2 * (j + 1) : Nat) : Int)) (by simp [go_sem, sEv, sLook, nbeq, i64_w, -List.getD_eq_getElem?_getD]; unfold wrap64; omega) ?_
   refine rv (.int .i64 ((2 * (j + 1) : Nat) : Int)) ?_
   refine rw_end ?_
   refine w_weaken (G' := [(0, .func (.yield l) #[] #[]), (1, .pointer (some ⟨gs, 0, none⟩)), (2, .pointer (some ⟨gn, 0, none⟩)), (4, .int .i64 ((2 * (j + 1) : Nat) : Int))]) ⟨rfl, rfl, rfl, rfl, trivial⟩ ?_
   exact w_back (m_ - 1) [(0, .func (.yield l) #[] #[]), (1, .pointer (some ⟨gs, 0, none⟩)), (2, .pointer (some ⟨gn, 0, none⟩)), (4, .int .i64 ((2 * (j + 1) : Nat) : Int))] (by omega) ⟨rfl, rfl, rfl, rfl, trivial⟩ ⟨j + 1, by omega, hJ4_, hs3, hn3, rfl⟩
  ·
   refine ⟨false, rfl, ?_⟩
   refine ri_val (v := .bool true) (w' := w3) rfl rfl rfl rfl (by simp [go_sem, sEv, sLook, nbeq, i64_w, -List.getD_eq_getElem?_getD]) ?_
   refine ri_end ?_
   refine w_weaken (G' := [(0, .func (.yield l) #[] #[]), (1, .pointer (some ⟨gs, 0, none⟩)), (2, .pointer (some ⟨gn, 0, none⟩)), (4, .int .i64 ((2 * j : Nat) : Int)), (30, .bool true)]) ⟨rfl, rfl, rfl, rfl, rfl, trivial⟩ ?_
   refine w_cond_t rfl rfl rfl ?_
   refine w_ret (post_ret0 rfl ?_)
   exact ⟨⟨_, rfl⟩, .inr ⟨_, ⟨j + 1, rfl⟩, by rw [fin_take k j (by omega)]; exact hx3⟩⟩
 ·
  have l5 : ¬ (((2 * j : Nat) : Int) < (((2 * k) : Nat) : Int)) := of_decide_eq_false cJ
  refine w_exit rfl ?_
  refine w_end (post_end0 rfl ?_)
  exact ⟨⟨_, rfl⟩, .inl ⟨_, rfl, by rw [show (List.finRange k) = (List.finRange k).take j by rw [List.take_of_length_le (by rw [List.length_finRange]; omega)]]; exact hJ1⟩⟩
theorem chunk1_stops (w : World) (gs gn : Nat) (A : Option Addr) (c k : Nat) (hk : k ≤ 1000000) (hc : 2 * k ≤ c) (hgs : Blk w gs 22 #[.slice A (2 * k) c]) (hgn : Blk w gn 3 #[.int .i64 2]) :
    SeqStopsK Fence.wide 8 Try.prog 70 #[.pointer (some ⟨gs, 0, none⟩), .pointer (some ⟨gn, 0, none⟩)] (fun x : Fin k => #[.slice (A.map (·.add (2 * x.val * 1))) 2 2]) (Two gs gn) (fun xs => xs = List.finRange k) (fun pre => ∃ i, pre = (List.finRange k).take i) k w :=
  fun l J Jx W hW hJ hJx hY h0 => (callsIn_wide (n := 8)).2 (chunk1_walk W l gs gn A c k hk hc J Jx (hgs.on hW) (hgn.on hW) hJ hY h0)
end Go.Proofs.Ytbbhdohjhipalaa.Ce
end
section
namespace Go.Proofs.Ytbbhdohjhipalaa.Ce
open Go.RowKit Go.Proofs.YtbbhdohjhipalaaW.PrintWords Go.Proofs.YtbbhdohjhipalaaW.PrintLast Go.Proofs.YtbbhdohjhipalaaW.PrintMore
open Go.Proofs.Ytbbhdohjhipalaa.Flow
set_option linter.unusedVariables false
set_option linter.unusedSimpArgs false
open Go.Shelf
abbrev pairA (l : List Int) (i : Nat) : Int × Int := (l.getD (10 + 2 * i) 0, l.getD (10 + 2 * i + 1) 0)
theorem prs_fin (l : List Int) (n : Nat) : (List.finRange n).map (fun x => pairA l x.val) = prsOf l n := by
  unfold prsOf
  apply List.ext_getElem
  · simp
  · intro i h1 h2
    simp
theorem chunk_row {w : World} {A : Option Addr} {c n : Nat} {l : List Int} (hX : (Kd.int .i64).C w A ((l.take (10 + 2 * n)).drop 10).length ((l.take (10 + 2 * n)).drop 10)) (hl : 10 + 2 * n ≤ l.length) (hc : 2 * n ≤ c) (i : Nat) (hi : i < n) :
    (Kd.int .i64).C w (A.map (·.add (2 * i * 1))) 2 [l.getD (10 + 2 * i) 0, l.getD (10 + 2 * i + 1) 0] := by
  have hle : ((l.take (10 + 2 * n)).drop 10).length = 2 * n := by rw [List.length_drop, List.length_take]; omega
  have h := Kd.C_mid (lo := 2 * i) (hi := 2 * i + 2) (c := c) hX (by omega) (by rw [hle]; omega) (by rw [hle]; omega)
  have e1 : ((((l.take (10 + 2 * n)).drop 10).take (2 * i + 2)).drop (2 * i)) = [l.getD (10 + 2 * i) 0, l.getD (10 + 2 * i + 1) 0] := by
    apply List.ext_getElem?
    intro j
    rw [List.getElem?_drop, List.getElem?_take, List.getElem?_drop, List.getElem?_take]
    match j with
    | 0 => rw [if_pos (by omega), if_pos (by omega)]; simp only [List.getElem?_cons_zero, List.getD_eq_getElem?_getD, Nat.add_zero]; rw [List.getElem?_eq_getElem (by omega)]; rfl
    | 1 => rw [if_pos (by omega), if_pos (by omega)]; simp only [List.getElem?_cons_succ, List.getElem?_cons_zero, List.getD_eq_getElem?_getD]; rw [show 10 + (2 * i + 1) = 10 + 2 * i + 1 by omega, List.getElem?_eq_getElem (by omega)]; rfl
    | j + 2 => rw [if_neg (by omega)]; rfl
  rw [e1] at h
  rw [if_neg (by omega)] at h
  exact h
def TI (l : List Int) (w : World) (B g2 g3 g4 gc gl : Nat) {k : Nat} (pre : List (Fin k)) (V : World) : Prop :=
  ∃ last h, foldT (pre.map (fun x => pairA l x.val)) = some (last, h) ∧ Blk V gc 81 (carr (baseC l h)) ∧ Blk V gl 3 #[.int .i64 last] ∧ Blk V g2 81 (carr CL.unit) ∧ Blk V g3 22 #[.slice none 0 0] ∧ Blk V g4 4 #[.bool false] ∧ Below w.heap.size w V ∧ B ≤ V.heap.size
def TX (l : List Int) (w : World) (B g2 g3 g4 : Nat) {k : Nat} (pre : List (Fin k)) (V : World) : Prop :=
  foldT (pre.map (fun x => pairA l x.val)) = none ∧ Blk V g2 81 (carr CL.unit) ∧ Blk V g3 22 #[.slice none 0 0] ∧ Blk V g4 4 #[.bool false] ∧ Below w.heap.size w V ∧ B ≤ V.heap.size
theorem ti_own {l : List Int} {w : World} {B g2 g3 g4 gc gl k : Nat} (hB : w.heap.size ≤ B) : OwnFrom B (fun (pre : List (Fin k)) V => TI l w B g2 g3 g4 gc gl pre V) := by
  rintro pre V V' row ⟨last, h, h1, h2, h3, h4, h5, h6, h7, h8⟩ hg hr
  exact ⟨last, h, h1, blk_turned h2 hg hr, blk_turned h3 hg hr, blk_turned h4 hg hr, blk_turned h5 hg hr, blk_turned h6 hg hr, h7.grown hg (Nat.le_trans (Nat.le_refl _) h7.size) (fun q e => Nat.le_trans hB (hr q e).1), Nat.le_trans h8 hg.size⟩
theorem tx_own {l : List Int} {w : World} {B g2 g3 g4 k : Nat} (hB : w.heap.size ≤ B) : OwnFrom B (fun (pre : List (Fin k)) V => TX l w B g2 g3 g4 pre V) := by
  rintro pre V V' row ⟨h1, h4, h5, h6, h7, h8⟩ hg hr
  exact ⟨h1, blk_turned h4 hg hr, blk_turned h5 hg hr, blk_turned h6 hg hr, h7.grown hg (Nat.le_trans (Nat.le_refl _) h7.size) (fun q e => Nat.le_trans hB (hr q e).1), Nat.le_trans h8 hg.size⟩
theorem fold_part {l : List Int} {n i : Nat} (h : foldT (((List.finRange n).take i).map (fun x => pairA l x.val)) = none) : foldT (prsOf l n) = none := by
  rw [← prs_fin]
  have e : (List.finRange n).map (fun x => pairA l x.val) = ((List.finRange n).take i).map (fun x => pairA l x.val) ++ ((List.finRange n).drop i).map (fun x => pairA l x.val) := by rw [← List.map_append, List.take_append_drop]
  rw [e]
  exact foldT_pre _ _ h
theorem takeC_none {l : List Int} (hs : shapeC l = true) (h : foldT (prsOf l (nC l)) = none) : takeC l = none := by unfold takeC; rw [if_pos hs, h]
theorem takeC_short {l : List Int} (hs : ¬ shapeC l = true) : takeC l = none := by unfold takeC; rw [if_neg hs]
theorem takeC_some {l : List Int} (hs : shapeC l = true) {last : Int} {h : Fin 65 → Int} (e : foldT (prsOf l (nC l)) = some (last, h)) : takeC l = some (baseC l h, l.drop (10 + 2 * nC l)) := by unfold takeC; rw [if_pos hs, e]
theorem cast_toNat {x : Int} (h : 0 ≤ x) : ((x.toNat : Nat) : Int) = x := Int.toNat_of_nonneg h
set_option maxHeartbeats 4000000 in
theorem take_calls (w : World) (A1 : Option Addr) (c1 : Nat) (l : List Int) (hl : (Kd.int .i64).C w A1 l.length l) (hc : l.length ≤ c1) (hln : l.length ≤ 100000) :
  Calls Try.prog 66 #[.slice A1 l.length c1] w fun e w' => (takeC l = none ∧ e = .returned (.tuple #[.agg (carr CL.unit), .slice none 0 0, .bool false]) ∨ ∃ c r A' c', takeC l = some (c, r) ∧ e = .returned (.tuple #[.agg (carr c), .slice A' r.length c', .bool true]) ∧ OwnK (Kd.int .i64) 3 w' w.heap.size w.heap.size A' r.length c' r) ∧ Below w.heap.size w w' := by
 refine calls_flowM Try.func66 rfl 101 rfl (Nat.le_of_ble_eq_true rfl) [(0, .slice A1 l.length c1)] ?_ ?_
 ·
  intro t v h; exact args_look rfl t v h
 refine wsr ?_
 refine rw_new (cs := carr CL.unit) (t := 81) (fun g => .pointer (some ⟨g, 0, none⟩)) rfl rfl rfl rfl (by kernel_rfl) ?_
 intro g1 w2 hg6 hz5 hb3 hk4
 have hs_w2 := hb3.size
 refine rw_new (cs := #[.slice none 0 0]) (t := 22) (fun g => .pointer (some ⟨g, 0, none⟩)) rfl rfl rfl rfl (by kernel_rfl) ?_
 intro g7 w8 hg12 hz11 hb9 hk10
 have hs_w8 := hb9.size
 refine rw_new (cs := #[.bool false]) (t := 4) (fun g => .pointer (some ⟨g, 0, none⟩)) rfl rfl rfl rfl (by kernel_rfl) ?_
 intro g13 w14 hg18 hz17 hb15 hk16
 have hs_w14 := hb15.size
 refine rw_end ?_
 refine w_seq ?_
 refine wsr ?_
 refine rv (.slice A1 l.length c1) ?_
 refine rs (.int .i64 ((l.length : Nat) : Int)) ?_
 refine rs (.bool (decide (((l.length : Nat) : Int) < 10))) ?_
 refine rw_end ?_
 refine w_cond rfl rfl (fun c19 => ?_) (fun c19 => ?_)
 ·
  have l20 : (((l.length : Nat) : Int) < 10) := of_decide_eq_true c19
  refine w_seq ?_
  have hns_ : ¬ shapeC l = true := by unfold shapeC; simp only [Bool.and_eq_true, decide_eq_true_eq]; omega
  refine w_region ?_
  refine rcl (unit_calls w14) ?_
  rintro e_ w21 ⟨rfl, hb22⟩
  refine ⟨_, rfl, ?_⟩
  have hs_w21 := hb22.size
  refine rw_seg (g := g1) (off := 0) (ty := 81) (p := .tmp 2) (x := .tmp 14) (v := .agg (carr CL.unit)) (cs' := carr CL.unit) rfl rfl rfl rfl rfl rfl (((hk4.on hb9).on hb15).on hb22) (by show (sizeOf 81).run _ _ = .ok (carr _).size _; rw [carr_size]; kernel_rfl) (Nat.le_of_eq (by rw [Nat.zero_add]; exact (carr_size _).trans (carr_size _).symm)) (encC_one _) (seg_all CL.unit CL.unit) ?_
  intro w23 hk24 hb25
  have hs_w23 := hk24.size
  have hb29 := (((hk10.on hb15).on hb22).keep hk24 (by omega))
  refine rsa hb29 [.slice none 0 0] ?_
  intro w26 hk27 hk28
  have hs_w26 := hk27.size
  have hb33 := (((hk16.on hb22).keep hk24 (by omega)).keep hk27 (by omega))
  refine rsa hb33 [.bool false] ?_
  intro w30 hk31 hk32
  have hs_w30 := hk31.size
  refine rw_end ?_
  refine w_weaken (G' := [(0, .slice A1 l.length c1), (2, .pointer (some ⟨g1, 0, none⟩)), (3, .pointer (some ⟨g7, 0, none⟩)), (4, .pointer (some ⟨g13, 0, none⟩))]) ⟨rfl, rfl, rfl, rfl, trivial⟩ ?_
  refine w_ret (postM (Gs := []) (post_ret3c (v1 := .agg (carr CL.unit)) (v2 := (.slice none 0 0 : Value)) (v3 := (.bool false : Value)) rfl rfl rfl rfl (load_cell (c := CL.unit) ((hb25.keep hk27 (by omega)).keep hk31 (by omega))) (load_one (by kernel_rfl) (hk28.keep hk31 (by omega))) (load_one (by kernel_rfl) hk32) ?_))
  exact ⟨.inl ⟨takeC_short hns_, rfl⟩, (hk31.below (by omega) (hk27.below (by omega) (hk24.below (by omega) (chain (chain (chain hb3 hb9) hb15) hb22))))⟩
 ·
  have l34 : ¬ (((l.length : Nat) : Int) < 10) := of_decide_eq_false c19
  refine w_skip ?_
  refine wsr ?_
  refine rv (.slice A1 l.length c1) ?_
  obtain ⟨ad35, hA36, hc37⟩ := int_at (Kd.C_below hl (chain (chain hb3 hb9) hb15)) 0 9 (by first | omega | decide)
  subst hA36
  have he38 : w14.cell? ⟨ad35.block, ad35.off + 9, none⟩ = some (.int .i64 (l.getD 9 0)) := cell_lit (cell_0 (hc37 0 _ rfl)) (by omega)
  refine rz (.pointer (some (ad35.add (9)))) (run_as (run_at_1 (P := Try.prog) (e := 3) (by kernel_rfl) (by kernel_rfl) 9 (by first | omega | decide) _)) ?_
  refine rz (.int .i64 (l.getD 9 0)) (by have e0_ := cellOn he38 (Below.refl _ _); simp [go_sem, sEv, sLook, nbeq, i64_w, -List.getD_eq_getElem?_getD, e0_]) ?_
  refine rv (.int .i64 (l.getD 9 0)) ?_
  refine rw_end ?_
  refine w_weaken (G' := [(0, .slice (some ad35) l.length c1), (2, .pointer (some ⟨g1, 0, none⟩)), (3, .pointer (some ⟨g7, 0, none⟩)), (4, .pointer (some ⟨g13, 0, none⟩)), (5, .int .i64 (l.getD 9 0))]) ⟨rfl, rfl, rfl, rfl, rfl, trivial⟩ ?_
  refine w_seq ?_
  refine wsr ?_
  refine rv (.int .i64 (l.getD 9 0)) ?_
  refine rs (.bool (decide ((l.getD 9 0) < 0))) ?_
  refine rv (.bool (decide ((l.getD 9 0) < 0))) ?_
  rcases bcase (decide ((l.getD 9 0) < 0)) with c39 | c39
  ·
   have l40 : ¬ ((l.getD 9 0) < 0) := of_decide_eq_false c39
   refine rnk c39 ?_
   refine rv (.int .i64 (l.getD 9 0)) ?_
   refine rnk c39 ?_
   refine rs (.bool (decide (65 < (l.getD 9 0)))) ?_
   refine rp c39 (.bool (decide (65 < (l.getD 9 0)))) ?_
   refine rv (.bool (decide (65 < (l.getD 9 0)))) ?_
   rcases bcase (decide (65 < (l.getD 9 0))) with c41 | c41
   ·
    have l42 : ¬ (65 < (l.getD 9 0)) := of_decide_eq_false c41
    refine rnk c41 ?_
    refine rv (.int .i64 (l.getD 9 0)) ?_
    refine rnk c41 ?_
    refine rw1 (.int .i64 (2 * (l.getD 9 0))) ?_
    refine rnk c41 ?_
    refine rv (.slice (some ad35) l.length c1) ?_
    refine rnk c41 ?_
    refine rs (.int .i64 ((l.length : Nat) : Int)) ?_
    refine rnk c41 ?_
    refine rw1 (.int .i64 (((l.length : Nat) : Int) - 10)) ?_
    refine rnk c41 ?_
    refine rs (.bool (decide ((((l.length : Nat) : Int) - 10) < (2 * (l.getD 9 0))))) ?_
    refine rp c41 (.bool (decide ((((l.length : Nat) : Int) - 10) < (2 * (l.getD 9 0))))) ?_
    refine rw_end ?_
    refine w_weaken (G' := [(0, .slice (some ad35) l.length c1), (2, .pointer (some ⟨g1, 0, none⟩)), (3, .pointer (some ⟨g7, 0, none⟩)), (4, .pointer (some ⟨g13, 0, none⟩)), (5, .int .i64 (l.getD 9 0)), (31, .bool (decide ((((l.length : Nat) : Int) - 10) < (2 * (l.getD 9 0)))))]) ⟨rfl, rfl, rfl, rfl, rfl, rfl, trivial⟩ ?_
    refine w_cond rfl rfl (fun c43 => ?_) (fun c43 => ?_)
    ·
     have l44 : ((((l.length : Nat) : Int) - 10) < (2 * (l.getD 9 0))) := of_decide_eq_true c43
     refine w_seq ?_
     have hns_ : ¬ shapeC l = true := by unfold shapeC; simp only [Bool.and_eq_true, decide_eq_true_eq]; omega
     refine w_region ?_
     refine rcl (unit_calls w14) ?_
     rintro e_ w45 ⟨rfl, hb46⟩
     refine ⟨_, rfl, ?_⟩
     have hs_w45 := hb46.size
     refine rw_seg (g := g1) (off := 0) (ty := 81) (p := .tmp 2) (x := .tmp 32) (v := .agg (carr CL.unit)) (cs' := carr CL.unit) rfl rfl rfl rfl rfl rfl (((hk4.on hb9).on hb15).on hb46) (by show (sizeOf 81).run _ _ = .ok (carr _).size _; rw [carr_size]; kernel_rfl) (Nat.le_of_eq (by rw [Nat.zero_add]; exact (carr_size _).trans (carr_size _).symm)) (encC_one _) (seg_all CL.unit CL.unit) ?_
     intro w47 hk48 hb49
     have hs_w47 := hk48.size
     have hb53 := (((hk10.on hb15).on hb46).keep hk48 (by omega))
     refine rsa hb53 [.slice none 0 0] ?_
     intro w50 hk51 hk52
     have hs_w50 := hk51.size
     have hb57 := (((hk16.on hb46).keep hk48 (by omega)).keep hk51 (by omega))
     refine rsa hb57 [.bool false] ?_
     intro w54 hk55 hk56
     have hs_w54 := hk55.size
     refine rw_end ?_
     refine w_weaken (G' := [(0, .slice (some ad35) l.length c1), (2, .pointer (some ⟨g1, 0, none⟩)), (3, .pointer (some ⟨g7, 0, none⟩)), (4, .pointer (some ⟨g13, 0, none⟩)), (5, .int .i64 (l.getD 9 0))]) ⟨rfl, rfl, rfl, rfl, rfl, trivial⟩ ?_
     refine w_ret (postM (Gs := []) (post_ret3c (v1 := .agg (carr CL.unit)) (v2 := (.slice none 0 0 : Value)) (v3 := (.bool false : Value)) rfl rfl rfl rfl (load_cell (c := CL.unit) ((hb49.keep hk51 (by omega)).keep hk55 (by omega))) (load_one (by kernel_rfl) (hk52.keep hk55 (by omega))) (load_one (by kernel_rfl) hk56) ?_))
     exact ⟨.inl ⟨takeC_short hns_, rfl⟩, (hk55.below (by omega) (hk51.below (by omega) (hk48.below (by omega) (chain (chain (chain hb3 hb9) hb15) hb46))))⟩
    ·
     have l58 : ¬ ((((l.length : Nat) : Int) - 10) < (2 * (l.getD 9 0))) := of_decide_eq_false c43
     refine w_skip ?_
     refine w_seq ?_
     have hsh_ : shapeC l = true := by unfold shapeC; simp only [Bool.and_eq_true, decide_eq_true_eq]; omega
     obtain ⟨s1_, s2_, s3_, s4_⟩ := shape_spec hsh_
     have s5_ : ((l.take (10 + 2 * nC l)).drop 10).length = 2 * nC l := by rw [List.length_drop, List.length_take]; omega
     obtain ⟨ad59, hA60, hc61⟩ := int_at (Kd.C_below hl (chain (chain hb3 hb9) hb15)) 0 0 (by first | omega | decide)
     obtain rfl := Option.some.inj hA60
     have he62 : w14.cell? (ad35) = some (.int .i64 (l.getD 0 0)) := cell_00 (hc61 0 _ rfl)
     obtain ⟨ad63, hA64, hc65⟩ := int_at (Kd.C_below hl (chain (chain hb3 hb9) hb15)) 0 1 (by first | omega | decide)
     obtain rfl := Option.some.inj hA64
     have he66 : w14.cell? ⟨ad35.block, ad35.off + 1, none⟩ = some (.int .i64 (l.getD 1 0)) := cell_lit (cell_0 (hc65 0 _ rfl)) (by omega)
     obtain ⟨ad67, hA68, hc69⟩ := int_at (Kd.C_below hl (chain (chain hb3 hb9) hb15)) 0 2 (by first | omega | decide)
     obtain rfl := Option.some.inj hA68
     have he70 : w14.cell? ⟨ad35.block, ad35.off + 2, none⟩ = some (.int .i64 (l.getD 2 0)) := cell_lit (cell_0 (hc69 0 _ rfl)) (by omega)
     obtain ⟨ad71, hA72, hc73⟩ := int_at (Kd.C_below hl (chain (chain hb3 hb9) hb15)) 0 3 (by first | omega | decide)
     obtain rfl := Option.some.inj hA72
     have he74 : w14.cell? ⟨ad35.block, ad35.off + 3, none⟩ = some (.int .i64 (l.getD 3 0)) := cell_lit (cell_0 (hc73 0 _ rfl)) (by omega)
     obtain ⟨ad75, hA76, hc77⟩ := int_at (Kd.C_below hl (chain (chain hb3 hb9) hb15)) 0 4 (by first | omega | decide)
     obtain rfl := Option.some.inj hA76
     have he78 : w14.cell? ⟨ad35.block, ad35.off + 4, none⟩ = some (.int .i64 (l.getD 4 0)) := cell_lit (cell_0 (hc77 0 _ rfl)) (by omega)
     obtain ⟨ad79, hA80, hc81⟩ := int_at (Kd.C_below hl (chain (chain hb3 hb9) hb15)) 0 5 (by first | omega | decide)
     obtain rfl := Option.some.inj hA80
     have he82 : w14.cell? ⟨ad35.block, ad35.off + 5, none⟩ = some (.int .i64 (l.getD 5 0)) := cell_lit (cell_0 (hc81 0 _ rfl)) (by omega)
     obtain ⟨ad83, hA84, hc85⟩ := int_at (Kd.C_below hl (chain (chain hb3 hb9) hb15)) 0 6 (by first | omega | decide)
     obtain rfl := Option.some.inj hA84
     have he86 : w14.cell? ⟨ad35.block, ad35.off + 6, none⟩ = some (.int .i64 (l.getD 6 0)) := cell_lit (cell_0 (hc85 0 _ rfl)) (by omega)
     obtain ⟨ad87, hA88, hc89⟩ := int_at (Kd.C_below hl (chain (chain hb3 hb9) hb15)) 0 7 (by first | omega | decide)
     obtain rfl := Option.some.inj hA88
     have he90 : w14.cell? ⟨ad35.block, ad35.off + 7, none⟩ = some (.int .i64 (l.getD 7 0)) := cell_lit (cell_0 (hc89 0 _ rfl)) (by omega)
     obtain ⟨ad91, hA92, hc93⟩ := int_at (Kd.C_below hl (chain (chain hb3 hb9) hb15)) 0 8 (by first | omega | decide)
     obtain rfl := Option.some.inj hA92
     have he94 : w14.cell? ⟨ad35.block, ad35.off + 8, none⟩ = some (.int .i64 (l.getD 8 0)) := cell_lit (cell_0 (hc93 0 _ rfl)) (by omega)
     refine w_drawk (M := [0, 1, 3, 0, 8, 24, 0, 64, 192, 448, 1016, 0, 2048, 6144, 0, 16384, 49152, 0, 131072, 393216, 0, 1048576, 3145728, 0, 8388608, 25165824, 0, 67108864, 201326592, 536739840, 1073741823, 0, 4294967295]) (ss := [Is (.slice (some ad35) l.length c1), Is (.pointer (some (ad35))), Is (.int .i64 (l.getD 0 0)), Is (.slice (some ad35) l.length c1), Is (.pointer (some (ad35.add (1)))), Is (.int .i64 (l.getD 1 0)), Is (.slice (some ad35) l.length c1), Is (.pointer (some (ad35.add (2)))), Is (.int .i64 (l.getD 2 0)), Is (.int .u64 (l.getD 2 0 % 18446744073709551616)), Is (.agg #[.int .i64 (l.getD 1 0), .int .u64 (l.getD 2 0 % 18446744073709551616)]), Is (.slice (some ad35) l.length c1), Is (.pointer (some (ad35.add (3)))), Is (.int .i64 (l.getD 3 0)), Is (.slice (some ad35) l.length c1), Is (.pointer (some (ad35.add (4)))), Is (.int .i64 (l.getD 4 0)), Is (.slice (some ad35) l.length c1), Is (.pointer (some (ad35.add (5)))), Is (.int .i64 (l.getD 5 0)), Is (.slice (some ad35) l.length c1), Is (.pointer (some (ad35.add (6)))), Is (.int .i64 (l.getD 6 0)), Is (.slice (some ad35) l.length c1), Is (.pointer (some (ad35.add (7)))), Is (.int .i64 (l.getD 7 0)), Is (.slice (some ad35) l.length c1), Is (.pointer (some (ad35.add (8)))), Is (.int .i64 (l.getD 8 0)), Is (.agg #[.int .i64 (l.getD 5 0), .int .i64 (l.getD 6 0), .int .i64 (l.getD 7 0), .int .i64 (l.getD 8 0)]), Is (.agg (carr (⟨(l.getD 0 0), (l.getD 1 0), (l.getD 2 0 % 18446744073709551616), (l.getD 3 0), (l.getD 4 0), (l.getD 5 0), (l.getD 6 0), (l.getD 7 0), (l.getD 8 0), (fun _ => 0)⟩ : CL))), BlkSpec w14.heap.size 81 (carr CL.unit)]) 32 rfl (by decide +kernel) ?_
     refine tr (.slice (some ad35) l.length c1) ?_
     refine t_is (.pointer (some (ad35))) rfl rfl rfl rfl (fun W_ hW_ F_ => (run_as (run_at_z (P := Try.prog) (e := 3) (sz := 1) (by kernel_rfl) (by kernel_rfl)  (by first | omega | decide) _))) ?_
     refine t_is (.int .i64 (l.getD 0 0)) rfl rfl rfl rfl (fun W_ hW_ F_ => by have e0_ := cellOn he62 (below_of_drew hW_); simp [go_sem, sEv, sLook, nbeq, i64_w, -List.getD_eq_getElem?_getD, e0_]) ?_
     refine tr (.slice (some ad35) l.length c1) ?_
     refine t_is (.pointer (some (ad35.add (1)))) rfl rfl rfl rfl (fun W_ hW_ F_ => (run_as (run_at_1 (P := Try.prog) (e := 3) (by kernel_rfl) (by kernel_rfl) 1 (by first | omega | decide) _))) ?_
     refine t_is (.int .i64 (l.getD 1 0)) rfl rfl rfl rfl (fun W_ hW_ F_ => by have e0_ := cellOn he66 (below_of_drew hW_); simp [go_sem, sEv, sLook, nbeq, i64_w, -List.getD_eq_getElem?_getD, e0_]) ?_
     refine tr (.slice (some ad35) l.length c1) ?_
     refine t_is (.pointer (some (ad35.add (2)))) rfl rfl rfl rfl (fun W_ hW_ F_ => (run_as (run_at_1 (P := Try.prog) (e := 3) (by kernel_rfl) (by kernel_rfl) 2 (by first | omega | decide) _))) ?_
     refine t_is (.int .i64 (l.getD 2 0)) rfl rfl rfl rfl (fun W_ hW_ F_ => by have e0_ := cellOn he70 (below_of_drew hW_); simp [go_sem, sEv, sLook, nbeq, i64_w, -List.getD_eq_getElem?_getD, e0_]) ?_
     refine t_is (.int .u64 (l.getD 2 0 % 18446744073709551616)) rfl rfl rfl rfl (fun W_ hW_ F_ => by simp [go_sem, sEv, sLook, nbeq, i64_w, -List.getD_eq_getElem?_getD, u64_wrap, Try.underlying3, Try.underlying12]) ?_
     refine t_is (.agg #[.int .i64 (l.getD 1 0), .int .u64 (l.getD 2 0 % 18446744073709551616)]) rfl rfl rfl rfl (fun W_ hW_ F_ => by kernel_rfl) ?_
     refine tr (.slice (some ad35) l.length c1) ?_
     refine t_is (.pointer (some (ad35.add (3)))) rfl rfl rfl rfl (fun W_ hW_ F_ => (run_as (run_at_1 (P := Try.prog) (e := 3) (by kernel_rfl) (by kernel_rfl) 3 (by first | omega | decide) _))) ?_
     refine t_is (.int .i64 (l.getD 3 0)) rfl rfl rfl rfl (fun W_ hW_ F_ => by have e0_ := cellOn he74 (below_of_drew hW_); simp [go_sem, sEv, sLook, nbeq, i64_w, -List.getD_eq_getElem?_getD, e0_]) ?_
     refine tr (.slice (some ad35) l.length c1) ?_
     refine t_is (.pointer (some (ad35.add (4)))) rfl rfl rfl rfl (fun W_ hW_ F_ => (run_as (run_at_1 (P := Try.prog) (e := 3) (by kernel_rfl) (by kernel_rfl) 4 (by first | omega | decide) _))) ?_
     refine t_is (.int .i64 (l.getD 4 0)) rfl rfl rfl rfl (fun W_ hW_ F_ => by have e0_ := cellOn he78 (below_of_drew hW_); simp [go_sem, sEv, sLook, nbeq, i64_w, -List.getD_eq_getElem?_getD, e0_]) ?_
     refine tr (.slice (some ad35) l.length c1) ?_
     refine t_is (.pointer (some (ad35.add (5)))) rfl rfl rfl rfl (fun W_ hW_ F_ => (run_as (run_at_1 (P := Try.prog) (e := 3) (by kernel_rfl) (by kernel_rfl) 5 (by first | omega | decide) _))) ?_
     refine t_is (.int .i64 (l.getD 5 0)) rfl rfl rfl rfl (fun W_ hW_ F_ => by have e0_ := cellOn he82 (below_of_drew hW_); simp [go_sem, sEv, sLook, nbeq, i64_w, -List.getD_eq_getElem?_getD, e0_]) ?_
     refine tr (.slice (some ad35) l.length c1) ?_
     refine t_is (.pointer (some (ad35.add (6)))) rfl rfl rfl rfl (fun W_ hW_ F_ => (run_as (run_at_1 (P := Try.prog) (e := 3) (by kernel_rfl) (by kernel_rfl) 6 (by first | omega | decide) _))) ?_
     refine t_is (.int .i64 (l.getD 6 0)) rfl rfl rfl rfl (fun W_ hW_ F_ => by have e0_ := cellOn he86 (below_of_drew hW_); simp [go_sem, sEv, sLook, nbeq, i64_w, -List.getD_eq_getElem?_getD, e0_]) ?_
     refine tr (.slice (some ad35) l.length c1) ?_
     refine t_is (.pointer (some (ad35.add (7)))) rfl rfl rfl rfl (fun W_ hW_ F_ => (run_as (run_at_1 (P := Try.prog) (e := 3) (by kernel_rfl) (by kernel_rfl) 7 (by first | omega | decide) _))) ?_
     refine t_is (.int .i64 (l.getD 7 0)) rfl rfl rfl rfl (fun W_ hW_ F_ => by have e0_ := cellOn he90 (below_of_drew hW_); simp [go_sem, sEv, sLook, nbeq, i64_w, -List.getD_eq_getElem?_getD, e0_]) ?_
     refine tr (.slice (some ad35) l.length c1) ?_
     refine t_is (.pointer (some (ad35.add (8)))) rfl rfl rfl rfl (fun W_ hW_ F_ => (run_as (run_at_1 (P := Try.prog) (e := 3) (by kernel_rfl) (by kernel_rfl) 8 (by first | omega | decide) _))) ?_
     refine t_is (.int .i64 (l.getD 8 0)) rfl rfl rfl rfl (fun W_ hW_ F_ => by have e0_ := cellOn he94 (below_of_drew hW_); simp [go_sem, sEv, sLook, nbeq, i64_w, -List.getD_eq_getElem?_getD, e0_]) ?_
     refine t_is (.agg #[.int .i64 (l.getD 5 0), .int .i64 (l.getD 6 0), .int .i64 (l.getD 7 0), .int .i64 (l.getD 8 0)]) rfl rfl rfl rfl (fun W_ hW_ F_ => by kernel_rfl) ?_
     refine t_is (.agg (carr (⟨(l.getD 0 0), (l.getD 1 0), (l.getD 2 0 % 18446744073709551616), (l.getD 3 0), (l.getD 4 0), (l.getD 5 0), (l.getD 6 0), (l.getD 7 0), (l.getD 8 0), (fun _ => 0)⟩ : CL))) rfl rfl rfl rfl (fun W_ hW_ F_ => (by kernel_rfl)) ?_
     refine t_val (BlkSpec w14.heap.size 81 (carr CL.unit)) rfl rfl rfl rfl (fun W_ hW_ F_ => blk_gives _ _ _ (below_of_drew hW_).size (by kernel_rfl)) ?_
     rintro _ ⟨g95, rfl⟩
     refine t_tail ?_
     intro w98 hb99_ F100
     have hb99 := below_of_drew hb99_
     have hs_w98 := hb99.size
     obtain ⟨hge97, hk96⟩ := blk_fact (F100 31 (BlkSpec w14.heap.size 81 (carr CL.unit)) (.pointer (some ⟨g95, 0, none⟩)) (by kernel_rfl))
     have hlt_g95 := hk96.lt
     clear F100
     refine rw_seg (g := g95) (off := 0) (ty := 81) (p := .tmp 6) (x := .tmp 63) (v := .agg (carr (⟨(l.getD 0 0), (l.getD 1 0), (l.getD 2 0 % 18446744073709551616), (l.getD 3 0), (l.getD 4 0), (l.getD 5 0), (l.getD 6 0), (l.getD 7 0), (l.getD 8 0), (fun _ => 0)⟩ : CL))) (cs' := carr (⟨(l.getD 0 0), (l.getD 1 0), (l.getD 2 0 % 18446744073709551616), (l.getD 3 0), (l.getD 4 0), (l.getD 5 0), (l.getD 6 0), (l.getD 7 0), (l.getD 8 0), (fun _ => 0)⟩ : CL)) rfl rfl rfl rfl rfl rfl hk96 (by show (sizeOf 81).run _ _ = .ok (carr _).size _; rw [carr_size]; kernel_rfl) (Nat.le_of_eq (by rw [Nat.zero_add]; exact (carr_size _).trans (carr_size _).symm)) (encC_one _) (seg_all CL.unit (⟨(l.getD 0 0), (l.getD 1 0), (l.getD 2 0 % 18446744073709551616), (l.getD 3 0), (l.getD 4 0), (l.getD 5 0), (l.getD 6 0), (l.getD 7 0), (l.getD 8 0), (fun _ => 0)⟩ : CL)) ?_
     intro w101 hk102 hb103
     have hs_w101 := hk102.size
     refine rw_end ?_
     refine w_weaken (G' := [(0, .slice (some ad35) l.length c1), (2, .pointer (some ⟨g1, 0, none⟩)), (3, .pointer (some ⟨g7, 0, none⟩)), (4, .pointer (some ⟨g13, 0, none⟩)), (5, .int .i64 (l.getD 9 0)), (6, .pointer (some ⟨g95, 0, none⟩))]) ⟨rfl, rfl, rfl, rfl, rfl, rfl, trivial⟩ ?_
     refine wsr ?_
     refine rw_new (cs := #[.int .i64 0]) (t := 3) (fun g => .pointer (some ⟨g, 0, none⟩)) rfl rfl rfl rfl (by kernel_rfl) ?_
     intro g104 w105 hg109 hz108 hb106 hk107
     have hs_w105 := hb106.size
     have hb113 := hk107
     refine rsa hb113 [.int .i64 (-1)] ?_
     intro w110 hk111 hk112
     have hs_w110 := hk111.size
     refine rw_end ?_
     refine w_seq ?_
     refine wsr ?_
     refine rv (.slice (some ad35) l.length c1) ?_
     refine rz (.int .i64 ((nC l : Nat) : Int)) (by rw [s3_]; rfl) ?_
     refine rw1 (.int .i64 ((2 * (nC l) : Nat) : Int)) ?_
     refine rw1 (.int .i64 ((10 + (2 * (nC l)) : Nat) : Int)) ?_
     have hP114 : (Kd.int .i64).C w110 (adrS 1 (some ad35) c1 10) ((l.take (10 + (2 * (nC l)))).drop 10).length ((l.take (10 + (2 * (nC l)))).drop 10) := Kd.C_mid (Kd.C_below hl (hk111.below (by omega) (chain (hk102.below (by omega) (chain (chain (chain hb3 hb9) hb15) hb99)) hb106))) (by omega) (by omega) (by have q_ := hc; omega)
     have hP114_ : ((l.take (10 + (2 * (nC l)))).drop 10).length = 10 + (2 * (nC l)) - 10 := by rw [List.length_drop, List.length_take]; omega
     refine rz (.slice (adrS 1 (some ad35) c1 10) (((l.take (10 + (2 * (nC l)))).drop 10).length) (c1 - 10)) (by rw [hP114_]; exact run_as (sl_mid (sz := 1) (e := 3) (by kernel_rfl) (fun _ => by kernel_rfl) 10 (10 + (2 * (nC l))) _ _ (by first | rfl | (simp; done) | omega) (by first | rfl | (simp; done) | omega) (by omega) (by have q_ := hc; omega) _)) ?_
     refine rcl (chunk_calls w110 (adrS 1 (some ad35) c1 10) (((l.take (10 + (2 * (nC l)))).drop 10).length) (c1 - 10)) ?_
     rintro e_ w115 ⟨gs117, gn118, rfl, hgs119, hgn120, hge121, hgl122, hb116⟩
     refine ⟨_, rfl, ?_⟩
     have hs_w115 := hb116.size
     refine rw_end ?_
     refine w_weaken (G' := [(0, .slice (some ad35) l.length c1), (2, .pointer (some ⟨g1, 0, none⟩)), (3, .pointer (some ⟨g7, 0, none⟩)), (4, .pointer (some ⟨g13, 0, none⟩)), (5, .int .i64 (l.getD 9 0)), (6, .pointer (some ⟨g95, 0, none⟩)), (7, .pointer (some ⟨g104, 0, none⟩)), (69, .func (.func 70) #[] #[.pointer (some ⟨gs117, 0, none⟩), .pointer (some ⟨gn118, 0, none⟩)])]) ⟨rfl, rfl, rfl, rfl, rfl, rfl, rfl, rfl, trivial⟩ ?_
     refine w_block ?_
     have hX_ : (Kd.int .i64).C w (adrS 1 (some ad35) c1 10) ((l.take (10 + 2 * nC l)).drop 10).length ((l.take (10 + 2 * nC l)).drop 10) := Kd.C_mid hl (by omega) (by omega) (by omega)
     have hgs_ : Blk w115 gs117 22 #[.slice (adrS 1 (some ad35) c1 10) (2 * nC l) (c1 - 10)] := by have h_ := hgs119; rw [s5_] at h_; exact h_
     have hgsl_ := hgs_.lt
     have hgnl_ := (hgn120).lt
     have hlg2_ := ((((((((hk4.on hb9).on hb15).on hb99).keep hk102 (by omega)).on hb106).keep hk111 (by omega)).on hb116)).lt
     have hlg3_ := (((((((hk10.on hb15).on hb99).keep hk102 (by omega)).on hb106).keep hk111 (by omega)).on hb116)).lt
     have hlg4_ := ((((((hk16.on hb99).keep hk102 (by omega)).on hb106).keep hk111 (by omega)).on hb116)).lt
     have hlgc_ := ((((hb103.on hb106).keep hk111 (by omega)).on hb116)).lt
     have hlgl_ := ((hk112.on hb116)).lt
     refine w_rangeFunc (α := Fin (nC l)) (gf := 70) (lb := #[.pointer (some ⟨gs117, 0, none⟩), .pointer (some ⟨gn118, 0, none⟩)]) (enc := (fun x : Fin (nC l) => Value.slice ((adrS 1 (some ad35) c1 10).map (·.add (2 * x.val * 1))) 2 2)) (Kp := Two gs117 gn118) (S := fun xs => xs = List.finRange (nC l)) (Sp := fun pre => ∃ i, pre = (List.finRange (nC l)).take i) (N := nC l) rfl rfl (enters_of Try.func70 (by kernel_rfl) rfl) (chunk1_stops w115 gs117 gn118 (adrS 1 (some ad35) c1 10) (c1 - 10) (nC l) (by omega) (by omega) hgs_ hgn120) two_t two_r (two_b hgsl_ hgnl_) rfl (fun pre V => TI l w w115.heap.size g1 g7 g13 g95 g104 pre V) (fun pre V => TX l w w115.heap.size g1 g7 g13 pre V) (ti_own (chain (hk111.below (by omega) (chain (hk102.below (by omega) (chain (chain (chain hb3 hb9) hb15) hb99)) hb106)) hb116).size) (tx_own (chain (hk111.below (by omega) (chain (hk102.below (by omega) (chain (chain (chain hb3 hb9) hb15) hb99)) hb106)) hb116).size) ⟨-1, fun _ => 0, rfl, (((hb103.on hb106).keep hk111 (by omega)).on hb116), (hk112.on hb116), (((((((hk4.on hb9).on hb15).on hb99).keep hk102 (by omega)).on hb106).keep hk111 (by omega)).on hb116), ((((((hk10.on hb15).on hb99).keep hk102 (by omega)).on hb106).keep hk111 (by omega)).on hb116), (((((hk16.on hb99).keep hk102 (by omega)).on hb106).keep hk111 (by omega)).on hb116), (chain (hk111.below (by omega) (chain (hk102.below (by omega) (chain (chain (chain hb3 hb9) hb15) hb99)) hb106)) hb116), Nat.le_refl _⟩ (fun x => (8, (fun x : Fin (nC l) => Value.slice ((adrS 1 (some ad35) c1 10).map (·.add (2 * x.val * 1))) 2 2) x) :: [(0, .slice (some ad35) l.length c1), (2, .pointer (some ⟨g1, 0, none⟩)), (3, .pointer (some ⟨g7, 0, none⟩)), (4, .pointer (some ⟨g13, 0, none⟩)), (5, .int .i64 (l.getD 9 0)), (6, .pointer (some ⟨g95, 0, none⟩)), (7, .pointer (some ⟨g104, 0, none⟩))]) ?_ ?_ ?_ ?_
     ·
      intro lr_ x V Q_ h_
      refine w_region ?_
      refine rv ((fun x : Fin (nC l) => Value.slice ((adrS 1 (some ad35) c1 10).map (·.add (2 * x.val * 1))) 2 2) x) ?_
      refine rw_end ?_
      exact w_weaken (G' := (8, (fun x : Fin (nC l) => Value.slice ((adrS 1 (some ad35) c1 10).map (·.add (2 * x.val * 1))) 2 2) x) :: [(0, .slice (some ad35) l.length c1), (2, .pointer (some ⟨g1, 0, none⟩)), (3, .pointer (some ⟨g7, 0, none⟩)), (4, .pointer (some ⟨g13, 0, none⟩)), (5, .int .i64 (l.getD 9 0)), (6, .pointer (some ⟨g95, 0, none⟩)), (7, .pointer (some ⟨g104, 0, none⟩))]) ⟨rfl, rfl, rfl, rfl, rfl, rfl, rfl, rfl, trivial⟩ h_
     ·
      rintro lr_ pre x V ⟨last, h, hf_, hbc, hbl, hb2, hb3, hb4, hBV, hBl_⟩ hN_
      have hsV_ := hBV.size
      have hbclt_ := hbc.lt
      have hbllt_ := hbl.lt
      have hb2lt_ := hb2.lt
      have hb3lt_ := hb3.lt
      have hb4lt_ := hb4.lt
      obtain ⟨i1_, i2_, _, _⟩ := foldT_pr _ last h hf_
      obtain ⟨p, hp_⟩ : ∃ p, p = l.getD (10 + 2 * x.val) 0 := ⟨_, rfl⟩
      obtain ⟨q, hq_⟩ : ∃ q, q = l.getD (10 + 2 * x.val + 1) 0 := ⟨_, rfl⟩
      have hpq_ : pairA l x.val = (p, q) := by rw [hp_, hq_]
      have hx_ := chunk_row (c := (c1 - 10)) hX_ (by omega) (by omega) x.val x.isLt
      rw [← hp_, ← hq_] at hx_
      refine w_weaken (G' := [(0, .slice (some ad35) l.length c1), (2, .pointer (some ⟨g1, 0, none⟩)), (3, .pointer (some ⟨g7, 0, none⟩)), (4, .pointer (some ⟨g13, 0, none⟩)), (5, .int .i64 (l.getD 9 0)), (6, .pointer (some ⟨g95, 0, none⟩)), (7, .pointer (some ⟨g104, 0, none⟩)), (8, .slice ((adrS 1 (some ad35) c1 10).map (·.add (2 * x.val * 1))) 2 2)]) ⟨rfl, rfl, rfl, rfl, rfl, rfl, rfl, rfl, trivial⟩ ?_
      generalize hAx_ : (adrS 1 (some ad35) c1 10).map (·.add (2 * x.val * 1)) = Ax at hx_ ⊢
      refine w_block ?_
      refine w_seq ?_
      obtain ⟨ad123, hA124, hc125⟩ := int_at (Kd.C_below hx_ hBV) 0 0 (by first | omega | decide)
      subst hA124
      have he126 : V.cell? (ad123) = some (.int .i64 (([p, q] : List Int).getD 0 0)) := cell_00 (hc125 0 _ rfl)
      obtain ⟨ad127, hA128, hc129⟩ := int_at (Kd.C_below hx_ hBV) 0 1 (by first | omega | decide)
      obtain rfl := Option.some.inj hA128
      have he130 : V.cell? ⟨ad123.block, ad123.off + 1, none⟩ = some (.int .i64 (([p, q] : List Int).getD 1 0)) := cell_lit (cell_0 (hc129 0 _ rfl)) (by omega)
      refine w_drawk (M := [0, 1, 3, 0, 8, 24, 7, 127]) (ss := [Is (.slice (some ad123) 2 2), Is (.pointer (some (ad123))), Is (.int .i64 p), Is (.slice (some ad123) 2 2), Is (.pointer (some (ad123.add (1)))), Is (.int .i64 q), Is (.int .i64 p)]) 7 rfl (by decide +kernel) ?_
      refine tr (.slice (some ad123) 2 2) ?_
      refine t_is (.pointer (some (ad123))) rfl rfl rfl rfl (fun W_ hW_ F_ => (run_as (run_at_z (P := Try.prog) (e := 3) (sz := 1) (by kernel_rfl) (by kernel_rfl)  (by first | omega | decide) _))) ?_
      refine t_is (.int .i64 p) rfl rfl rfl rfl (fun W_ hW_ F_ => by have e0_ := cellOn he126 (below_of_drew hW_); simp [go_sem, sEv, sLook, nbeq, i64_w, -List.getD_eq_getElem?_getD, e0_] <;> rfl) ?_
      refine tr (.slice (some ad123) 2 2) ?_
      refine t_is (.pointer (some (ad123.add (1)))) rfl rfl rfl rfl (fun W_ hW_ F_ => (run_as (run_at_1 (P := Try.prog) (e := 3) (by kernel_rfl) (by kernel_rfl) 1 (by first | omega | decide) _))) ?_
      refine t_is (.int .i64 q) rfl rfl rfl rfl (fun W_ hW_ F_ => by have e0_ := cellOn he130 (below_of_drew hW_); simp [go_sem, sEv, sLook, nbeq, i64_w, -List.getD_eq_getElem?_getD, e0_] <;> rfl) ?_
      refine tr (.int .i64 p) ?_
      refine t_tail ?_
      intro w131 hb132_ F133
      have hb132 := below_of_drew hb132_
      have hs_w131 := hb132.size
      clear F133
      refine rv (.int .i64 q) ?_
      refine rw_end ?_
      refine w_weaken (G' := [(2, .pointer (some ⟨g1, 0, none⟩)), (3, .pointer (some ⟨g7, 0, none⟩)), (4, .pointer (some ⟨g13, 0, none⟩)), (6, .pointer (some ⟨g95, 0, none⟩)), (7, .pointer (some ⟨g104, 0, none⟩)), (9, .int .i64 p), (10, .int .i64 q)]) ⟨rfl, rfl, rfl, rfl, rfl, rfl, rfl, trivial⟩ ?_
      refine w_seq ?_
      refine wsr ?_
      refine rv (.int .i64 p) ?_
      refine rl (hbl.on hb132) 0 (.int .i64 last) ?_
      refine rs (.bool (decide (p ≤ last))) ?_
      refine rv (.bool (decide (p ≤ last))) ?_
      rcases bcase (decide (p ≤ last)) with c134 | c134
      ·
       have l135 : ¬ (p ≤ last) := of_decide_eq_false c134
       refine rnk c134 ?_
       refine rv (.int .i64 p) ?_
       refine rnk c134 ?_
       refine rs (.bool (decide (64 < p))) ?_
       refine rp c134 (.bool (decide (64 < p))) ?_
       refine rv (.bool (decide (64 < p))) ?_
       rcases bcase (decide (64 < p)) with c136 | c136
       ·
        have l137 : ¬ (64 < p) := of_decide_eq_false c136
        refine rnk c136 ?_
        refine rv (.int .i64 q) ?_
        refine rnk c136 ?_
        refine rs (.bool (q == 0)) ?_
        refine rp c136 (.bool (q == 0)) ?_
        refine rw_end ?_
        refine w_weaken (G' := [(2, .pointer (some ⟨g1, 0, none⟩)), (3, .pointer (some ⟨g7, 0, none⟩)), (4, .pointer (some ⟨g13, 0, none⟩)), (6, .pointer (some ⟨g95, 0, none⟩)), (7, .pointer (some ⟨g104, 0, none⟩)), (9, .int .i64 p), (10, .int .i64 q), (87, .bool (q == 0))]) ⟨rfl, rfl, rfl, rfl, rfl, rfl, rfl, rfl, trivial⟩ ?_
        refine w_cond rfl rfl (fun c138 => ?_) (fun c138 => ?_)
        ·
         have l139 : q = 0 := by simpa using c138
         refine wsr ?_
         refine rcl (unit_calls w131) ?_
         rintro e_ w140 ⟨rfl, hb141⟩
         refine ⟨_, rfl, ?_⟩
         have hs_w140 := hb141.size
         refine rw_seg (g := g1) (off := 0) (ty := 81) (p := .tmp 2) (x := .tmp 88) (v := .agg (carr CL.unit)) (cs' := carr CL.unit) rfl rfl rfl rfl rfl rfl ((hb2.on hb132).on hb141) (by show (sizeOf 81).run _ _ = .ok (carr _).size _; rw [carr_size]; kernel_rfl) (Nat.le_of_eq (by rw [Nat.zero_add]; exact (carr_size _).trans (carr_size _).symm)) (encC_one _) (seg_all CL.unit CL.unit) ?_
         intro w142 hk143 hb144
         have hs_w142 := hk143.size
         have hb148 := (((hb3.on hb132).on hb141).keep hk143 (by omega))
         refine rsa hb148 [.slice none 0 0] ?_
         intro w145 hk146 hk147
         have hs_w145 := hk146.size
         have hb152 := ((((hb4.on hb132).on hb141).keep hk143 (by omega)).keep hk146 (by omega))
         refine rsa hb152 [.bool false] ?_
         intro w149 hk150 hk151
         have hs_w149 := hk150.size
         refine rw_end ?_
         refine w_weaken (G' := [(2, .pointer (some ⟨g1, 0, none⟩)), (3, .pointer (some ⟨g7, 0, none⟩)), (4, .pointer (some ⟨g13, 0, none⟩)), (6, .pointer (some ⟨g95, 0, none⟩)), (7, .pointer (some ⟨g104, 0, none⟩)), (9, .int .i64 p), (10, .int .i64 q)]) ⟨rfl, rfl, rfl, rfl, rfl, rfl, rfl, trivial⟩ ?_
         refine w_ret (fun a_ ha_ => ?_)
         exact ⟨(((((keepsFrom_below hb132).trans (keepsFrom_below hb141)).trans (keepsFrom_keep ((hb2.on hb132).on hb141) hk143)).trans (keepsFrom_keep (((hb3.on hb132).on hb141).keep hk143 (by omega)) hk146)).trans (keepsFrom_keep ((((hb4.on hb132).on hb141).keep hk143 (by omega)).keep hk146 (by omega)) hk150)), rfl, ⟨by rw [List.map_append]; show foldT (_ ++ [pairA l x.val]) = _; rw [hpq_, foldT_snoc, hf_]; exact (if_pos (by show p ≤ last ∨ 64 < p ∨ q = 0; omega)), ((hb144.keep hk146 (by omega)).keep hk150 (by omega)), (hk147.keep hk150 (by omega)), hk151, (hk150.below (by omega) (hk146.below (by omega) (hk143.below (by omega) (chain (chain hBV hb132) hb141)))), by omega⟩⟩
        ·
         have l153 : ¬ q = 0 := by simpa using c138
         refine w_skip ?_
         refine w_region ?_
         refine rz (.int .i64 ((p.toNat : Nat) : Int)) (by rw [cast_toNat (by omega)]; rfl) ?_
         refine rv (.int .i64 q) ?_
         refine rv (.int .i64 p) ?_
         refine ru (.pointer (some ⟨g95, 9, none⟩)) ?_
         refine rz (.pointer (some ⟨g95, 9 + p.toNat, none⟩)) (run_as (addr_hist p.toNat (by omega) _)) ?_
         refine rw_seg (g := g95) (off := (9 + p.toNat)) (ty := 3) (p := .tmp 93) (x := .tmp 90) (v := .int .i64 q) (cs' := carr (⟨(baseC l h).cnt, (baseC l h).hi, (baseC l h).lo, (baseC l h).mn, (baseC l h).mx, (baseC l h).t, (baseC l h).src, (baseC l h).seq, (baseC l h).v, (updF ((baseC l h).h) p.toNat q)⟩ : CL)) rfl rfl rfl rfl rfl rfl (hbc.on hb132) (by kernel_rfl) (by rw [carr_size]; show 9 + p.toNat + 1 ≤ 74; omega) (by intro q hq; simp only [List.mem_cons, List.not_mem_nil, or_false, Value.cells] at hq; (first | (rcases hq with rfl | rfl | rfl | rfl <;> rfl) | (rcases hq with rfl | rfl <;> rfl) | (subst hq; rfl))) (seg_h (baseC l h) p.toNat (by omega) q) ?_
         intro w154 hk155 hb156
         have hs_w154 := hk155.size
         have hb160 := ((hbl.on hb132).keep hk155 (by omega))
         refine rsa hb160 [.int .i64 p] ?_
         intro w157 hk158 hk159
         have hs_w157 := hk158.size
         refine rw_end ?_
         refine w_weaken (G' := [(2, .pointer (some ⟨g1, 0, none⟩)), (3, .pointer (some ⟨g7, 0, none⟩)), (4, .pointer (some ⟨g13, 0, none⟩))]) ⟨rfl, rfl, rfl, trivial⟩ ?_
         refine w_blk ?_
         refine w_end (fun a_ ha_ => ?_)
         exact ⟨(((keepsFrom_below hb132).trans (keepsFrom_keep (hbc.on hb132) hk155)).trans (keepsFrom_keep ((hbl.on hb132).keep hk155 (by omega)) hk158)), (two_t (two_t (two_below hb132 (by omega) (by omega)) (two_keep hk155 (by omega) (by omega))) (two_keep hk158 (by omega) (by omega))), p, updF h p.toNat q, by rw [List.map_append]; show foldT (_ ++ [pairA l x.val]) = _; rw [hpq_, foldT_snoc, hf_]; exact if_neg (by show ¬ (p ≤ last ∨ 64 < p ∨ q = 0); omega), (hb156.keep hk158 (by omega)), hk159, (((hb2.on hb132).keep hk155 (by omega)).keep hk158 (by omega)), (((hb3.on hb132).keep hk155 (by omega)).keep hk158 (by omega)), (((hb4.on hb132).keep hk155 (by omega)).keep hk158 (by omega)), (hk158.below (by omega) (hk155.below (by omega) (chain hBV hb132))), by omega⟩
       ·
        have l161 : (64 < p) := of_decide_eq_true c136
        refine rok c136 ?_
        refine rok c136 ?_
        refine rp c136 (.bool true) ?_
        refine rw_end ?_
        refine w_weaken (G' := [(2, .pointer (some ⟨g1, 0, none⟩)), (3, .pointer (some ⟨g7, 0, none⟩)), (4, .pointer (some ⟨g13, 0, none⟩)), (6, .pointer (some ⟨g95, 0, none⟩)), (7, .pointer (some ⟨g104, 0, none⟩)), (9, .int .i64 p), (10, .int .i64 q), (87, .bool true)]) ⟨rfl, rfl, rfl, rfl, rfl, rfl, rfl, rfl, trivial⟩ ?_
        refine w_cond_t rfl rfl rfl ?_
        refine wsr ?_
        refine rcl (unit_calls w131) ?_
        rintro e_ w162 ⟨rfl, hb163⟩
        refine ⟨_, rfl, ?_⟩
        have hs_w162 := hb163.size
        refine rw_seg (g := g1) (off := 0) (ty := 81) (p := .tmp 2) (x := .tmp 88) (v := .agg (carr CL.unit)) (cs' := carr CL.unit) rfl rfl rfl rfl rfl rfl ((hb2.on hb132).on hb163) (by show (sizeOf 81).run _ _ = .ok (carr _).size _; rw [carr_size]; kernel_rfl) (Nat.le_of_eq (by rw [Nat.zero_add]; exact (carr_size _).trans (carr_size _).symm)) (encC_one _) (seg_all CL.unit CL.unit) ?_
        intro w164 hk165 hb166
        have hs_w164 := hk165.size
        have hb170 := (((hb3.on hb132).on hb163).keep hk165 (by omega))
        refine rsa hb170 [.slice none 0 0] ?_
        intro w167 hk168 hk169
        have hs_w167 := hk168.size
        have hb174 := ((((hb4.on hb132).on hb163).keep hk165 (by omega)).keep hk168 (by omega))
        refine rsa hb174 [.bool false] ?_
        intro w171 hk172 hk173
        have hs_w171 := hk172.size
        refine rw_end ?_
        refine w_weaken (G' := [(2, .pointer (some ⟨g1, 0, none⟩)), (3, .pointer (some ⟨g7, 0, none⟩)), (4, .pointer (some ⟨g13, 0, none⟩)), (6, .pointer (some ⟨g95, 0, none⟩)), (7, .pointer (some ⟨g104, 0, none⟩)), (9, .int .i64 p), (10, .int .i64 q)]) ⟨rfl, rfl, rfl, rfl, rfl, rfl, rfl, trivial⟩ ?_
        refine w_ret (fun a_ ha_ => ?_)
        exact ⟨(((((keepsFrom_below hb132).trans (keepsFrom_below hb163)).trans (keepsFrom_keep ((hb2.on hb132).on hb163) hk165)).trans (keepsFrom_keep (((hb3.on hb132).on hb163).keep hk165 (by omega)) hk168)).trans (keepsFrom_keep ((((hb4.on hb132).on hb163).keep hk165 (by omega)).keep hk168 (by omega)) hk172)), rfl, ⟨by rw [List.map_append]; show foldT (_ ++ [pairA l x.val]) = _; rw [hpq_, foldT_snoc, hf_]; exact (if_pos (by show p ≤ last ∨ 64 < p ∨ q = 0; omega)), ((hb166.keep hk168 (by omega)).keep hk172 (by omega)), (hk169.keep hk172 (by omega)), hk173, (hk172.below (by omega) (hk168.below (by omega) (hk165.below (by omega) (chain (chain hBV hb132) hb163)))), by omega⟩⟩
      ·
       have l175 : (p ≤ last) := of_decide_eq_true c134
       refine rok c134 ?_
       refine rok c134 ?_
       refine rp c134 (.bool true) ?_
       refine rv (.bool true) ?_
       refine ro true ?_
       refine ro true ?_
       refine rs (.bool true) ?_
       refine rw_end ?_
       refine w_weaken (G' := [(2, .pointer (some ⟨g1, 0, none⟩)), (3, .pointer (some ⟨g7, 0, none⟩)), (4, .pointer (some ⟨g13, 0, none⟩)), (6, .pointer (some ⟨g95, 0, none⟩)), (7, .pointer (some ⟨g104, 0, none⟩)), (9, .int .i64 p), (10, .int .i64 q), (87, .bool true)]) ⟨rfl, rfl, rfl, rfl, rfl, rfl, rfl, rfl, trivial⟩ ?_
       refine w_cond_t rfl rfl rfl ?_
       refine wsr ?_
       refine rcl (unit_calls w131) ?_
       rintro e_ w176 ⟨rfl, hb177⟩
       refine ⟨_, rfl, ?_⟩
       have hs_w176 := hb177.size
       refine rw_seg (g := g1) (off := 0) (ty := 81) (p := .tmp 2) (x := .tmp 88) (v := .agg (carr CL.unit)) (cs' := carr CL.unit) rfl rfl rfl rfl rfl rfl ((hb2.on hb132).on hb177) (by show (sizeOf 81).run _ _ = .ok (carr _).size _; rw [carr_size]; kernel_rfl) (Nat.le_of_eq (by rw [Nat.zero_add]; exact (carr_size _).trans (carr_size _).symm)) (encC_one _) (seg_all CL.unit CL.unit) ?_
       intro w178 hk179 hb180
       have hs_w178 := hk179.size
       have hb184 := (((hb3.on hb132).on hb177).keep hk179 (by omega))
       refine rsa hb184 [.slice none 0 0] ?_
       intro w181 hk182 hk183
       have hs_w181 := hk182.size
       have hb188 := ((((hb4.on hb132).on hb177).keep hk179 (by omega)).keep hk182 (by omega))
       refine rsa hb188 [.bool false] ?_
       intro w185 hk186 hk187
       have hs_w185 := hk186.size
       refine rw_end ?_
       refine w_weaken (G' := [(2, .pointer (some ⟨g1, 0, none⟩)), (3, .pointer (some ⟨g7, 0, none⟩)), (4, .pointer (some ⟨g13, 0, none⟩)), (6, .pointer (some ⟨g95, 0, none⟩)), (7, .pointer (some ⟨g104, 0, none⟩)), (9, .int .i64 p), (10, .int .i64 q)]) ⟨rfl, rfl, rfl, rfl, rfl, rfl, rfl, trivial⟩ ?_
       refine w_ret (fun a_ ha_ => ?_)
       exact ⟨(((((keepsFrom_below hb132).trans (keepsFrom_below hb177)).trans (keepsFrom_keep ((hb2.on hb132).on hb177) hk179)).trans (keepsFrom_keep (((hb3.on hb132).on hb177).keep hk179 (by omega)) hk182)).trans (keepsFrom_keep ((((hb4.on hb132).on hb177).keep hk179 (by omega)).keep hk182 (by omega)) hk186)), rfl, ⟨by rw [List.map_append]; show foldT (_ ++ [pairA l x.val]) = _; rw [hpq_, foldT_snoc, hf_]; exact (if_pos (by show p ≤ last ∨ 64 < p ∨ q = 0; omega)), ((hb180.keep hk182 (by omega)).keep hk186 (by omega)), (hk183.keep hk186 (by omega)), hk187, (hk186.below (by omega) (hk182.below (by omega) (hk179.below (by omega) (chain (chain hBV hb132) hb177)))), by omega⟩⟩
     ·
      rintro D xs V hD rfl ⟨last, h, hf_, hbc, hbl, hb2, hb3, hb4, hBV, hBl_⟩ hVD
      have hsV_ := hBV.size
      have hbclt_ := hbc.lt
      have hbllt_ := hbl.lt
      have hb2lt_ := hb2.lt
      have hb3lt_ := hb3.lt
      have hb4lt_ := hb4.lt
      have hDlt_ : D < V.heap.size := (Array.getElem?_eq_some_iff.1 hVD).1
      rw [prs_fin] at hf_
      refine w_weaken (G' := [(0, .slice (some ad35) l.length c1), (2, .pointer (some ⟨g1, 0, none⟩)), (3, .pointer (some ⟨g7, 0, none⟩)), (4, .pointer (some ⟨g13, 0, none⟩)), (5, .int .i64 (l.getD 9 0)), (6, .pointer (some ⟨g95, 0, none⟩)), (7, .pointer (some ⟨g104, 0, none⟩))]) ⟨rfl, rfl, rfl, rfl, rfl, rfl, rfl, trivial⟩ ?_
      refine w_blk ?_
      refine w_seq ?_
      have hP189 : (Kd.int .i64).C V (adrS 1 (some ad35) c1 (10 + (2 * (nC l)))) (l.drop (10 + (2 * (nC l)))).length (l.drop (10 + (2 * (nC l)))) := Kd.C_drop (Kd.C_below hl hBV) (by omega) (by have q_ := hc; omega)
      have hP189_ : (l.drop (10 + (2 * (nC l)))).length = l.length - (10 + (2 * (nC l))) := List.length_drop
      refine w_drawk (M := [0, 0, 0, 4, 12, 30, 62, 127, 255, 511]) (ss := [Is (.agg (carr (baseC l h))), Is (.slice (some ad35) l.length c1), Is (.int .i64 ((nC l : Nat) : Int)), Is (.int .i64 ((2 * (nC l) : Nat) : Int)), Is (.int .i64 ((10 + (2 * (nC l)) : Nat) : Int)), Is (.slice (adrS 1 (some ad35) c1 (10 + (2 * (nC l)))) ((l.drop (10 + (2 * (nC l)))).length) (c1 - (10 + (2 * (nC l))))), (OwnKSpec (Kd.int .i64) 3 V.heap.size V.heap.size (l.drop (10 + (2 * (nC l)))))]) 7 rfl (by decide +kernel) ?_
      refine t_is (.agg (carr (baseC l h))) rfl rfl rfl rfl (fun W_ hW_ F_ => (run_as (load_cell (c := baseC l h) (hbc.on (below_of_drew hW_))))) ?_
      refine tr (.slice (some ad35) l.length c1) ?_
      refine t_is (.int .i64 ((nC l : Nat) : Int)) rfl rfl rfl rfl (fun W_ hW_ F_ => (by rw [s3_]; rfl)) ?_
      refine t_is (.int .i64 ((2 * (nC l) : Nat) : Int)) rfl rfl rfl rfl (fun W_ hW_ F_ => by simp [go_sem, sEv, sLook, nbeq, i64_w, -List.getD_eq_getElem?_getD]; exact wrap_id (by omega) (by omega)) ?_
      refine t_is (.int .i64 ((10 + (2 * (nC l)) : Nat) : Int)) rfl rfl rfl rfl (fun W_ hW_ F_ => by simp [go_sem, sEv, sLook, nbeq, i64_w, -List.getD_eq_getElem?_getD]; exact wrap_id (by omega) (by omega)) ?_
      refine t_is (.slice (adrS 1 (some ad35) c1 (10 + (2 * (nC l)))) ((l.drop (10 + (2 * (nC l)))).length) (c1 - (10 + (2 * (nC l))))) rfl rfl rfl rfl (fun W_ hW_ F_ => (by rw [hP189_]; exact run_as (sl_from (sz := 1) (e := 3) (by kernel_rfl) (fun _ => by kernel_rfl) (10 + (2 * (nC l))) _ (by first | rfl | (simp; done) | omega) (by omega) (by have q_ := hc; omega) _))) ?_
      refine t_call (f := 69) (args := #[.slice (adrS 1 (some ad35) c1 (10 + (2 * (nC l)))) ((l.drop (10 + (2 * (nC l)))).length) (c1 - (10 + (2 * (nC l))))]) (OwnKSpec (Kd.int .i64) 3 V.heap.size V.heap.size (l.drop (10 + (2 * (nC l))))) rfl rfl rfl rfl (fun W_ => by simp [go_sem, sEv, sLook, nbeq, i64_w, -List.getD_eq_getElem?_getD]) (fun W_ hW_ F_ => ?_) ?_
      ·
       have hs_ := (below_of_drew hW_).size
       refine ((clonei_calls W_ (adrS 1 (some ad35) c1 (10 + (2 * (nC l)))) (c1 - (10 + (2 * (nC l)))) (l.drop (10 + (2 * (nC l)))) (Kd.C_below hP189 (chain (Below.refl _ _) (below_of_drew hW_))) (by rw [hP189_]; have q_ := hc; omega) (by omega))).mono ?_
       rintro e_ w_ ⟨A_, c_, rfl, hO_, hb_⟩
       exact ⟨_, rfl, ⟨A_, c_, rfl, OwnK.mono (OwnK.lower hO_ (by omega)) (by omega)⟩, hb_⟩
      rintro _ ⟨A190, c191, rfl, hle192⟩
      refine t_tail ?_
      intro w194 hb195_ F196
      have hb195 := below_of_drew hb195_
      have hs_w194 := hb195.size
      have hO193 : OwnK (Kd.int .i64) 3 w194 w.heap.size V.heap.size A190 (l.drop (10 + (2 * (nC l)))).length c191 (l.drop (10 + (2 * (nC l)))) := OwnK.lower (ownk_fact (F196 6 (OwnKSpec (Kd.int .i64) 3 V.heap.size V.heap.size (l.drop (10 + (2 * (nC l))))) (.slice A190 (l.drop (10 + (2 * (nC l)))).length c191) (by kernel_rfl))) (by omega)
      clear F196
      refine rw_seg (g := g1) (off := 0) (ty := 81) (p := .tmp 2) (x := .tmp 94) (v := .agg (carr (baseC l h))) (cs' := carr (baseC l h)) rfl rfl rfl rfl rfl rfl (hb2.on hb195) (by show (sizeOf 81).run _ _ = .ok (carr _).size _; rw [carr_size]; kernel_rfl) (Nat.le_of_eq (by rw [Nat.zero_add]; exact (carr_size _).trans (carr_size _).symm)) (encC_one _) (seg_all CL.unit (baseC l h)) ?_
      intro w197 hk198 hb199
      have hs_w197 := hk198.size
      have hb203 := ((hb3.on hb195).keep hk198 (by omega))
      refine rsa hb203 [.slice A190 ((l.drop (10 + (2 * (nC l)))).length) c191] ?_
      intro w200 hk201 hk202
      have hs_w200 := hk201.size
      have hb207 := (((hb4.on hb195).keep hk198 (by omega)).keep hk201 (by omega))
      refine rsa hb207 [.bool true] ?_
      intro w204 hk205 hk206
      have hs_w204 := hk205.size
      refine rw_end ?_
      refine w_weaken (G' := [(2, .pointer (some ⟨g1, 0, none⟩)), (3, .pointer (some ⟨g7, 0, none⟩)), (4, .pointer (some ⟨g13, 0, none⟩))]) ⟨rfl, rfl, rfl, trivial⟩ ?_
      have hDf_ := (((hk205).block D (by omega)).trans (((hk201).block D (by omega)).trans (((hk198).block D (by omega)).trans (((hb195).block D (by omega)).trans hVD))))
      refine w_ret (postMD hDf_ (post_ret3c (v1 := .agg (carr (baseC l h))) (v2 := (.slice A190 ((l.drop (10 + (2 * (nC l)))).length) c191 : Value)) (v3 := (.bool true : Value)) rfl rfl rfl rfl (load_cell (c := baseC l h) (blk_put ((hb199.keep hk201 (by omega)).keep hk205 (by omega)) hDf_)) (load_one (by kernel_rfl) (blk_put (hk202.keep hk205 (by omega)) hDf_)) (load_one (by kernel_rfl) (blk_put hk206 hDf_)) ?_))
      exact ⟨.inr ⟨_, _, _, _, takeC_some hsh_ hf_, rfl, OwnK.mono (OwnK.step hO193 (fun q_ hq_ hlt_ => ((World.putObj_heap_other (by omega)).trans (((hk205).block q_ (by omega)).trans (((hk201).block q_ (by omega)).trans ((hk198).block q_ (by omega))))))) (by omega)⟩, (below_put (hk205.below (by omega) (hk201.below (by omega) (hk198.below (by omega) (chain hBV hb195)))) (by omega) (by omega) (Nat.le_refl _))⟩
     ·
      rintro D pre V hD ⟨i, rfl⟩ ⟨hf_, hb2, hb3, hb4, hBV, hBl_⟩ hVD
      have hsV_ := hBV.size
      have hb2lt_ := hb2.lt
      have hb3lt_ := hb3.lt
      have hb4lt_ := hb4.lt
      have hDlt_ : D < V.heap.size := (Array.getElem?_eq_some_iff.1 hVD).1
      have hDf_ := hVD
      refine (postMD hDf_ (post_ret3c (v1 := .agg (carr CL.unit)) (v2 := (.slice none 0 0 : Value)) (v3 := (.bool false : Value)) rfl rfl rfl rfl (load_cell (c := CL.unit) (blk_put hb2 hDf_)) (load_one (by kernel_rfl) (blk_put hb3 hDf_)) (load_one (by kernel_rfl) (blk_put hb4 hDf_)) ?_))
      exact ⟨.inl ⟨takeC_none hsh_ (fold_part hf_), rfl⟩, (below_put hBV (by omega) (by omega) (Nat.le_refl _))⟩
   ·
    have l208 : (65 < (l.getD 9 0)) := of_decide_eq_true c41
    refine rok c41 ?_
    refine rok c41 ?_
    refine rok c41 ?_
    refine rok c41 ?_
    refine rok c41 ?_
    refine rok c41 ?_
    refine rp c41 (.bool true) ?_
    refine rw_end ?_
    refine w_weaken (G' := [(0, .slice (some ad35) l.length c1), (2, .pointer (some ⟨g1, 0, none⟩)), (3, .pointer (some ⟨g7, 0, none⟩)), (4, .pointer (some ⟨g13, 0, none⟩)), (5, .int .i64 (l.getD 9 0)), (31, .bool true)]) ⟨rfl, rfl, rfl, rfl, rfl, rfl, trivial⟩ ?_
    refine w_cond_t rfl rfl rfl ?_
    refine w_seq ?_
    have hns_ : ¬ shapeC l = true := by unfold shapeC; simp only [Bool.and_eq_true, decide_eq_true_eq]; omega
    refine w_region ?_
    refine rcl (unit_calls w14) ?_
    rintro e_ w209 ⟨rfl, hb210⟩
    refine ⟨_, rfl, ?_⟩
    have hs_w209 := hb210.size
    refine rw_seg (g := g1) (off := 0) (ty := 81) (p := .tmp 2) (x := .tmp 32) (v := .agg (carr CL.unit)) (cs' := carr CL.unit) rfl rfl rfl rfl rfl rfl (((hk4.on hb9).on hb15).on hb210) (by show (sizeOf 81).run _ _ = .ok (carr _).size _; rw [carr_size]; kernel_rfl) (Nat.le_of_eq (by rw [Nat.zero_add]; exact (carr_size _).trans (carr_size _).symm)) (encC_one _) (seg_all CL.unit CL.unit) ?_
    intro w211 hk212 hb213
    have hs_w211 := hk212.size
    have hb217 := (((hk10.on hb15).on hb210).keep hk212 (by omega))
    refine rsa hb217 [.slice none 0 0] ?_
    intro w214 hk215 hk216
    have hs_w214 := hk215.size
    have hb221 := (((hk16.on hb210).keep hk212 (by omega)).keep hk215 (by omega))
    refine rsa hb221 [.bool false] ?_
    intro w218 hk219 hk220
    have hs_w218 := hk219.size
    refine rw_end ?_
    refine w_weaken (G' := [(0, .slice (some ad35) l.length c1), (2, .pointer (some ⟨g1, 0, none⟩)), (3, .pointer (some ⟨g7, 0, none⟩)), (4, .pointer (some ⟨g13, 0, none⟩)), (5, .int .i64 (l.getD 9 0))]) ⟨rfl, rfl, rfl, rfl, rfl, trivial⟩ ?_
    refine w_ret (postM (Gs := []) (post_ret3c (v1 := .agg (carr CL.unit)) (v2 := (.slice none 0 0 : Value)) (v3 := (.bool false : Value)) rfl rfl rfl rfl (load_cell (c := CL.unit) ((hb213.keep hk215 (by omega)).keep hk219 (by omega))) (load_one (by kernel_rfl) (hk216.keep hk219 (by omega))) (load_one (by kernel_rfl) hk220) ?_))
    exact ⟨.inl ⟨takeC_short hns_, rfl⟩, (hk219.below (by omega) (hk215.below (by omega) (hk212.below (by omega) (chain (chain (chain hb3 hb9) hb15) hb210))))⟩
  ·
   have l222 : ((l.getD 9 0) < 0) := of_decide_eq_true c39
   refine rok c39 ?_
   refine rok c39 ?_
   refine rp c39 (.bool true) ?_
   refine rv (.bool true) ?_
   refine ro true ?_
   refine ro true ?_
   refine ro true ?_
   refine ro true ?_
   refine ro true ?_
   refine ro true ?_
   refine rs (.bool true) ?_
   refine rw_end ?_
   refine w_weaken (G' := [(0, .slice (some ad35) l.length c1), (2, .pointer (some ⟨g1, 0, none⟩)), (3, .pointer (some ⟨g7, 0, none⟩)), (4, .pointer (some ⟨g13, 0, none⟩)), (5, .int .i64 (l.getD 9 0)), (31, .bool true)]) ⟨rfl, rfl, rfl, rfl, rfl, rfl, trivial⟩ ?_
   refine w_cond_t rfl rfl rfl ?_
   refine w_seq ?_
   have hns_ : ¬ shapeC l = true := by unfold shapeC; simp only [Bool.and_eq_true, decide_eq_true_eq]; omega
   refine w_region ?_
   refine rcl (unit_calls w14) ?_
   rintro e_ w223 ⟨rfl, hb224⟩
   refine ⟨_, rfl, ?_⟩
   have hs_w223 := hb224.size
   refine rw_seg (g := g1) (off := 0) (ty := 81) (p := .tmp 2) (x := .tmp 32) (v := .agg (carr CL.unit)) (cs' := carr CL.unit) rfl rfl rfl rfl rfl rfl (((hk4.on hb9).on hb15).on hb224) (by show (sizeOf 81).run _ _ = .ok (carr _).size _; rw [carr_size]; kernel_rfl) (Nat.le_of_eq (by rw [Nat.zero_add]; exact (carr_size _).trans (carr_size _).symm)) (encC_one _) (seg_all CL.unit CL.unit) ?_
   intro w225 hk226 hb227
   have hs_w225 := hk226.size
   have hb231 := (((hk10.on hb15).on hb224).keep hk226 (by omega))
   refine rsa hb231 [.slice none 0 0] ?_
   intro w228 hk229 hk230
   have hs_w228 := hk229.size
   have hb235 := (((hk16.on hb224).keep hk226 (by omega)).keep hk229 (by omega))
   refine rsa hb235 [.bool false] ?_
   intro w232 hk233 hk234
   have hs_w232 := hk233.size
   refine rw_end ?_
   refine w_weaken (G' := [(0, .slice (some ad35) l.length c1), (2, .pointer (some ⟨g1, 0, none⟩)), (3, .pointer (some ⟨g7, 0, none⟩)), (4, .pointer (some ⟨g13, 0, none⟩)), (5, .int .i64 (l.getD 9 0))]) ⟨rfl, rfl, rfl, rfl, rfl, trivial⟩ ?_
   refine w_ret (postM (Gs := []) (post_ret3c (v1 := .agg (carr CL.unit)) (v2 := (.slice none 0 0 : Value)) (v3 := (.bool false : Value)) rfl rfl rfl rfl (load_cell (c := CL.unit) ((hb227.keep hk229 (by omega)).keep hk233 (by omega))) (load_one (by kernel_rfl) (hk230.keep hk233 (by omega))) (load_one (by kernel_rfl) hk234) ?_))
   exact ⟨.inl ⟨takeC_short hns_, rfl⟩, (hk233.below (by omega) (hk229.below (by omega) (hk226.below (by omega) (chain (chain (chain hb3 hb9) hb15) hb224))))⟩
end Go.Proofs.Ytbbhdohjhipalaa.Ce
end
section
namespace Go.Proofs.Ytbbhdohjhipalaa.Ce
open Go.RowKit Go.Proofs.YtbbhdohjhipalaaW.PrintWords Go.Proofs.YtbbhdohjhipalaaW.PrintLast Go.Proofs.YtbbhdohjhipalaaW.PrintMore
open Go.Proofs.Ytbbhdohjhipalaa.Flow
set_option linter.unusedVariables false
set_option linter.unusedSimpArgs false
structure EL where
  win : Int
  key : Int
  c : CL
def EL.zero : EL := ⟨0, 0, CL.unit⟩
def encE (x : EL) : List Value := .int .i64 x.win :: .int .i64 x.key :: encC x.c
def earr (x : EL) : Array Value := (encE x).toArray
theorem encE_len (x : EL) : (encE x).length = 76 := by simp [encE, encC_len]
theorem earr_size (x : EL) : (earr x).size = 76 := by simp [earr, encE_len]
theorem encE_one (x : EL) (u : Value) (hu : u ∈ encE x) : u.oneCell' = true := by
  unfold encE at hu
  simp only [List.mem_cons] at hu
  rcases hu with rfl | rfl | hu
  iterate 2 rfl
  exact encC_one _ _ hu
abbrev kEntry : Kd EL := flat 76 encE encE_len encE_one
theorem eA0 (x : EL) : (earr x)[0]? = some (.int .i64 x.win) := rfl
theorem eA1 (x : EL) : (earr x)[1]? = some (.int .i64 x.key) := rfl
theorem load_entry {w : World} {g t : Nat} {x : EL} (hb : Blk w g t (earr x)) : (Instr.loadAt 83 (.pointer (some ⟨g, 0, none⟩))).run Try.prog w = .ok (.agg (earr x)) w :=
  load_seg hb 0 (encE x) (by kernel_rfl) (by rw [encE_len]; kernel_rfl) (fun j v hj => by simpa [earr] using hj)
theorem load_ecell {w : World} {g t : Nat} {x : EL} (hb : Blk w g t (earr x)) : (Instr.loadAt 81 (.pointer (some ⟨g, 2, none⟩))).run Try.prog w = .ok (.agg (carr x.c)) w :=
  load_seg hb 2 (encC x.c) (by kernel_rfl) (by rw [encC_len]; kernel_rfl) (fun j v hj => by
    simp only [earr, encE, List.getElem?_toArray]
    rw [show 2 + j = j + 2 by omega]
    exact hj)
theorem load_eel {w : World} {ad : Addr} {k : Nat} {x : EL} (h : ∀ j u, (encE x)[j]? = some u → w.cell? (ad.add (k + j)) = some u) : (Instr.loadAt 83 (.pointer (some (ad.add k)))).run Try.prog w = .ok (.agg (earr x)) w := by
  have h1 := run_loadCells_list (P := Try.prog) w (ad.add k) (encE x) (fun j v hj => by rw [Addr.add_add]; exact h j v hj)
  rw [encE_len] at h1
  have ex : (earr x) = (encE x).toArray := rfl
  have ha : (isAgg 83).run Try.prog w = .ok true w := by kernel_rfl
  have hs : (sizeOf 83).run Try.prog w = .ok 76 w := by kernel_rfl
  unfold loadCells at h1
  rw [ex]
  simp only [Instr.loadAt, Instr.sureAddr, loadVar, Sem.run_bind, ha, hs, Result.andThen_ok, if_true, Sem.run_pure, loadCells, h1]
theorem load_eelc {w : World} {ad : Addr} {k : Nat} {x : EL} (h : ∀ j u, (encE x)[j]? = some u → w.cell? (ad.add (k + j)) = some u) : (Instr.loadAt 81 (.pointer (some ⟨(ad.add k).block, (ad.add k).off + 2, none⟩))).run Try.prog w = .ok (.agg (carr x.c)) w := by
  have h1 := run_loadCells_list (P := Try.prog) w ⟨(ad.add k).block, (ad.add k).off + 2, none⟩ (encC x.c) (fun j v hj => by
    rw [add_off]
    have h2 := cell_j (j := j + 1) (h (j + 2) v (by simpa [encE] using hj))
    rw [show (ad.add k).off + 2 + j = (ad.add k).off + (j + 1 + 1) by omega]
    exact h2)
  rw [encC_len] at h1
  have ex : (carr x.c) = (encC x.c).toArray := rfl
  have ha : (isAgg 81).run Try.prog w = .ok true w := by kernel_rfl
  have hs : (sizeOf 81).run Try.prog w = .ok 74 w := by kernel_rfl
  unfold loadCells at h1
  rw [ex]
  simp only [Instr.loadAt, Instr.sureAddr, loadVar, Sem.run_bind, ha, hs, Result.andThen_ok, if_true, Sem.run_pure, loadCells, h1]
theorem seg_eall (x y : EL) : segd (earr x) 0 (encE y) = earr y := by
  unfold segd
  have h : ((earr x).toList).drop (0 + (encE y).length) = [] := by
    rw [List.drop_eq_nil_iff, encE_len]
    simp [earr, encE_len]
  rw [h]
  simp [earr]
theorem seg_ekey (x : EL) (k : Int) : segd (earr x) 1 [.int .i64 k] = earr { x with key := k } := rfl
theorem seg_ecell (x : EL) (c : CL) : segd (earr x) 2 (encC c) = earr { x with c := c } := by
  unfold segd
  have h : ((earr x).toList).drop (2 + (encC c).length) = [] := by
    rw [List.drop_eq_nil_iff, encC_len]
    simp [earr, encE_len]
  rw [h]
  have h2 : (earr x).toList.take 2 = [.int .i64 x.win, .int .i64 x.key] := rfl
  rw [h2]
  simp [earr, encE]
abbrev OpL := Int × Int × Int × Int × Int
def opL (o : OpL) : List Int := [o.1, o.2.1, o.2.2.1, o.2.2.2.1, o.2.2.2.2]
structure NT where
  kind : Int
  fr : Int
  tw : Int
  nums : List Int
  ops : List OpL
  ents : List EL
def NT.zero : NT := ⟨0, 0, 0, [], [], []⟩
def opsL (l : List OpL) : List Int := (l.map opL).flatten
def entL (x : EL) : List Int := [x.win, x.key] ++ numsC x.c
def entsL (l : List EL) : List Int := (l.map entL).flatten
def listN (n : NT) : List Int := (([n.kind, n.fr, n.tw, (n.nums.length : Int)] ++ n.nums) ++ [(n.ops.length : Int)]) ++ opsL n.ops ++ [(n.ents.length : Int)] ++ entsL n.ents
theorem flat_snoc {α : Type} (f : α → List Int) (l : List α) (j : Nat) (z : α) (h : j < l.length) : ((l.take (j + 1)).map f).flatten = ((l.take j).map f).flatten ++ f (l.getD j z) := by
  rw [List.take_succ_eq_append_getElem h, List.map_append, List.flatten_append, List.getD_eq_getElem?_getD, List.getElem?_eq_getElem h]
  simp
theorem opsL_len : ∀ l : List OpL, (opsL l).length = 5 * l.length
  | [] => rfl
  | o :: l => by
    have := opsL_len l
    unfold opsL at *
    simp only [List.map_cons, List.flatten_cons, List.length_append, List.length_cons, this, opL, List.length_nil]
    omega
theorem entL_len (x : EL) : (entL x).length ≤ 142 := by
  have h := nums_len x.c
  have h2 := pr_len x.c.h 65
  unfold entL
  simp only [List.length_append, List.length_cons, List.length_nil]
  omega
theorem entsL_len : ∀ l : List EL, (entsL l).length ≤ 142 * l.length
  | [] => Nat.le_refl _
  | x :: l => by
    have h1 := entsL_len l
    have h2 := entL_len x
    unfold entsL at *
    simp only [List.map_cons, List.flatten_cons, List.length_append, List.length_cons]
    omega
def shapeK (k : Int) : Option (Int × Int × Int) :=
  if k = 1 ∨ k = 4 ∨ k = 9 then some (4, 4, 1) else if k = 2 then some (7, 39, 1) else if k = 3 then some (4, 36, 1) else if k = 5 then some (7, 7, 1) else if k = 6 then some (1, 25, 2) else if k = 7 then some (2, 26, 2) else if k = 8 then some (6, 6, 1) else none
def opOk (o : OpL) : Bool := o.2.1 == 1 || o.2.1 == 2
def fitsN (k : Int) (n : Nat) : Bool := match shapeK k with
  | none => false
  | some s => decide (s.1 ≤ (n : Int)) && (decide ((n : Int) ≤ s.2.1) && decide (((n : Int) - s.1) % s.2.2 = 0))
def goodN (n : NT) : Bool := (decide (0 ≤ n.fr) && decide (n.fr ≤ 999) && decide (0 ≤ n.tw) && decide (n.tw ≤ 999)) && fitsN n.kind n.nums.length &&
  (decide (n.ops.length ≤ 16) && (decide (n.ops.length = 0) || decide (n.kind = 7))) && (decide (n.ents.length ≤ 16) && (decide (n.ents.length = 0) || decide (n.kind = 8))) && n.ops.all opOk
structure RS where
  xs : List Int
  bad : Bool
def nextR (s : RS) : Int × RS := match s.xs with
  | [] => (0, ⟨[], true⟩)
  | x :: r => (x, ⟨r, s.bad⟩)
def countR (m : Int) (s : RS) : Int × RS := if (nextR s).1 < 0 ∨ m < (nextR s).1 then (0, ⟨(nextR s).2.xs, true⟩) else nextR s
def cellR (s : RS) : CL × RS := match takeC s.xs with
  | none => (CL.unit, ⟨[], true⟩)
  | some (c, r) => (c, ⟨r, s.bad⟩)
def numsR : Nat → RS → List Int × RS
  | 0, s => ([], s)
  | k + 1, s => ((numsR k s).1 ++ [(nextR (numsR k s).2).1], (nextR (numsR k s).2).2)
def nextsR : Nat → RS → RS
  | 0, s => s
  | k + 1, s => (nextR (nextsR k s)).2
def opR (s : RS) : OpL := ((nextR s).1, (nextR (nextsR 1 s)).1, (nextR (nextsR 2 s)).1, (nextR (nextsR 3 s)).1, (nextR (nextsR 4 s)).1)
def opsR : Nat → RS → List OpL × RS
  | 0, s => ([], s)
  | k + 1, s => ((opsR k s).1 ++ [opR (opsR k s).2], nextsR 5 (opsR k s).2)
def entR (s : RS) : EL := ⟨(nextR s).1, (nextR (nextR s).2).1, (cellR (nextsR 2 s)).1⟩
def entsR : Nat → RS → List EL × RS
  | 0, s => ([], s)
  | k + 1, s => if (entsR k s).2.bad then entsR k s else ((entsR k s).1 ++ [entR (entsR k s).2], (cellR (nextsR 2 (entsR k s).2)).2)
def noteR (s : RS) : NT × RS :=
  let c1 := countR 64 (nextsR 3 s)
  let l1 := numsR c1.1.toNat c1.2
  let c2 := countR 16 l1.2
  let l2 := opsR c2.1.toNat c2.2
  let c3 := countR 16 l2.2
  let l3 := entsR c3.1.toNat c3.2
  (⟨(nextR s).1, (nextR (nextsR 1 s)).1, (nextR (nextsR 2 s)).1, l1.1, l2.1, l3.1⟩, l3.2)
def RRow (w : World) (A : Option Addr) (n c : Nat) (xs : List Int) : Prop := (Kd.int .i64).C w A n xs ∧ xs.length ≤ c ∧ ∀ ad, A = some ad → ∃ cells, w.heap[ad.block]? = some (.cells cells 3 (0, 0))
def RD (w : World) (g : Nat) (s : RS) : Prop := ∃ A c, Blk w g 90 #[.slice A s.xs.length c, .bool s.bad] ∧ RRow w A s.xs.length c s.xs
theorem add_blk (a : Addr) (i : Nat) : (a.add i).block = a.block := by unfold Addr.add; split <;> rfl
theorem c_moved {w w' : World} {A : Option Addr} {n : Nat} {xs : List Int} (h : (Kd.int .i64).C w A n xs) (hm : ∀ ad, A = some ad → w'.heap[ad.block]? = w.heap[ad.block]?) : (Kd.int .i64).C w' A n xs := by
  refine ⟨h.1, h.2.1, fun hp => ?_⟩
  obtain ⟨ad, e, hc⟩ := h.2.2 hp
  refine ⟨ad, e, fun j p hj => ?_⟩
  obtain ⟨c, hl, hr, hc2⟩ := hc j p hj
  refine ⟨c, hl, hr, fun i u hu => ?_⟩
  have h9 : w'.cell? (ad.add (j * (Kd.int .i64).sz + i)) = w.cell? (ad.add (j * (Kd.int .i64).sz + i)) := World.cell?_of_block (by rw [add_blk]; exact hm ad e)
  exact h9.trans (hc2 i u hu)
theorem RRow.moved {w w' : World} {A : Option Addr} {n c : Nat} {xs : List Int} (h : RRow w A n c xs) (hm : ∀ ad, A = some ad → w'.heap[ad.block]? = w.heap[ad.block]?) : RRow w' A n c xs :=
  ⟨c_moved h.1 hm, h.2.1, fun ad e => by obtain ⟨cells, h1⟩ := h.2.2 ad e; exact ⟨cells, (hm ad e).trans h1⟩⟩
theorem RRow.on {w w' : World} {A : Option Addr} {n c : Nat} {xs : List Int} (h : RRow w A n c xs) (hb : Below w.heap.size w w') : RRow w' A n c xs := h.moved (fun ad e => by
  obtain ⟨cells, h1⟩ := h.2.2 ad e
  exact hb.block _ (Array.getElem?_eq_some_iff.1 h1).1)
theorem RRow.grown {w w' : World} {A : Option Addr} {n c : Nat} {xs : List Int} (h : RRow w A n c xs) {r : Option Nat} (hg : w.grownBy w' r) (hr : ∀ q, r = some q → ∃ cells e, w.heap[q]? = some (.cells cells e (0, 0)) ∧ e ≠ 3) : RRow w' A n c xs := h.moved (fun ad e => by
  obtain ⟨cells, h1⟩ := h.2.2 ad e
  refine hg.block _ (Array.getElem?_eq_some_iff.1 h1).1 (fun he => ?_)
  obtain ⟨c2, e2, h2, h3⟩ := hr _ he.symm
  rw [h1] at h2
  injection h2 with h2
  injection h2 with _ h2
  exact h3 h2.symm)
theorem RRow.keep {w w' : World} {A : Option Addr} {n c g t : Nat} {xs : List Int} {cs : Array Value} (h : RRow w A n c xs) (hb : Blk w g t cs) (ht : t ≠ 3) (hk : Keep g w w') : RRow w' A n c xs := h.moved (fun ad e => by
  obtain ⟨cells, h1⟩ := h.2.2 ad e
  refine hk.block _ (fun he => ?_)
  have h2 : w.heap[g]? = some (.cells cs t (0, 0)) := hb
  rw [← he, h1] at h2
  injection h2 with h2
  injection h2 with _ h2
  exact ht h2.symm)
theorem own_keep {α : Type} {d : Kd α} {e t g : TypeId} {w w' : World} {base b : Nat} {A : Option Addr} {n c : Nat} {xs : List α} {cs : Array Value} (h : OwnK d e w base b A n c xs) (hb : Blk w g t cs) (hne : ∀ q, q ∈ e :: d.E → q ≠ t) (hk : Keep g w w') : OwnK d e w' base b A n c xs := by
  have h0 := Kd.R_bound h
  refine Kd.R_mono (Kd.R_grown h0 hk.grown (fun k hk2 he => ?_)) (fun q hq => hq.1)
  obtain ⟨hk1, hk3, hk4, q, hq, cells, hc⟩ := hk2
  have e1 : g = k := by simpa using he.symm
  have h2 : w.heap[g]? = some (.cells cs t (0, 0)) := hb
  rw [e1, hc] at h2
  injection h2 with h2
  injection h2 with _ h2
  exact hne q hq h2
end Go.Proofs.Ytbbhdohjhipalaa.Ce
end
section
namespace Go.Proofs.Ytbbhdohjhipalaa.Ce
open Go.RowKit Go.Proofs.YtbbhdohjhipalaaW.PrintWords Go.Proofs.YtbbhdohjhipalaaW.PrintLast Go.Proofs.YtbbhdohjhipalaaW.PrintMore
open Go.Proofs.Ytbbhdohjhipalaa.Flow
set_option linter.unusedVariables false
set_option linter.unusedSimpArgs false
def errT : Option Int → Value
  | none => .nilIface
  | some c => .iface 48 (.int .i64 c)
theorem run_err_neq (o : Option Int) (w : World) : (binOp .neq 32 (errT o) .nilIface).run Try.prog w = .ok (.bool o.isSome) w := by
  cases o with
  | none => kernel_rfl
  | some c => kernel_rfl
theorem guard_err_neq (t : Nat) (o : Option Int) (w : World) : (do eqGuard .neq 32 (.tmp t) (.const .nilIface) (errT o) .nilIface; binOp .neq 32 (errT o) .nilIface : Sem Value).run Try.prog w = .ok (.bool o.isSome) w := by
  have h := run_err_neq o w
  cases o with
  | none => simpa [eqGuard, errT] using h
  | some c => simpa [eqGuard, errT] using h
theorem run_err_eq0 (o : Option Int) (w : World) : (binOp .eql 32 (errT o) .nilIface).run Try.prog w = .ok (.bool o.isNone) w := by
  cases o with
  | none => kernel_rfl
  | some c => kernel_rfl
theorem guard_err_eq0 (t : Nat) (o : Option Int) (w : World) : (do eqGuard .eql 32 (.tmp t) (.const .nilIface) (errT o) .nilIface; binOp .eql 32 (errT o) .nilIface : Sem Value).run Try.prog w = .ok (.bool o.isNone) w := by
  have h := run_err_eq0 o w
  cases o with
  | none => simpa [eqGuard, errT] using h
  | some c => simpa [eqGuard, errT] using h
end Go.Proofs.Ytbbhdohjhipalaa.Ce
end
section
namespace Go.Proofs.Ytbbhdohjhipalaa.Ce
open Go.RowKit Go.Proofs.YtbbhdohjhipalaaW.PrintWords Go.Proofs.YtbbhdohjhipalaaW.PrintLast Go.Proofs.YtbbhdohjhipalaaW.PrintMore
open Go.Proofs.Ytbbhdohjhipalaa.Flow
set_option linter.unusedVariables false
set_option linter.unusedSimpArgs false
def encOp (x : (Int × Int × Int × Int × Int)) : List Value := [.int .i64 x.1, .int .i64 x.2.1, .int .i64 x.2.2.1, .int .i64 x.2.2.2.1, .int .i64 x.2.2.2.2]
theorem encOp_len (x : (Int × Int × Int × Int × Int)) : (encOp x).length = 5 := rfl
theorem encOp_one (x : (Int × Int × Int × Int × Int)) (u : Value) (hu : u ∈ encOp x) : u.oneCell' = true := by
  simp only [encOp, List.mem_cons, List.not_mem_nil, or_false] at hu
  rcases hu with rfl | rfl | rfl | rfl | rfl <;> rfl
abbrev kOp : Kd (Int × Int × Int × Int × Int) := flat 5 encOp encOp_len encOp_one
def shp (k : Int) : Array Value := match shapeK k with
  | none => #[.int .i64 0, .int .i64 0, .int .i64 0]
  | some s => #[.int .i64 s.1, .int .i64 s.2.1, .int .i64 s.2.2]
set_option maxHeartbeats 4000000 in
theorem shape_calls (w : World) (k : Int) :
  Calls Try.prog 33 #[.int .i64 k] w fun e w' => e = .returned (.tuple #[.agg (shp k), .bool (shapeK k).isSome]) ∧ Below w.heap.size w w' := by
 refine calls_flow Try.func33 rfl 29 rfl (Nat.le_of_ble_eq_true rfl) [(0, .int .i64 k)] ?_ ?_
 ·
  intro t v h; exact args_look rfl t v h
 refine wsr ?_
 refine rw_new (cs := #[.int .i64 0, .int .i64 0, .int .i64 0]) (t := 68) (fun g => .pointer (some ⟨g, 0, none⟩)) rfl rfl rfl rfl (by kernel_rfl) ?_
 intro g1 w2 hg6 hz5 hb3 hk4
 have hs_w2 := hb3.size
 refine rv (.bool false) ?_
 refine rw_end ?_
 refine w_seq ?_
 refine wsr ?_
 refine rv (.int .i64 k) ?_
 refine rw_end ?_
 refine w_block ?_
 refine w_seq ?_
 refine wsr ?_
 refine rs (.bool (k == 1)) ?_
 refine rv (.bool (k == 1)) ?_
 refine rw_end ?_
 refine w_cond rfl rfl (fun c7 => ?_) (fun c7 => ?_)
 ·
  have l8 : k = 1 := by simpa using c7
  refine w_skip ?_
  refine w_cond_t rfl rfl c7 ?_
  refine wsr ?_
  refine rk (.agg #[.int .i64 4, .int .i64 4, .int .i64 1]) ?_
  have hb12 := hk4
  refine rsa hb12 [.int .i64 4, .int .i64 4, .int .i64 1] ?_
  intro w9 hk10 hk11
  have hs_w9 := hk10.size
  refine rv (.bool true) ?_
  refine rw_end ?_
  refine w_ret (post_retct (v := .agg #[.int .i64 4, .int .i64 4, .int .i64 1]) rfl rfl rfl (by have eb_ := hk11; have e0_ := eb_.cellv (i := 0) (v := (.int .i64 4 : Value)) rfl; have e1_ := eb_.cellv (i := 1) (v := (.int .i64 4 : Value)) rfl; have e2_ := eb_.cellv (i := 2) (v := (.int .i64 1 : Value)) rfl; simp [go_sem, e0_, e1_, e2_, Try.underlying68]) ?_)
  exact ⟨by simp [shp, shapeK, *], (hk10.below (by omega) hb3)⟩
 ·
  have l13 : ¬ k = 1 := by simpa using c7
  refine wsr ?_
  refine rs (.bool (k == 4)) ?_
  refine rv (.bool (k == 4)) ?_
  refine rw_end ?_
  refine w_cond rfl rfl (fun c14 => ?_) (fun c14 => ?_)
  ·
   have l15 : k = 4 := by simpa using c14
   refine w_skip ?_
   refine w_cond_t rfl rfl c14 ?_
   refine wsr ?_
   refine rk (.agg #[.int .i64 4, .int .i64 4, .int .i64 1]) ?_
   have hb19 := hk4
   refine rsa hb19 [.int .i64 4, .int .i64 4, .int .i64 1] ?_
   intro w16 hk17 hk18
   have hs_w16 := hk17.size
   refine rv (.bool true) ?_
   refine rw_end ?_
   refine w_ret (post_retct (v := .agg #[.int .i64 4, .int .i64 4, .int .i64 1]) rfl rfl rfl (by have eb_ := hk18; have e0_ := eb_.cellv (i := 0) (v := (.int .i64 4 : Value)) rfl; have e1_ := eb_.cellv (i := 1) (v := (.int .i64 4 : Value)) rfl; have e2_ := eb_.cellv (i := 2) (v := (.int .i64 1 : Value)) rfl; simp [go_sem, e0_, e1_, e2_, Try.underlying68]) ?_)
   exact ⟨by simp [shp, shapeK, *], (hk17.below (by omega) hb3)⟩
  ·
   have l20 : ¬ k = 4 := by simpa using c14
   refine w_region ?_
   refine rs (.bool (k == 9)) ?_
   refine rv (.bool (k == 9)) ?_
   refine rw_end ?_
   refine w_cond rfl rfl (fun c21 => ?_) (fun c21 => ?_)
   ·
    have l22 : k = 9 := by simpa using c21
    refine wsr ?_
    refine rk (.agg #[.int .i64 4, .int .i64 4, .int .i64 1]) ?_
    have hb26 := hk4
    refine rsa hb26 [.int .i64 4, .int .i64 4, .int .i64 1] ?_
    intro w23 hk24 hk25
    have hs_w23 := hk24.size
    refine rv (.bool true) ?_
    refine rw_end ?_
    refine w_ret (post_retct (v := .agg #[.int .i64 4, .int .i64 4, .int .i64 1]) rfl rfl rfl (by have eb_ := hk25; have e0_ := eb_.cellv (i := 0) (v := (.int .i64 4 : Value)) rfl; have e1_ := eb_.cellv (i := 1) (v := (.int .i64 4 : Value)) rfl; have e2_ := eb_.cellv (i := 2) (v := (.int .i64 1 : Value)) rfl; simp [go_sem, e0_, e1_, e2_, Try.underlying68]) ?_)
    exact ⟨by simp [shp, shapeK, *], (hk24.below (by omega) hb3)⟩
   ·
    have l27 : ¬ k = 9 := by simpa using c21
    refine wsr ?_
    refine rs (.bool (k == 2)) ?_
    refine rv (.bool (k == 2)) ?_
    refine rw_end ?_
    refine w_cond rfl rfl (fun c28 => ?_) (fun c28 => ?_)
    ·
     have l29 : k = 2 := by simpa using c28
     refine wsr ?_
     refine rk (.agg #[.int .i64 7, .int .i64 39, .int .i64 1]) ?_
     have hb33 := hk4
     refine rsa hb33 [.int .i64 7, .int .i64 39, .int .i64 1] ?_
     intro w30 hk31 hk32
     have hs_w30 := hk31.size
     refine rv (.bool true) ?_
     refine rw_end ?_
     refine w_ret (post_retct (v := .agg #[.int .i64 7, .int .i64 39, .int .i64 1]) rfl rfl rfl (by have eb_ := hk32; have e0_ := eb_.cellv (i := 0) (v := (.int .i64 7 : Value)) rfl; have e1_ := eb_.cellv (i := 1) (v := (.int .i64 39 : Value)) rfl; have e2_ := eb_.cellv (i := 2) (v := (.int .i64 1 : Value)) rfl; simp [go_sem, e0_, e1_, e2_, Try.underlying68]) ?_)
     exact ⟨by simp [shp, shapeK, *], (hk31.below (by omega) hb3)⟩
    ·
     have l34 : ¬ k = 2 := by simpa using c28
     refine wsr ?_
     refine rs (.bool (k == 3)) ?_
     refine rv (.bool (k == 3)) ?_
     refine rw_end ?_
     refine w_cond rfl rfl (fun c35 => ?_) (fun c35 => ?_)
     ·
      have l36 : k = 3 := by simpa using c35
      refine wsr ?_
      refine rk (.agg #[.int .i64 4, .int .i64 36, .int .i64 1]) ?_
      have hb40 := hk4
      refine rsa hb40 [.int .i64 4, .int .i64 36, .int .i64 1] ?_
      intro w37 hk38 hk39
      have hs_w37 := hk38.size
      refine rv (.bool true) ?_
      refine rw_end ?_
      refine w_ret (post_retct (v := .agg #[.int .i64 4, .int .i64 36, .int .i64 1]) rfl rfl rfl (by have eb_ := hk39; have e0_ := eb_.cellv (i := 0) (v := (.int .i64 4 : Value)) rfl; have e1_ := eb_.cellv (i := 1) (v := (.int .i64 36 : Value)) rfl; have e2_ := eb_.cellv (i := 2) (v := (.int .i64 1 : Value)) rfl; simp [go_sem, e0_, e1_, e2_, Try.underlying68]) ?_)
      exact ⟨by simp [shp, shapeK, *], (hk38.below (by omega) hb3)⟩
     ·
      have l41 : ¬ k = 3 := by simpa using c35
      refine wsr ?_
      refine rs (.bool (k == 5)) ?_
      refine rv (.bool (k == 5)) ?_
      refine rw_end ?_
      refine w_cond rfl rfl (fun c42 => ?_) (fun c42 => ?_)
      ·
       have l43 : k = 5 := by simpa using c42
       refine wsr ?_
       refine rk (.agg #[.int .i64 7, .int .i64 7, .int .i64 1]) ?_
       have hb47 := hk4
       refine rsa hb47 [.int .i64 7, .int .i64 7, .int .i64 1] ?_
       intro w44 hk45 hk46
       have hs_w44 := hk45.size
       refine rv (.bool true) ?_
       refine rw_end ?_
       refine w_ret (post_retct (v := .agg #[.int .i64 7, .int .i64 7, .int .i64 1]) rfl rfl rfl (by have eb_ := hk46; have e0_ := eb_.cellv (i := 0) (v := (.int .i64 7 : Value)) rfl; have e1_ := eb_.cellv (i := 1) (v := (.int .i64 7 : Value)) rfl; have e2_ := eb_.cellv (i := 2) (v := (.int .i64 1 : Value)) rfl; simp [go_sem, e0_, e1_, e2_, Try.underlying68]) ?_)
       exact ⟨by simp [shp, shapeK, *], (hk45.below (by omega) hb3)⟩
      ·
       have l48 : ¬ k = 5 := by simpa using c42
       refine wsr ?_
       refine rs (.bool (k == 6)) ?_
       refine rv (.bool (k == 6)) ?_
       refine rw_end ?_
       refine w_cond rfl rfl (fun c49 => ?_) (fun c49 => ?_)
       ·
        have l50 : k = 6 := by simpa using c49
        refine wsr ?_
        refine rk (.agg #[.int .i64 1, .int .i64 25, .int .i64 2]) ?_
        have hb54 := hk4
        refine rsa hb54 [.int .i64 1, .int .i64 25, .int .i64 2] ?_
        intro w51 hk52 hk53
        have hs_w51 := hk52.size
        refine rv (.bool true) ?_
        refine rw_end ?_
        refine w_ret (post_retct (v := .agg #[.int .i64 1, .int .i64 25, .int .i64 2]) rfl rfl rfl (by have eb_ := hk53; have e0_ := eb_.cellv (i := 0) (v := (.int .i64 1 : Value)) rfl; have e1_ := eb_.cellv (i := 1) (v := (.int .i64 25 : Value)) rfl; have e2_ := eb_.cellv (i := 2) (v := (.int .i64 2 : Value)) rfl; simp [go_sem, e0_, e1_, e2_, Try.underlying68]) ?_)
        exact ⟨by simp [shp, shapeK, *], (hk52.below (by omega) hb3)⟩
       ·
        have l55 : ¬ k = 6 := by simpa using c49
        refine wsr ?_
        refine rs (.bool (k == 7)) ?_
        refine rv (.bool (k == 7)) ?_
        refine rw_end ?_
        refine w_cond rfl rfl (fun c56 => ?_) (fun c56 => ?_)
        ·
         have l57 : k = 7 := by simpa using c56
         refine wsr ?_
         refine rk (.agg #[.int .i64 2, .int .i64 26, .int .i64 2]) ?_
         have hb61 := hk4
         refine rsa hb61 [.int .i64 2, .int .i64 26, .int .i64 2] ?_
         intro w58 hk59 hk60
         have hs_w58 := hk59.size
         refine rv (.bool true) ?_
         refine rw_end ?_
         refine w_ret (post_retct (v := .agg #[.int .i64 2, .int .i64 26, .int .i64 2]) rfl rfl rfl (by have eb_ := hk60; have e0_ := eb_.cellv (i := 0) (v := (.int .i64 2 : Value)) rfl; have e1_ := eb_.cellv (i := 1) (v := (.int .i64 26 : Value)) rfl; have e2_ := eb_.cellv (i := 2) (v := (.int .i64 2 : Value)) rfl; simp [go_sem, e0_, e1_, e2_, Try.underlying68]) ?_)
         exact ⟨by simp [shp, shapeK, *], (hk59.below (by omega) hb3)⟩
        ·
         have l62 : ¬ k = 7 := by simpa using c56
         refine wsr ?_
         refine rs (.bool (k == 8)) ?_
         refine rv (.bool (k == 8)) ?_
         refine rw_end ?_
         refine w_cond rfl rfl (fun c63 => ?_) (fun c63 => ?_)
         ·
          have l64 : k = 8 := by simpa using c63
          refine wsr ?_
          refine rk (.agg #[.int .i64 6, .int .i64 6, .int .i64 1]) ?_
          have hb68 := hk4
          refine rsa hb68 [.int .i64 6, .int .i64 6, .int .i64 1] ?_
          intro w65 hk66 hk67
          have hs_w65 := hk66.size
          refine rv (.bool true) ?_
          refine rw_end ?_
          refine w_ret (post_retct (v := .agg #[.int .i64 6, .int .i64 6, .int .i64 1]) rfl rfl rfl (by have eb_ := hk67; have e0_ := eb_.cellv (i := 0) (v := (.int .i64 6 : Value)) rfl; have e1_ := eb_.cellv (i := 1) (v := (.int .i64 6 : Value)) rfl; have e2_ := eb_.cellv (i := 2) (v := (.int .i64 1 : Value)) rfl; simp [go_sem, e0_, e1_, e2_, Try.underlying68]) ?_)
          exact ⟨by simp [shp, shapeK, *], (hk66.below (by omega) hb3)⟩
         ·
          have l69 : ¬ k = 8 := by simpa using c63
          refine w_skip ?_
          refine w_blk ?_
          refine wsr ?_
          refine rk (.agg #[.int .i64 0, .int .i64 0, .int .i64 0]) ?_
          have hb73 := hk4
          refine rsa hb73 [.int .i64 0, .int .i64 0, .int .i64 0] ?_
          intro w70 hk71 hk72
          have hs_w70 := hk71.size
          refine rv (.bool false) ?_
          refine rw_end ?_
          refine w_ret (post_retct (v := .agg #[.int .i64 0, .int .i64 0, .int .i64 0]) rfl rfl rfl (by have eb_ := hk72; have e0_ := eb_.cellv (i := 0) (v := (.int .i64 0 : Value)) rfl; have e1_ := eb_.cellv (i := 1) (v := (.int .i64 0 : Value)) rfl; have e2_ := eb_.cellv (i := 2) (v := (.int .i64 0 : Value)) rfl; simp [go_sem, e0_, e1_, e2_, Try.underlying68]) ?_)
          exact ⟨by simp [shp, shapeK, *], (hk71.below (by omega) hb3)⟩
set_option maxHeartbeats 4000000 in
theorem isbad_calls (w : World) (o : OpL) :
  Calls Try.prog 35 #[.agg #[.int .i64 o.1, .int .i64 o.2.1, .int .i64 o.2.2.1, .int .i64 o.2.2.2.1, .int .i64 o.2.2.2.2]] w fun e w' => e = .returned (.bool (!(opOk o))) ∧ Below w.heap.size w w' := by
 refine calls_flow Try.func35 rfl 11 rfl (Nat.le_of_ble_eq_true rfl) [(0, .agg #[.int .i64 o.1, .int .i64 o.2.1, .int .i64 o.2.2.1, .int .i64 o.2.2.2.1, .int .i64 o.2.2.2.2])] ?_ ?_
 ·
  intro t v h; exact args_look rfl t v h
 refine wsr ?_
 refine rw_new (cs := #[.int .i64 o.1, .int .i64 o.2.1, .int .i64 o.2.2.1, .int .i64 o.2.2.2.1, .int .i64 o.2.2.2.2]) (t := 73) (fun g => .pointer (some ⟨g, 0, none⟩)) rfl rfl rfl rfl (by simp [go_sem, sEv, sLook, nbeq, i64_w, -List.getD_eq_getElem?_getD]) ?_
 intro g1 w2 hg6 hz5 hb3 hk4
 have hs_w2 := hb3.size
 refine rv (.bool false) ?_
 refine rw_end ?_
 refine wsr ?_
 refine ru (.pointer (some ⟨g1, 1, none⟩)) ?_
 refine rl hk4 1 (.int .i64 o.2.1) ?_
 refine rs (.bool (o.2.1 != 1)) ?_
 refine rv (.bool (o.2.1 != 1)) ?_
 rcases bcase (o.2.1 != 1) with c7 | c7
 ·
  have l8 : o.2.1 = 1 := by simpa using c7
  refine rok c7 ?_
  refine rok c7 ?_
  refine rok c7 ?_
  refine rp c7 (.bool false) ?_
  refine rv (.bool false) ?_
  refine rw_end ?_
  refine w_ret (post_ret1 rfl rfl ?_)
  rw [show false = !(opOk o) from by unfold opOk; cases h1_ : o.2.1 == 1 <;> cases h2_ : o.2.1 == 2 <;> simp_all [bne]]
  exact ⟨rfl, hb3⟩
 ·
  have l9 : ¬ o.2.1 = 1 := by simpa using c7
  refine rnk c7 ?_
  refine ru (.pointer (some ⟨g1, 1, none⟩)) ?_
  refine rnk c7 ?_
  refine rl hk4 1 (.int .i64 o.2.1) ?_
  refine rnk c7 ?_
  refine rs (.bool (o.2.1 != 2)) ?_
  refine rp c7 (.bool (o.2.1 != 2)) ?_
  refine rv (.bool (o.2.1 != 2)) ?_
  refine rw_end ?_
  refine w_ret (post_ret1 rfl rfl ?_)
  rw [show (o.2.1 != 2) = !(opOk o) from by unfold opOk; cases h1_ : o.2.1 == 1 <;> cases h2_ : o.2.1 == 2 <;> simp_all [bne]]
  exact ⟨rfl, hb3⟩
theorem all_no {l : List OpL} {j : Nat} (h : j < l.length) (hn : opOk (l.getD j (0, 0, 0, 0, 0)) = false) : l.all opOk = false := by
  cases e : l.all opOk with
  | false => rfl
  | true => rw [List.all_eq_true.1 e _ (getD_mem l j _ h)] at hn; cases hn
set_option maxHeartbeats 4000000 in
theorem index_calls (w : World) (A1 : Option Addr) (c1 : Nat) (l : List OpL) (hl : kOp.C w A1 l.length l) (hc : l.length ≤ c1) (hln : l.length ≤ 140737488355328) :
  Calls Try.prog 55 #[.slice A1 l.length c1, .func (.func 35) #[] #[]] w fun e w' => ∃ r : Int, e = .returned (.int .i64 r) ∧ decide (0 ≤ r) = !(l.all opOk) ∧ Below w.heap.size w w' := by
 refine calls_flow Try.func55 rfl 19 rfl (Nat.le_of_ble_eq_true rfl) [(0, .slice A1 l.length c1), (1, .func (.func 35) #[] #[])] ?_ ?_
 ·
  intro t v h; exact args_look rfl t v h
 refine wsr ?_
 refine rv (.int .i64 0) ?_
 refine rw_end ?_
 refine w_seq ?_
 refine wsr ?_
 refine rv (.slice A1 l.length c1) ?_
 refine rs (.int .i64 ((l.length : Nat) : Int)) ?_
 refine rv (.int .i64 0) ?_
 refine rw_end ?_
 refine w_block ?_
 refine w_loop (fun m_ G W_ => ∃ (j : Nat), j + m_ = l.length ∧ Below w.heap.size w W_ ∧ ((l.take j).all opOk = true) ∧ G = [(0, .slice A1 l.length c1), (1, .func (.func 35) #[] #[]), (7, .int .i64 ((l.length : Nat) : Int)), (8, .int .i64 ((j : Nat) : Int))]) l.length [(0, .slice A1 l.length c1), (1, .func (.func 35) #[] #[]), (7, .int .i64 ((l.length : Nat) : Int)), (8, .int .i64 0)] ⟨0, by omega, (Below.refl _ _), (by simp), rfl⟩ ⟨rfl, rfl, rfl, rfl, trivial⟩ ?_
 rintro m_ G w_L1 ⟨j, hp2, hB_L1, hf3, rfl⟩
 have hs_w_L1 := hB_L1.size
 have hJ_ := hf3
 refine wsr ?_
 refine rs (.bool (decide (((j : Nat) : Int) < ((l.length : Nat) : Int)))) ?_
 refine rw_end ?_
 refine w_seq ?_
 refine w_cond rfl rfl (fun cJ => ?_) (fun cJ => ?_)
 ·
  have l4 : (((j : Nat) : Int) < ((l.length : Nat) : Int)) := of_decide_eq_true cJ
  refine w_skip ?_
  refine w_seq ?_
  refine w_block ?_
  refine wsr ?_
  refine rv (.int .i64 ((j : Nat) : Int)) ?_
  refine rv (.int .i64 ((j : Nat) : Int)) ?_
  refine rw_end ?_
  refine wsr ?_
  refine rv (.func (.func 35) #[] #[]) ?_
  refine rv (.slice A1 l.length c1) ?_
  refine rv (.int .i64 ((j : Nat) : Int)) ?_
  obtain ⟨ad5, hA6, hc7⟩ := flat_at (Kd.C_below hl hB_L1) (0, 0, 0, 0, 0) j (by first | omega | decide)
  subst hA6
  have he8 : w_L1.cell? (ad5.add (j * 5)) = some (.int .i64 ((l.getD j (0, 0, 0, 0, 0)).1)) := cell_0 (hc7 0 _ rfl)
  have he9 : w_L1.cell? ⟨(ad5.add (j * 5)).block, (ad5.add (j * 5)).off + 1, none⟩ = some (.int .i64 ((l.getD j (0, 0, 0, 0, 0)).2.1)) := cell_j (hc7 1 _ rfl)
  have he10 : w_L1.cell? ⟨(ad5.add (j * 5)).block, (ad5.add (j * 5)).off + 2, none⟩ = some (.int .i64 ((l.getD j (0, 0, 0, 0, 0)).2.2.1)) := cell_j (hc7 2 _ rfl)
  have he11 : w_L1.cell? ⟨(ad5.add (j * 5)).block, (ad5.add (j * 5)).off + 3, none⟩ = some (.int .i64 ((l.getD j (0, 0, 0, 0, 0)).2.2.2.1)) := cell_j (hc7 3 _ rfl)
  have he12 : w_L1.cell? ⟨(ad5.add (j * 5)).block, (ad5.add (j * 5)).off + 4, none⟩ = some (.int .i64 ((l.getD j (0, 0, 0, 0, 0)).2.2.2.2)) := cell_j (hc7 4 _ rfl)
  refine rz (.pointer (some (ad5.add (j * 5)))) (run_as (run_at_k (P := Try.prog) (e := 73) (sz := 5) (by kernel_rfl) (by kernel_rfl) j (by first | omega | decide) _)) ?_
  refine rz (.agg #[.int .i64 ((l.getD j (0, 0, 0, 0, 0)).1), .int .i64 ((l.getD j (0, 0, 0, 0, 0)).2.1), .int .i64 ((l.getD j (0, 0, 0, 0, 0)).2.2.1), .int .i64 ((l.getD j (0, 0, 0, 0, 0)).2.2.2.1), .int .i64 ((l.getD j (0, 0, 0, 0, 0)).2.2.2.2)]) (by have e0_ := cellOn he8 (Below.refl _ _); have e1_ := cellOn he9 (Below.refl _ _); have e2_ := cellOn he10 (Below.refl _ _); have e3_ := cellOn he11 (Below.refl _ _); have e4_ := cellOn he12 (Below.refl _ _); simp [go_sem, sEv, sLook, nbeq, i64_w, -List.getD_eq_getElem?_getD, e0_, e1_, e2_, e3_, e4_, Try.underlying73]) ?_
  refine rcl (isbad_calls w_L1 (l.getD j (0, 0, 0, 0, 0))) ?_
  rintro e_ w13 ⟨rfl, hb14⟩
  refine ⟨_, rfl, ?_⟩
  have hs_w13 := hb14.size
  refine rw_end ?_
  refine w_cond rfl rfl (fun cO => ?_) (fun cO => ?_)
  ·
   refine wsr ?_
   refine rv (.int .i64 ((j : Nat) : Int)) ?_
   refine rv (.int .i64 ((j : Nat) : Int)) ?_
   refine rw_end ?_
   refine w_ret (post_ret1 rfl rfl ?_)
   exact ⟨_, rfl, by rw [all_no (show j < l.length by omega) (by simpa using cO)]; exact decide_eq_true (by omega), (chain hB_L1 hb14)⟩
  ·
   refine w_skip ?_
   refine w_blk ?_
   refine w_region ?_
   refine rw1 (.int .i64 ((j + 1 : Nat) : Int)) ?_
   refine rv (.int .i64 ((j + 1 : Nat) : Int)) ?_
   refine rw_end ?_
   exact w_back (m_ - 1) [(0, .slice (some ad5) l.length c1), (1, .func (.func 35) #[] #[]), (7, .int .i64 ((l.length : Nat) : Int)), (8, .int .i64 ((j + 1 : Nat) : Int))] (by omega) ⟨rfl, rfl, rfl, rfl, trivial⟩ ⟨(j + 1), by omega, (chain hB_L1 hb14), (by rw [List.take_succ_eq_append_getElem (by omega), List.all_append, hJ_]; simpa [List.getD_eq_getElem?_getD, List.getElem?_eq_getElem (show j < l.length by omega)] using cO), rfl⟩
 ·
  have l15 : ¬ (((j : Nat) : Int) < ((l.length : Nat) : Int)) := of_decide_eq_false cJ
  refine w_exit rfl ?_
  refine wsr ?_
  refine rv (.int .i64 (-1)) ?_
  refine rw_end ?_
  refine w_ret (post_ret1 rfl rfl ?_)
  exact ⟨-1, rfl, by rw [show l.all opOk = true by have h_ := hJ_; rwa [List.take_of_length_le (by omega)] at h_]; rfl, hB_L1⟩
set_option maxHeartbeats 4000000 in
theorem contains_calls (w : World) (A1 : Option Addr) (c1 : Nat) (l : List OpL) (hl : kOp.C w A1 l.length l) (hc : l.length ≤ c1) (hln : l.length ≤ 140737488355328) :
  Calls Try.prog 34 #[.slice A1 l.length c1, .func (.func 35) #[] #[]] w fun e w' => e = .returned (.bool (!(l.all opOk))) ∧ Below w.heap.size w w' := by
 refine calls_flow Try.func34 rfl 9 rfl (Nat.le_of_ble_eq_true rfl) [(0, .slice A1 l.length c1), (1, .func (.func 35) #[] #[])] ?_ ?_
 ·
  intro t v h; exact args_look rfl t v h
 refine wsr ?_
 refine rv (.bool false) ?_
 refine rw_end ?_
 refine wsr ?_
 refine rv (.slice A1 l.length c1) ?_
 refine rv (.func (.func 35) #[] #[]) ?_
 refine rcl (index_calls w A1 c1 l (Kd.C_below hl (Below.refl _ _)) hc hln) ?_
 rintro e_ w1 ⟨r, rfl, hr_, hb2⟩
 refine ⟨_, rfl, ?_⟩
 have hs_w1 := hb2.size
 refine rs (.bool (decide (0 ≤ r))) ?_
 refine rv (.bool (decide (0 ≤ r))) ?_
 refine rw_end ?_
 refine w_ret (post_ret1 rfl rfl ?_)
 rw [show decide (0 ≤ r) = !(l.all opOk) from hr_]
 exact ⟨rfl, hb2⟩
theorem shape_some {k a b c : Int} (h : shapeK k = some (a, b, c)) : (c = 1 ∨ c = 2) ∧ 0 ≤ a ∧ a ≤ 7 := by
  unfold shapeK at h
  repeat' split at h
  all_goals first | (cases h; omega) | cases h
theorem good_iff {n : NT} {a b c : Int} (h : shapeK n.kind = some (a, b, c)) : goodN n = true ↔ (0 ≤ n.fr ∧ n.fr ≤ 999 ∧ 0 ≤ n.tw ∧ n.tw ≤ 999 ∧ a ≤ (n.nums.length : Int) ∧ (n.nums.length : Int) ≤ b ∧ ((n.nums.length : Int) - a) % c = 0 ∧ n.ops.length ≤ 16 ∧ (n.ops.length = 0 ∨ n.kind = 7) ∧ n.ents.length ≤ 16 ∧ (n.ents.length = 0 ∨ n.kind = 8)) ∧ n.ops.all opOk = true := by
  unfold goodN fitsN
  rw [h]
  simp only [Bool.and_eq_true, Bool.or_eq_true, decide_eq_true_eq]
  constructor
  · rintro ⟨⟨⟨⟨⟨⟨⟨a1, a2⟩, a3⟩, a4⟩, a5, a6, a7⟩, a8, a9⟩, a10, a11⟩, a12⟩
    exact ⟨⟨a1, a2, a3, a4, a5, a6, a7, a8, a9, a10, a11⟩, a12⟩
  · rintro ⟨⟨a1, a2, a3, a4, a5, a6, a7, a8, a9, a10, a11⟩, a12⟩
    exact ⟨⟨⟨⟨⟨⟨⟨a1, a2⟩, a3⟩, a4⟩, a5, a6, a7⟩, a8, a9⟩, a10, a11⟩, a12⟩
theorem good_no {n : NT} (h : shapeK n.kind = none) : goodN n = false := by
  unfold goodN fitsN
  rw [h]
  simp
theorem good_of {n : NT} (b : Bool) (h : goodN n = b) : errT (if goodN n = true then none else some 2) = errT (if b = true then none else some 2) := by rw [h]
set_option maxHeartbeats 4000000 in
theorem check_calls (w : World) (n : NT) (A3 : Option Addr) (c3 : Nat) (A4 : Option Addr) (c4 : Nat) (A5 : Option Addr) (c5 : Nat) (hn3 : (Kd.int .i64).C w A3 n.nums.length n.nums) (hc3 : n.nums.length ≤ c3) (hn4 : kOp.C w A4 n.ops.length n.ops) (hc4 : n.ops.length ≤ c4) (hn5 : kEntry.C w A5 n.ents.length n.ents) (hc5 : n.ents.length ≤ c5) (hk3 : n.nums.length ≤ 140737488355328) (hk4 : n.ops.length ≤ 140737488355328) (hk5 : n.ents.length ≤ 140737488355328) :
  Calls Try.prog 15 #[.agg #[.int .i64 n.kind, .int .i64 n.fr, .int .i64 n.tw, .slice A3 n.nums.length c3, .slice A4 n.ops.length c4, .slice A5 n.ents.length c5]] w fun e w' => e = .returned (errT (if goodN n = true then none else some 2)) ∧ Below w.heap.size w w' := by
 refine calls_flow Try.func15 rfl 100 rfl (Nat.le_of_ble_eq_true rfl) [(0, .agg #[.int .i64 n.kind, .int .i64 n.fr, .int .i64 n.tw, .slice A3 n.nums.length c3, .slice A4 n.ops.length c4, .slice A5 n.ents.length c5])] ?_ ?_
 ·
  intro t v h; exact args_look rfl t v h
 refine wsr ?_
 refine rw_new (cs := #[.int .i64 n.kind, .int .i64 n.fr, .int .i64 n.tw, .slice A3 n.nums.length c3, .slice A4 n.ops.length c4, .slice A5 n.ents.length c5]) (t := 26) (fun g => .pointer (some ⟨g, 0, none⟩)) rfl rfl rfl rfl (by simp [go_sem, sEv, sLook, nbeq, i64_w, -List.getD_eq_getElem?_getD]) ?_
 intro g1 w2 hg6 hz5 hb3 hk4
 have hs_w2 := hb3.size
 refine rv .nilIface ?_
 refine rw_end ?_
 refine wsr ?_
 refine ru (.pointer (some ⟨g1, 0, none⟩)) ?_
 refine rl hk4 0 (.int .i64 n.kind) ?_
 rcases hS_ : shapeK n.kind with _ | ⟨a, b, c⟩
 ·
  refine rcl (by have q_ := shape_calls w2 n.kind; unfold shp at q_; rw [hS_] at q_; exact q_) ?_
  rintro e_ w7 ⟨rfl, hb8⟩
  refine ⟨_, rfl, ?_⟩
  have hs_w7 := hb8.size
  refine rv (.tuple #[.agg #[.int .i64 0, .int .i64 0, .int .i64 0], .bool false]) ?_
  refine rs (.agg #[.int .i64 0, .int .i64 0, .int .i64 0]) ?_
  refine rs (.bool false) ?_
  refine rw_new (cs := #[.int .i64 0, .int .i64 0, .int .i64 0]) (t := 68) (fun g => .pointer (some ⟨g, 0, none⟩)) rfl rfl rfl rfl (by kernel_rfl) ?_
  intro g9 w10 hg14 hz13 hb11 hk12
  have hs_w10 := hb11.size
  have hb18 := hk12
  refine rsa hb18 [.int .i64 0, .int .i64 0, .int .i64 0] ?_
  intro w15 hk16 hk17
  have hs_w15 := hk16.size
  refine rv (.bool false) ?_
  refine rw_end ?_
  refine wsr ?_
  refine ru (.pointer (some ⟨g1, 3, none⟩)) ?_
  refine rl (((hk4.on hb8).on hb11).keep hk16 (by omega)) 3 (.slice A3 n.nums.length c3) ?_
  refine rs (.int .i64 ((n.nums.length : Nat) : Int)) ?_
  refine rv (.int .i64 ((n.nums.length : Nat) : Int)) ?_
  refine rw_end ?_
  refine w_seq ?_
  refine w_block ?_
  refine wsr ?_
  refine rv (.bool false) ?_
  refine rs (.bool true) ?_
  refine rv (.bool true) ?_
  refine ro true ?_
  refine ro true ?_
  refine ro true ?_
  refine rs (.bool true) ?_
  refine rv (.bool true) ?_
  refine ro true ?_
  refine ro true ?_
  refine ro true ?_
  refine rs (.bool true) ?_
  refine rv (.bool true) ?_
  refine ro true ?_
  refine ro true ?_
  refine ro true ?_
  refine rs (.bool true) ?_
  refine rv (.bool true) ?_
  refine ro true ?_
  refine ro true ?_
  refine ro true ?_
  refine rs (.bool true) ?_
  refine rv (.bool true) ?_
  refine rw_end ?_
  refine w_cond_t rfl rfl rfl ?_
  refine wsr ?_
  refine rz (errT (some 2)) (by simp [go_sem, sEv, sLook, nbeq, i64_w, -List.getD_eq_getElem?_getD, errT]) ?_
  refine rv (errT (some 2)) ?_
  refine rw_end ?_
  refine w_ret (post_ret1 rfl rfl ?_)
  have hg_ : goodN n = false := good_no hS_
  exact ⟨by rw [good_of _ hg_]; rfl, (hk16.below (by omega) (chain (chain hb3 hb8) hb11))⟩
 ·
  obtain ⟨hcc_, ha0_, ha7_⟩ := shape_some hS_
  refine rcl (by have q_ := shape_calls w2 n.kind; unfold shp at q_; rw [hS_] at q_; exact q_) ?_
  rintro e_ w19 ⟨rfl, hb20⟩
  refine ⟨_, rfl, ?_⟩
  have hs_w19 := hb20.size
  refine rv (.tuple #[.agg #[.int .i64 a, .int .i64 b, .int .i64 c], .bool true]) ?_
  refine rs (.agg #[.int .i64 a, .int .i64 b, .int .i64 c]) ?_
  refine rs (.bool true) ?_
  refine rw_new (cs := #[.int .i64 0, .int .i64 0, .int .i64 0]) (t := 68) (fun g => .pointer (some ⟨g, 0, none⟩)) rfl rfl rfl rfl (by kernel_rfl) ?_
  intro g21 w22 hg26 hz25 hb23 hk24
  have hs_w22 := hb23.size
  have hb30 := hk24
  refine rsa hb30 [.int .i64 a, .int .i64 b, .int .i64 c] ?_
  intro w27 hk28 hk29
  have hs_w27 := hk28.size
  refine rv (.bool true) ?_
  refine rw_end ?_
  refine wsr ?_
  refine ru (.pointer (some ⟨g1, 3, none⟩)) ?_
  refine rl (((hk4.on hb20).on hb23).keep hk28 (by omega)) 3 (.slice A3 n.nums.length c3) ?_
  refine rs (.int .i64 ((n.nums.length : Nat) : Int)) ?_
  refine rv (.int .i64 ((n.nums.length : Nat) : Int)) ?_
  refine rw_end ?_
  refine w_seq ?_
  refine w_block ?_
  refine wsr ?_
  refine rv (.bool true) ?_
  refine rs (.bool false) ?_
  refine rv (.bool false) ?_
  refine rn false ?_
  refine ru (.pointer (some ⟨g1, 1, none⟩)) ?_
  refine rn false ?_
  refine rl (((hk4.on hb20).on hb23).keep hk28 (by omega)) 1 (.int .i64 n.fr) ?_
  refine rn false ?_
  refine rs (.bool (decide (n.fr < 0))) ?_
  refine rs (.bool (decide (n.fr < 0))) ?_
  refine rv (.bool (decide (n.fr < 0))) ?_
  rcases bcase (decide (n.fr < 0)) with c31 | c31
  ·
   have l32 : ¬ (n.fr < 0) := of_decide_eq_false c31
   refine rnk c31 ?_
   refine ru (.pointer (some ⟨g1, 1, none⟩)) ?_
   refine rnk c31 ?_
   refine rl (((hk4.on hb20).on hb23).keep hk28 (by omega)) 1 (.int .i64 n.fr) ?_
   refine rnk c31 ?_
   refine rs (.bool (decide (999 < n.fr))) ?_
   refine rp c31 (.bool (decide (999 < n.fr))) ?_
   refine rv (.bool (decide (999 < n.fr))) ?_
   rcases bcase (decide (999 < n.fr)) with c33 | c33
   ·
    have l34 : ¬ (999 < n.fr) := of_decide_eq_false c33
    refine rnk c33 ?_
    refine ru (.pointer (some ⟨g1, 2, none⟩)) ?_
    refine rnk c33 ?_
    refine rl (((hk4.on hb20).on hb23).keep hk28 (by omega)) 2 (.int .i64 n.tw) ?_
    refine rnk c33 ?_
    refine rs (.bool (decide (n.tw < 0))) ?_
    refine rp c33 (.bool (decide (n.tw < 0))) ?_
    refine rv (.bool (decide (n.tw < 0))) ?_
    rcases bcase (decide (n.tw < 0)) with c35 | c35
    ·
     have l36 : ¬ (n.tw < 0) := of_decide_eq_false c35
     refine rnk c35 ?_
     refine ru (.pointer (some ⟨g1, 2, none⟩)) ?_
     refine rnk c35 ?_
     refine rl (((hk4.on hb20).on hb23).keep hk28 (by omega)) 2 (.int .i64 n.tw) ?_
     refine rnk c35 ?_
     refine rs (.bool (decide (999 < n.tw))) ?_
     refine rp c35 (.bool (decide (999 < n.tw))) ?_
     refine rv (.bool (decide (999 < n.tw))) ?_
     refine rw_end ?_
     refine w_cond rfl rfl (fun c37 => ?_) (fun c37 => ?_)
     ·
      have l38 : (999 < n.tw) := of_decide_eq_true c37
      refine wsr ?_
      refine rz (errT (some 2)) (by simp [go_sem, sEv, sLook, nbeq, i64_w, -List.getD_eq_getElem?_getD, errT]) ?_
      refine rv (errT (some 2)) ?_
      refine rw_end ?_
      refine w_ret (post_ret1 rfl rfl ?_)
      have hg_ : goodN n = false := Bool.eq_false_iff.2 (fun h_ => by obtain ⟨h2_, _⟩ := (good_iff hS_).1 h_; rcases hcc_ with h_ | h_ <;> subst h_ <;> omega)
      exact ⟨by rw [good_of _ hg_]; rfl, (hk28.below (by omega) (chain (chain hb3 hb20) hb23))⟩
     ·
      have l39 : ¬ (999 < n.tw) := of_decide_eq_false c37
      refine wsr ?_
      refine rv (.int .i64 ((n.nums.length : Nat) : Int)) ?_
      refine ru (.pointer (some ⟨g21, 0, none⟩)) ?_
      refine rl hk29 0 (.int .i64 a) ?_
      refine rs (.bool (decide (((n.nums.length : Nat) : Int) < a))) ?_
      refine rv (.bool (decide (((n.nums.length : Nat) : Int) < a))) ?_
      rcases bcase (decide (((n.nums.length : Nat) : Int) < a)) with c40 | c40
      ·
       have l41 : ¬ (((n.nums.length : Nat) : Int) < a) := of_decide_eq_false c40
       refine rnk c40 ?_
       refine rv (.int .i64 ((n.nums.length : Nat) : Int)) ?_
       refine rnk c40 ?_
       refine ru (.pointer (some ⟨g21, 1, none⟩)) ?_
       refine rnk c40 ?_
       refine rl hk29 1 (.int .i64 b) ?_
       refine rnk c40 ?_
       refine rs (.bool (decide (b < ((n.nums.length : Nat) : Int)))) ?_
       refine rp c40 (.bool (decide (b < ((n.nums.length : Nat) : Int)))) ?_
       refine rv (.bool (decide (b < ((n.nums.length : Nat) : Int)))) ?_
       rcases bcase (decide (b < ((n.nums.length : Nat) : Int))) with c42 | c42
       ·
        have l43 : ¬ (b < ((n.nums.length : Nat) : Int)) := of_decide_eq_false c42
        refine rnk c42 ?_
        refine rv (.int .i64 ((n.nums.length : Nat) : Int)) ?_
        refine rnk c42 ?_
        refine ru (.pointer (some ⟨g21, 0, none⟩)) ?_
        refine rnk c42 ?_
        refine rl hk29 0 (.int .i64 a) ?_
        refine rnk c42 ?_
        refine rw1 (.int .i64 (((n.nums.length : Nat) : Int) - a)) ?_
        refine rnk c42 ?_
        refine ru (.pointer (some ⟨g21, 2, none⟩)) ?_
        refine rnk c42 ?_
        refine rl hk29 2 (.int .i64 c) ?_
        refine rnk c42 ?_
        refine rz (.int .i64 ((((n.nums.length : Nat) : Int) - a) % c)) (by rcases hcc_ with h_ | h_ <;> subst h_ <;> simp [go_sem, sEv, sLook, nbeq, i64_w, -List.getD_eq_getElem?_getD] <;> (try rw [Int.tmod_eq_emod_of_nonneg (by omega)]) <;> (try unfold wrap64) <;> omega) ?_
        refine rnk c42 ?_
        refine rs (.bool (((((n.nums.length : Nat) : Int) - a) % c) != 0)) ?_
        refine rp c42 (.bool (((((n.nums.length : Nat) : Int) - a) % c) != 0)) ?_
        refine rv (.bool (((((n.nums.length : Nat) : Int) - a) % c) != 0)) ?_
        refine rw_end ?_
        refine w_cond rfl rfl (fun c44 => ?_) (fun c44 => ?_)
        ·
         have l45 : ¬ ((((n.nums.length : Nat) : Int) - a) % c) = 0 := by simpa using c44
         refine wsr ?_
         refine rz (errT (some 2)) (by simp [go_sem, sEv, sLook, nbeq, i64_w, -List.getD_eq_getElem?_getD, errT]) ?_
         refine rv (errT (some 2)) ?_
         refine rw_end ?_
         refine w_ret (post_ret1 rfl rfl ?_)
         have hg_ : goodN n = false := Bool.eq_false_iff.2 (fun h_ => by obtain ⟨h2_, _⟩ := (good_iff hS_).1 h_; rcases hcc_ with h_ | h_ <;> subst h_ <;> omega)
         exact ⟨by rw [good_of _ hg_]; rfl, (hk28.below (by omega) (chain (chain hb3 hb20) hb23))⟩
        ·
         have l46 : ((((n.nums.length : Nat) : Int) - a) % c) = 0 := by simpa using c44
         refine wsr ?_
         refine ru (.pointer (some ⟨g1, 4, none⟩)) ?_
         refine rl (((hk4.on hb20).on hb23).keep hk28 (by omega)) 4 (.slice A4 n.ops.length c4) ?_
         refine rs (.int .i64 ((n.ops.length : Nat) : Int)) ?_
         refine rs (.bool (decide (16 < ((n.ops.length : Nat) : Int)))) ?_
         refine rv (.bool (decide (16 < ((n.ops.length : Nat) : Int)))) ?_
         rcases bcase (decide (16 < ((n.ops.length : Nat) : Int))) with c47 | c47
         ·
          have l48 : ¬ (16 < ((n.ops.length : Nat) : Int)) := of_decide_eq_false c47
          refine rnk c47 ?_
          refine ru (.pointer (some ⟨g1, 4, none⟩)) ?_
          refine rnk c47 ?_
          refine rl (((hk4.on hb20).on hb23).keep hk28 (by omega)) 4 (.slice A4 n.ops.length c4) ?_
          refine rnk c47 ?_
          refine rs (.int .i64 ((n.ops.length : Nat) : Int)) ?_
          refine rnk c47 ?_
          refine rs (.bool (decide (0 < ((n.ops.length : Nat) : Int)))) ?_
          refine rnk c47 ?_
          refine rv (.bool (decide (0 < ((n.ops.length : Nat) : Int)))) ?_
          rcases bcase (decide (0 < ((n.ops.length : Nat) : Int))) with c49 | c49
          ·
           have l50 : ¬ (0 < ((n.ops.length : Nat) : Int)) := of_decide_eq_false c49
           refine rok c49 ?_
           refine rok c49 ?_
           refine rok c49 ?_
           refine rnk c47 ?_
           refine rp c49 (.bool false) ?_
           refine rp c47 (.bool false) ?_
           refine rv (.bool false) ?_
           refine rw_end ?_
           refine w_cond_f rfl rfl rfl ?_
           refine wsr ?_
           refine ru (.pointer (some ⟨g1, 5, none⟩)) ?_
           refine rl (((hk4.on hb20).on hb23).keep hk28 (by omega)) 5 (.slice A5 n.ents.length c5) ?_
           refine rs (.int .i64 ((n.ents.length : Nat) : Int)) ?_
           refine rs (.bool (decide (16 < ((n.ents.length : Nat) : Int)))) ?_
           refine rv (.bool (decide (16 < ((n.ents.length : Nat) : Int)))) ?_
           rcases bcase (decide (16 < ((n.ents.length : Nat) : Int))) with c51 | c51
           ·
            have l52 : ¬ (16 < ((n.ents.length : Nat) : Int)) := of_decide_eq_false c51
            refine rnk c51 ?_
            refine ru (.pointer (some ⟨g1, 5, none⟩)) ?_
            refine rnk c51 ?_
            refine rl (((hk4.on hb20).on hb23).keep hk28 (by omega)) 5 (.slice A5 n.ents.length c5) ?_
            refine rnk c51 ?_
            refine rs (.int .i64 ((n.ents.length : Nat) : Int)) ?_
            refine rnk c51 ?_
            refine rs (.bool (decide (0 < ((n.ents.length : Nat) : Int)))) ?_
            refine rnk c51 ?_
            refine rv (.bool (decide (0 < ((n.ents.length : Nat) : Int)))) ?_
            rcases bcase (decide (0 < ((n.ents.length : Nat) : Int))) with c53 | c53
            ·
             have l54 : ¬ (0 < ((n.ents.length : Nat) : Int)) := of_decide_eq_false c53
             refine rok c53 ?_
             refine rok c53 ?_
             refine rok c53 ?_
             refine rnk c51 ?_
             refine rp c53 (.bool false) ?_
             refine rp c51 (.bool false) ?_
             refine rv (.bool false) ?_
             refine rw_end ?_
             refine w_cond_f rfl rfl rfl ?_
             refine wsr ?_
             refine ru (.pointer (some ⟨g1, 4, none⟩)) ?_
             refine rl (((hk4.on hb20).on hb23).keep hk28 (by omega)) 4 (.slice A4 n.ops.length c4) ?_
             refine rcl (contains_calls w27 A4 c4 n.ops (Kd.C_below hn4 (hk28.below (by omega) (chain (chain hb3 hb20) hb23))) hc4 (by omega)) ?_
             rintro e_ w55 ⟨rfl, hb56⟩
             refine ⟨_, rfl, ?_⟩
             have hs_w55 := hb56.size
             refine rv (.bool (!(n.ops.all opOk))) ?_
             refine rw_end ?_
             refine w_cond rfl rfl (fun cOps => ?_) (fun cOps => ?_)
             ·
              refine wsr ?_
              refine rz (errT (some 2)) (by simp [go_sem, sEv, sLook, nbeq, i64_w, -List.getD_eq_getElem?_getD, errT]) ?_
              refine rv (errT (some 2)) ?_
              refine rw_end ?_
              refine w_ret (post_ret1 rfl rfl ?_)
              have hg_ : goodN n = false := Bool.eq_false_iff.2 (fun h_ => by have h2_ := ((good_iff hS_).1 h_).2; rw [h2_] at cOps; cases cOps)
              exact ⟨by rw [good_of _ hg_]; rfl, (chain (hk28.below (by omega) (chain (chain hb3 hb20) hb23)) hb56)⟩
             ·
              refine w_skip ?_
              refine w_blk ?_
              refine wsr ?_
              refine rv .nilIface ?_
              refine rw_end ?_
              refine w_ret (post_ret1 rfl rfl ?_)
              have hg_ : goodN n = true := (good_iff hS_).2 ⟨by rcases hcc_ with h_ | h_ <;> subst h_ <;> omega, by simpa using cOps⟩
              exact ⟨by rw [good_of _ hg_]; rfl, (chain (hk28.below (by omega) (chain (chain hb3 hb20) hb23)) hb56)⟩
            ·
             have l57 : (0 < ((n.ents.length : Nat) : Int)) := of_decide_eq_true c53
             refine rnk c53 ?_
             refine ru (.pointer (some ⟨g1, 0, none⟩)) ?_
             refine rnk c53 ?_
             refine rl (((hk4.on hb20).on hb23).keep hk28 (by omega)) 0 (.int .i64 n.kind) ?_
             refine rnk c53 ?_
             refine rs (.bool (n.kind != 8)) ?_
             refine rnk c51 ?_
             refine rp c53 (.bool (n.kind != 8)) ?_
             refine rp c51 (.bool (n.kind != 8)) ?_
             refine rv (.bool (n.kind != 8)) ?_
             refine rw_end ?_
             refine w_cond rfl rfl (fun c58 => ?_) (fun c58 => ?_)
             ·
              have l59 : ¬ n.kind = 8 := by simpa using c58
              refine wsr ?_
              refine rz (errT (some 2)) (by simp [go_sem, sEv, sLook, nbeq, i64_w, -List.getD_eq_getElem?_getD, errT]) ?_
              refine rv (errT (some 2)) ?_
              refine rw_end ?_
              refine w_ret (post_ret1 rfl rfl ?_)
              have hg_ : goodN n = false := Bool.eq_false_iff.2 (fun h_ => by obtain ⟨h2_, _⟩ := (good_iff hS_).1 h_; rcases hcc_ with h_ | h_ <;> subst h_ <;> omega)
              exact ⟨by rw [good_of _ hg_]; rfl, (hk28.below (by omega) (chain (chain hb3 hb20) hb23))⟩
             ·
              have l60 : n.kind = 8 := by simpa using c58
              refine wsr ?_
              refine ru (.pointer (some ⟨g1, 4, none⟩)) ?_
              refine rl (((hk4.on hb20).on hb23).keep hk28 (by omega)) 4 (.slice A4 n.ops.length c4) ?_
              refine rcl (contains_calls w27 A4 c4 n.ops (Kd.C_below hn4 (hk28.below (by omega) (chain (chain hb3 hb20) hb23))) hc4 (by omega)) ?_
              rintro e_ w61 ⟨rfl, hb62⟩
              refine ⟨_, rfl, ?_⟩
              have hs_w61 := hb62.size
              refine rv (.bool (!(n.ops.all opOk))) ?_
              refine rw_end ?_
              refine w_cond rfl rfl (fun cOps => ?_) (fun cOps => ?_)
              ·
               refine wsr ?_
               refine rz (errT (some 2)) (by simp [go_sem, sEv, sLook, nbeq, i64_w, -List.getD_eq_getElem?_getD, errT]) ?_
               refine rv (errT (some 2)) ?_
               refine rw_end ?_
               refine w_ret (post_ret1 rfl rfl ?_)
               have hg_ : goodN n = false := Bool.eq_false_iff.2 (fun h_ => by have h2_ := ((good_iff hS_).1 h_).2; rw [h2_] at cOps; cases cOps)
               exact ⟨by rw [good_of _ hg_]; rfl, (chain (hk28.below (by omega) (chain (chain hb3 hb20) hb23)) hb62)⟩
              ·
               refine w_skip ?_
               refine w_blk ?_
               refine wsr ?_
               refine rv .nilIface ?_
               refine rw_end ?_
               refine w_ret (post_ret1 rfl rfl ?_)
               have hg_ : goodN n = true := (good_iff hS_).2 ⟨by rcases hcc_ with h_ | h_ <;> subst h_ <;> omega, by simpa using cOps⟩
               exact ⟨by rw [good_of _ hg_]; rfl, (chain (hk28.below (by omega) (chain (chain hb3 hb20) hb23)) hb62)⟩
           ·
            have l63 : (16 < ((n.ents.length : Nat) : Int)) := of_decide_eq_true c51
            refine rok c51 ?_
            refine rok c51 ?_
            refine rok c51 ?_
            refine rok c51 ?_
            refine rok c51 ?_
            refine rw_offu rfl rfl rfl rfl rfl ?_
            refine rw_offu rfl rfl rfl rfl rfl ?_
            refine rw_offu rfl rfl rfl rfl rfl ?_
            refine rok c51 ?_
            refine rp c51 (.bool true) ?_
            refine rv (.bool true) ?_
            refine rw_end ?_
            refine w_cond_t rfl rfl rfl ?_
            refine wsr ?_
            refine rz (errT (some 2)) (by simp [go_sem, sEv, sLook, nbeq, i64_w, -List.getD_eq_getElem?_getD, errT]) ?_
            refine rv (errT (some 2)) ?_
            refine rw_end ?_
            refine w_ret (post_ret1 rfl rfl ?_)
            have hg_ : goodN n = false := Bool.eq_false_iff.2 (fun h_ => by obtain ⟨h2_, _⟩ := (good_iff hS_).1 h_; rcases hcc_ with h_ | h_ <;> subst h_ <;> omega)
            exact ⟨by rw [good_of _ hg_]; rfl, (hk28.below (by omega) (chain (chain hb3 hb20) hb23))⟩
          ·
           have l64 : (0 < ((n.ops.length : Nat) : Int)) := of_decide_eq_true c49
           refine rnk c49 ?_
           refine ru (.pointer (some ⟨g1, 0, none⟩)) ?_
           refine rnk c49 ?_
           refine rl (((hk4.on hb20).on hb23).keep hk28 (by omega)) 0 (.int .i64 n.kind) ?_
           refine rnk c49 ?_
           refine rs (.bool (n.kind != 7)) ?_
           refine rnk c47 ?_
           refine rp c49 (.bool (n.kind != 7)) ?_
           refine rp c47 (.bool (n.kind != 7)) ?_
           refine rv (.bool (n.kind != 7)) ?_
           refine rw_end ?_
           refine w_cond rfl rfl (fun c65 => ?_) (fun c65 => ?_)
           ·
            have l66 : ¬ n.kind = 7 := by simpa using c65
            refine wsr ?_
            refine rz (errT (some 2)) (by simp [go_sem, sEv, sLook, nbeq, i64_w, -List.getD_eq_getElem?_getD, errT]) ?_
            refine rv (errT (some 2)) ?_
            refine rw_end ?_
            refine w_ret (post_ret1 rfl rfl ?_)
            have hg_ : goodN n = false := Bool.eq_false_iff.2 (fun h_ => by obtain ⟨h2_, _⟩ := (good_iff hS_).1 h_; rcases hcc_ with h_ | h_ <;> subst h_ <;> omega)
            exact ⟨by rw [good_of _ hg_]; rfl, (hk28.below (by omega) (chain (chain hb3 hb20) hb23))⟩
           ·
            have l67 : n.kind = 7 := by simpa using c65
            refine wsr ?_
            refine ru (.pointer (some ⟨g1, 5, none⟩)) ?_
            refine rl (((hk4.on hb20).on hb23).keep hk28 (by omega)) 5 (.slice A5 n.ents.length c5) ?_
            refine rs (.int .i64 ((n.ents.length : Nat) : Int)) ?_
            refine rs (.bool (decide (16 < ((n.ents.length : Nat) : Int)))) ?_
            refine rv (.bool (decide (16 < ((n.ents.length : Nat) : Int)))) ?_
            rcases bcase (decide (16 < ((n.ents.length : Nat) : Int))) with c68 | c68
            ·
             have l69 : ¬ (16 < ((n.ents.length : Nat) : Int)) := of_decide_eq_false c68
             refine rnk c68 ?_
             refine ru (.pointer (some ⟨g1, 5, none⟩)) ?_
             refine rnk c68 ?_
             refine rl (((hk4.on hb20).on hb23).keep hk28 (by omega)) 5 (.slice A5 n.ents.length c5) ?_
             refine rnk c68 ?_
             refine rs (.int .i64 ((n.ents.length : Nat) : Int)) ?_
             refine rnk c68 ?_
             refine rs (.bool (decide (0 < ((n.ents.length : Nat) : Int)))) ?_
             refine rnk c68 ?_
             refine rv (.bool (decide (0 < ((n.ents.length : Nat) : Int)))) ?_
             rcases bcase (decide (0 < ((n.ents.length : Nat) : Int))) with c70 | c70
             ·
              have l71 : ¬ (0 < ((n.ents.length : Nat) : Int)) := of_decide_eq_false c70
              refine rok c70 ?_
              refine rok c70 ?_
              refine rok c70 ?_
              refine rnk c68 ?_
              refine rp c70 (.bool false) ?_
              refine rp c68 (.bool false) ?_
              refine rv (.bool false) ?_
              refine rw_end ?_
              refine w_cond_f rfl rfl rfl ?_
              refine wsr ?_
              refine ru (.pointer (some ⟨g1, 4, none⟩)) ?_
              refine rl (((hk4.on hb20).on hb23).keep hk28 (by omega)) 4 (.slice A4 n.ops.length c4) ?_
              refine rcl (contains_calls w27 A4 c4 n.ops (Kd.C_below hn4 (hk28.below (by omega) (chain (chain hb3 hb20) hb23))) hc4 (by omega)) ?_
              rintro e_ w72 ⟨rfl, hb73⟩
              refine ⟨_, rfl, ?_⟩
              have hs_w72 := hb73.size
              refine rv (.bool (!(n.ops.all opOk))) ?_
              refine rw_end ?_
              refine w_cond rfl rfl (fun cOps => ?_) (fun cOps => ?_)
              ·
               refine wsr ?_
               refine rz (errT (some 2)) (by simp [go_sem, sEv, sLook, nbeq, i64_w, -List.getD_eq_getElem?_getD, errT]) ?_
               refine rv (errT (some 2)) ?_
               refine rw_end ?_
               refine w_ret (post_ret1 rfl rfl ?_)
               have hg_ : goodN n = false := Bool.eq_false_iff.2 (fun h_ => by have h2_ := ((good_iff hS_).1 h_).2; rw [h2_] at cOps; cases cOps)
               exact ⟨by rw [good_of _ hg_]; rfl, (chain (hk28.below (by omega) (chain (chain hb3 hb20) hb23)) hb73)⟩
              ·
               refine w_skip ?_
               refine w_blk ?_
               refine wsr ?_
               refine rv .nilIface ?_
               refine rw_end ?_
               refine w_ret (post_ret1 rfl rfl ?_)
               have hg_ : goodN n = true := (good_iff hS_).2 ⟨by rcases hcc_ with h_ | h_ <;> subst h_ <;> omega, by simpa using cOps⟩
               exact ⟨by rw [good_of _ hg_]; rfl, (chain (hk28.below (by omega) (chain (chain hb3 hb20) hb23)) hb73)⟩
             ·
              have l74 : (0 < ((n.ents.length : Nat) : Int)) := of_decide_eq_true c70
              refine rnk c70 ?_
              refine ru (.pointer (some ⟨g1, 0, none⟩)) ?_
              refine rnk c70 ?_
              refine rl (((hk4.on hb20).on hb23).keep hk28 (by omega)) 0 (.int .i64 n.kind) ?_
              refine rnk c70 ?_
              refine rs (.bool (n.kind != 8)) ?_
              refine rnk c68 ?_
              refine rp c70 (.bool (n.kind != 8)) ?_
              refine rp c68 (.bool (n.kind != 8)) ?_
              refine rv (.bool (n.kind != 8)) ?_
              refine rw_end ?_
              refine w_cond rfl rfl (fun c75 => ?_) (fun c75 => ?_)
              ·
               have l76 : ¬ n.kind = 8 := by simpa using c75
               refine wsr ?_
               refine rz (errT (some 2)) (by simp [go_sem, sEv, sLook, nbeq, i64_w, -List.getD_eq_getElem?_getD, errT]) ?_
               refine rv (errT (some 2)) ?_
               refine rw_end ?_
               refine w_ret (post_ret1 rfl rfl ?_)
               have hg_ : goodN n = false := Bool.eq_false_iff.2 (fun h_ => by obtain ⟨h2_, _⟩ := (good_iff hS_).1 h_; rcases hcc_ with h_ | h_ <;> subst h_ <;> omega)
               exact ⟨by rw [good_of _ hg_]; rfl, (hk28.below (by omega) (chain (chain hb3 hb20) hb23))⟩
              ·
               have l77 : n.kind = 8 := by simpa using c75
               refine wsr ?_
               refine ru (.pointer (some ⟨g1, 4, none⟩)) ?_
               refine rl (((hk4.on hb20).on hb23).keep hk28 (by omega)) 4 (.slice A4 n.ops.length c4) ?_
               refine rcl (contains_calls w27 A4 c4 n.ops (Kd.C_below hn4 (hk28.below (by omega) (chain (chain hb3 hb20) hb23))) hc4 (by omega)) ?_
               rintro e_ w78 ⟨rfl, hb79⟩
               refine ⟨_, rfl, ?_⟩
               have hs_w78 := hb79.size
               refine rv (.bool (!(n.ops.all opOk))) ?_
               refine rw_end ?_
               refine w_cond rfl rfl (fun cOps => ?_) (fun cOps => ?_)
               ·
                refine wsr ?_
                refine rz (errT (some 2)) (by simp [go_sem, sEv, sLook, nbeq, i64_w, -List.getD_eq_getElem?_getD, errT]) ?_
                refine rv (errT (some 2)) ?_
                refine rw_end ?_
                refine w_ret (post_ret1 rfl rfl ?_)
                have hg_ : goodN n = false := Bool.eq_false_iff.2 (fun h_ => by have h2_ := ((good_iff hS_).1 h_).2; rw [h2_] at cOps; cases cOps)
                exact ⟨by rw [good_of _ hg_]; rfl, (chain (hk28.below (by omega) (chain (chain hb3 hb20) hb23)) hb79)⟩
               ·
                refine w_skip ?_
                refine w_blk ?_
                refine wsr ?_
                refine rv .nilIface ?_
                refine rw_end ?_
                refine w_ret (post_ret1 rfl rfl ?_)
                have hg_ : goodN n = true := (good_iff hS_).2 ⟨by rcases hcc_ with h_ | h_ <;> subst h_ <;> omega, by simpa using cOps⟩
                exact ⟨by rw [good_of _ hg_]; rfl, (chain (hk28.below (by omega) (chain (chain hb3 hb20) hb23)) hb79)⟩
            ·
             have l80 : (16 < ((n.ents.length : Nat) : Int)) := of_decide_eq_true c68
             refine rok c68 ?_
             refine rok c68 ?_
             refine rok c68 ?_
             refine rok c68 ?_
             refine rok c68 ?_
             refine rw_offu rfl rfl rfl rfl rfl ?_
             refine rw_offu rfl rfl rfl rfl rfl ?_
             refine rw_offu rfl rfl rfl rfl rfl ?_
             refine rok c68 ?_
             refine rp c68 (.bool true) ?_
             refine rv (.bool true) ?_
             refine rw_end ?_
             refine w_cond_t rfl rfl rfl ?_
             refine wsr ?_
             refine rz (errT (some 2)) (by simp [go_sem, sEv, sLook, nbeq, i64_w, -List.getD_eq_getElem?_getD, errT]) ?_
             refine rv (errT (some 2)) ?_
             refine rw_end ?_
             refine w_ret (post_ret1 rfl rfl ?_)
             have hg_ : goodN n = false := Bool.eq_false_iff.2 (fun h_ => by obtain ⟨h2_, _⟩ := (good_iff hS_).1 h_; rcases hcc_ with h_ | h_ <;> subst h_ <;> omega)
             exact ⟨by rw [good_of _ hg_]; rfl, (hk28.below (by omega) (chain (chain hb3 hb20) hb23))⟩
         ·
          have l81 : (16 < ((n.ops.length : Nat) : Int)) := of_decide_eq_true c47
          refine rok c47 ?_
          refine rok c47 ?_
          refine rok c47 ?_
          refine rok c47 ?_
          refine rok c47 ?_
          refine rw_offu rfl rfl rfl rfl rfl ?_
          refine rw_offu rfl rfl rfl rfl rfl ?_
          refine rw_offu rfl rfl rfl rfl rfl ?_
          refine rok c47 ?_
          refine rp c47 (.bool true) ?_
          refine rv (.bool true) ?_
          refine rw_end ?_
          refine w_cond_t rfl rfl rfl ?_
          refine wsr ?_
          refine rz (errT (some 2)) (by simp [go_sem, sEv, sLook, nbeq, i64_w, -List.getD_eq_getElem?_getD, errT]) ?_
          refine rv (errT (some 2)) ?_
          refine rw_end ?_
          refine w_ret (post_ret1 rfl rfl ?_)
          have hg_ : goodN n = false := Bool.eq_false_iff.2 (fun h_ => by obtain ⟨h2_, _⟩ := (good_iff hS_).1 h_; rcases hcc_ with h_ | h_ <;> subst h_ <;> omega)
          exact ⟨by rw [good_of _ hg_]; rfl, (hk28.below (by omega) (chain (chain hb3 hb20) hb23))⟩
       ·
        have l82 : (b < ((n.nums.length : Nat) : Int)) := of_decide_eq_true c42
        refine rok c42 ?_
        refine rok c42 ?_
        refine rok c42 ?_
        refine rok c42 ?_
        refine rok c42 ?_
        refine rok c42 ?_
        refine rok c42 ?_
        refine rok c42 ?_
        refine rp c42 (.bool true) ?_
        refine rv (.bool true) ?_
        refine rw_end ?_
        refine w_cond_t rfl rfl rfl ?_
        refine wsr ?_
        refine rz (errT (some 2)) (by simp [go_sem, sEv, sLook, nbeq, i64_w, -List.getD_eq_getElem?_getD, errT]) ?_
        refine rv (errT (some 2)) ?_
        refine rw_end ?_
        refine w_ret (post_ret1 rfl rfl ?_)
        have hg_ : goodN n = false := Bool.eq_false_iff.2 (fun h_ => by obtain ⟨h2_, _⟩ := (good_iff hS_).1 h_; rcases hcc_ with h_ | h_ <;> subst h_ <;> omega)
        exact ⟨by rw [good_of _ hg_]; rfl, (hk28.below (by omega) (chain (chain hb3 hb20) hb23))⟩
      ·
       have l83 : (((n.nums.length : Nat) : Int) < a) := of_decide_eq_true c40
       refine rok c40 ?_
       refine rok c40 ?_
       refine rok c40 ?_
       refine rok c40 ?_
       refine rp c40 (.bool true) ?_
       refine rv (.bool true) ?_
       refine ro true ?_
       refine ro true ?_
       refine ro true ?_
       refine ro true ?_
       refine ro true ?_
       refine ro true ?_
       refine ro true ?_
       refine ro true ?_
       refine rs (.bool true) ?_
       refine rv (.bool true) ?_
       refine rw_end ?_
       refine w_cond_t rfl rfl rfl ?_
       refine wsr ?_
       refine rz (errT (some 2)) (by simp [go_sem, sEv, sLook, nbeq, i64_w, -List.getD_eq_getElem?_getD, errT]) ?_
       refine rv (errT (some 2)) ?_
       refine rw_end ?_
       refine w_ret (post_ret1 rfl rfl ?_)
       have hg_ : goodN n = false := Bool.eq_false_iff.2 (fun h_ => by obtain ⟨h2_, _⟩ := (good_iff hS_).1 h_; rcases hcc_ with h_ | h_ <;> subst h_ <;> omega)
       exact ⟨by rw [good_of _ hg_]; rfl, (hk28.below (by omega) (chain (chain hb3 hb20) hb23))⟩
    ·
     have l84 : (n.tw < 0) := of_decide_eq_true c35
     refine rok c35 ?_
     refine rok c35 ?_
     refine rok c35 ?_
     refine rp c35 (.bool true) ?_
     refine rv (.bool true) ?_
     refine rw_end ?_
     refine w_cond_t rfl rfl rfl ?_
     refine wsr ?_
     refine rz (errT (some 2)) (by simp [go_sem, sEv, sLook, nbeq, i64_w, -List.getD_eq_getElem?_getD, errT]) ?_
     refine rv (errT (some 2)) ?_
     refine rw_end ?_
     refine w_ret (post_ret1 rfl rfl ?_)
     have hg_ : goodN n = false := Bool.eq_false_iff.2 (fun h_ => by obtain ⟨h2_, _⟩ := (good_iff hS_).1 h_; rcases hcc_ with h_ | h_ <;> subst h_ <;> omega)
     exact ⟨by rw [good_of _ hg_]; rfl, (hk28.below (by omega) (chain (chain hb3 hb20) hb23))⟩
   ·
    have l85 : (999 < n.fr) := of_decide_eq_true c33
    refine rok c33 ?_
    refine rok c33 ?_
    refine rok c33 ?_
    refine rp c33 (.bool true) ?_
    refine rv (.bool true) ?_
    refine ro true ?_
    refine ro true ?_
    refine ro true ?_
    refine rs (.bool true) ?_
    refine rv (.bool true) ?_
    refine rw_end ?_
    refine w_cond_t rfl rfl rfl ?_
    refine wsr ?_
    refine rz (errT (some 2)) (by simp [go_sem, sEv, sLook, nbeq, i64_w, -List.getD_eq_getElem?_getD, errT]) ?_
    refine rv (errT (some 2)) ?_
    refine rw_end ?_
    refine w_ret (post_ret1 rfl rfl ?_)
    have hg_ : goodN n = false := Bool.eq_false_iff.2 (fun h_ => by obtain ⟨h2_, _⟩ := (good_iff hS_).1 h_; rcases hcc_ with h_ | h_ <;> subst h_ <;> omega)
    exact ⟨by rw [good_of _ hg_]; rfl, (hk28.below (by omega) (chain (chain hb3 hb20) hb23))⟩
  ·
   have l86 : (n.fr < 0) := of_decide_eq_true c31
   refine rok c31 ?_
   refine rok c31 ?_
   refine rok c31 ?_
   refine rp c31 (.bool true) ?_
   refine rv (.bool true) ?_
   refine ro true ?_
   refine ro true ?_
   refine ro true ?_
   refine rs (.bool true) ?_
   refine rv (.bool true) ?_
   refine ro true ?_
   refine ro true ?_
   refine ro true ?_
   refine rs (.bool true) ?_
   refine rv (.bool true) ?_
   refine rw_end ?_
   refine w_cond_t rfl rfl rfl ?_
   refine wsr ?_
   refine rz (errT (some 2)) (by simp [go_sem, sEv, sLook, nbeq, i64_w, -List.getD_eq_getElem?_getD, errT]) ?_
   refine rv (errT (some 2)) ?_
   refine rw_end ?_
   refine w_ret (post_ret1 rfl rfl ?_)
   have hg_ : goodN n = false := Bool.eq_false_iff.2 (fun h_ => by obtain ⟨h2_, _⟩ := (good_iff hS_).1 h_; rcases hcc_ with h_ | h_ <;> subst h_ <;> omega)
   exact ⟨by rw [good_of _ hg_]; rfl, (hk28.below (by omega) (chain (chain hb3 hb20) hb23))⟩
end Go.Proofs.Ytbbhdohjhipalaa.Ce
end
section
namespace Go.Proofs.Ytbbhdohjhipalaa.Ce
open Go.RowKit Go.Proofs.YtbbhdohjhipalaaW.PrintWords Go.Proofs.YtbbhdohjhipalaaW.PrintLast Go.Proofs.YtbbhdohjhipalaaW.PrintMore
open Go.Proofs.Ytbbhdohjhipalaa.Flow
set_option linter.unusedVariables false
set_option linter.unusedSimpArgs false
set_option maxHeartbeats 4000000 in
theorem notenums_calls (w : World) (n : NT) (A3 : Option Addr) (c3 : Nat) (A4 : Option Addr) (c4 : Nat) (A5 : Option Addr) (c5 : Nat) (hn3 : (Kd.int .i64).C w A3 n.nums.length n.nums) (hc3 : n.nums.length ≤ c3) (hn4 : kOp.C w A4 n.ops.length n.ops) (hc4 : n.ops.length ≤ c4) (hn5 : kEntry.C w A5 n.ents.length n.ents) (hc5 : n.ents.length ≤ c5) (hk3 : n.nums.length ≤ 1000) (hk4 : n.ops.length ≤ 1000) (hk5 : n.ents.length ≤ 1000) :
  Calls Try.prog 29 #[.agg #[.int .i64 n.kind, .int .i64 n.fr, .int .i64 n.tw, .slice A3 n.nums.length c3, .slice A4 n.ops.length c4, .slice A5 n.ents.length c5]] w fun e w' => ∃ A' c', e = .returned (.slice A' (listN n).length c') ∧ OwnK (Kd.int .i64) 3 w' w.heap.size w.heap.size A' (listN n).length c' (listN n) ∧ Below w.heap.size w w' := by
 have hko_ : ∀ j, (opsL (n.ops.take j)).length ≤ 5000 := fun j => by rw [opsL_len, List.length_take]; omega
 have hke_ : ∀ j, (entsL (n.ents.take j)).length ≤ 142000 := fun j => by have q_ := entsL_len (n.ents.take j); rw [List.length_take] at q_; omega
 refine calls_flow Try.func29 rfl 76 rfl (Nat.le_of_ble_eq_true rfl) [(0, .agg #[.int .i64 n.kind, .int .i64 n.fr, .int .i64 n.tw, .slice A3 n.nums.length c3, .slice A4 n.ops.length c4, .slice A5 n.ents.length c5])] ?_ ?_
 ·
  intro t v h; exact args_look rfl t v h
 refine wsr ?_
 refine rw_new (cs := #[.int .i64 n.kind, .int .i64 n.fr, .int .i64 n.tw, .slice A3 n.nums.length c3, .slice A4 n.ops.length c4, .slice A5 n.ents.length c5]) (t := 26) (fun g => .pointer (some ⟨g, 0, none⟩)) rfl rfl rfl rfl (by simp [go_sem, sEv, sLook, nbeq, i64_w, -List.getD_eq_getElem?_getD]) ?_
 intro g1 w2 hg6 hz5 hb3 hk4
 have hs_w2 := hb3.size
 refine rv (.slice none 0 0) ?_
 refine rw_end ?_
 refine wsr ?_
 refine ru (.pointer (some ⟨g1, 0, none⟩)) ?_
 refine rl hk4 0 (.int .i64 n.kind) ?_
 refine ru (.pointer (some ⟨g1, 1, none⟩)) ?_
 refine rl hk4 1 (.int .i64 n.fr) ?_
 refine ru (.pointer (some ⟨g1, 2, none⟩)) ?_
 refine rl hk4 2 (.int .i64 n.tw) ?_
 refine ru (.pointer (some ⟨g1, 3, none⟩)) ?_
 refine rl hk4 3 (.slice A3 n.nums.length c3) ?_
 refine rs (.int .i64 ((n.nums.length : Nat) : Int)) ?_
 refine rw_new (cs := #[.int .i64 n.kind, .int .i64 n.fr, .int .i64 n.tw, .int .i64 ((n.nums.length : Nat) : Int)]) (t := 3) (fun g => .slice (some ⟨g, 0, none⟩) 4 4) rfl rfl rfl rfl (by kernel_rfl) ?_
 intro g7 w8 hg12 hz11 hb9 hk10
 have hs_w8 := hb9.size
 have hk10r : OwnK (Kd.int .i64) 3 w8 w.heap.size g7 (some ⟨g7, 0, none⟩) 4 4 ([n.kind, n.fr, n.tw, ((n.nums.length : Nat) : Int)] : List Int) := scal_own w.heap.size hk10 (by omega) rfl rfl (by simp)
 refine rv (.slice (some ⟨g7, 0, none⟩) 4 4) ?_
 refine rw_end ?_
 refine w_seq ?_
 have oA13 : OwnK (Kd.int .i64) 3 w8 w.heap.size g7 (some ⟨g7, 0, none⟩) 4 4 ([n.kind, n.fr, n.tw, ((n.nums.length : Nat) : Int)] : List Int) := hk10r
 refine w_drawa (M := [0, 0, 2, 7, 0, 16, 48, 112, 255, 511]) (ss := [Is (.slice (some ⟨g7, 0, none⟩) 4 4), Is (.pointer (some ⟨g1, 3, none⟩)), Is (.slice A3 n.nums.length c3), (OwnKSpec (Kd.int .i64) 3 w.heap.size g7 (([n.kind, n.fr, n.tw, ((n.nums.length : Nat) : Int)] : List Int) ++ n.nums)), Is (.pointer (some ⟨g1, 4, none⟩)), Is (.slice A4 n.ops.length c4), Is (.int .i64 ((n.ops.length : Nat) : Int)), SlcSpec w8.heap.size 3 #[.int .i64 ((n.ops.length : Nat) : Int)] 1]) (fun q_ => (Value.slice (some ⟨g7, 0, none⟩) 4 4).ownBlock = some q_) 3 (fun W_ => Below w.heap.size w W_ ∧ OwnK (Kd.int .i64) 3 W_ w.heap.size g7 (some ⟨g7, 0, none⟩) 4 4 ([n.kind, n.fr, n.tw, ((n.nums.length : Nat) : Int)] : List Int)) (fun W_ => Below w.heap.size w W_) 8 rfl (by decide +kernel) (stabx (q := 3) (show StabX _ 3 _ from ⟨stab_is, ⟨stab_is, ⟨stab_is, (stab_cons stab_is (stab_cons stab_is (stab_cons stab_is (stab_cons (stab_slc (fun q_ h_ hs_ => by have q2_ := own_lt (d := (Kd.int .i64)) oA13 hs_; omega)) stab_nil))))⟩⟩⟩)) (fun _ _ hb_ h_ => ⟨chain h_.1 hb_, OwnK.on (d := (Kd.int .i64)) h_.2 hb_⟩) (fun _ _ hb_ h_ => chain h_ hb_) ⟨chain (chain hb3 hb9) (below_drew _), OwnK.on (d := (Kd.int .i64)) oA13 (below_drew _)⟩ ?_
 refine u_is (by kernel_rfl) (.slice (some ⟨g7, 0, none⟩) 4 4) rfl rfl rfl rfl (fun W_ hW_ h1_ F_ => rfl) ?_
 refine u_is (by kernel_rfl) (.pointer (some ⟨g1, 3, none⟩)) rfl rfl rfl rfl (fun W_ hW_ h1_ F_ => by simp [go_sem, sEv, sLook, nbeq, i64_w, -List.getD_eq_getElem?_getD, Try.underlying26]) ?_
 refine u_is (by kernel_rfl) (.slice A3 n.nums.length c3) rfl rfl rfl rfl (fun W_ hW_ h1_ F_ => by have eb_ := (Blk.kept (hk4.on hb9) (drew_kept hW_) (own_ne_blk (d := (Kd.int .i64)) oA13 (hk4.on hb9) (.inr (by decide)))); have e0_ := eb_.cellv (i := 3) (v := (.slice A3 n.nums.length c3 : Value)) rfl; simp [go_sem, sEv, sLook, nbeq, i64_w, -List.getD_eq_getElem?_getD, e0_, Try.underlying22]) ?_
 refine u_app (OwnKSpec (Kd.int .i64) 3 w.heap.size g7 (([n.kind, n.fr, n.tw, ((n.nums.length : Nat) : Int)] : List Int) ++ n.nums)) (by kernel_rfl) rfl rfl rfl rfl (fun W_ hW_ h0_ F_ => own_app_k (d := (Kd.int .i64)) w.heap.size g7 (.tmp 18) (.tmp 20) 22 3 (.int .i64 0) 8 rfl (by kernel_rfl) (by kernel_rfl) rfl (show 0 < 1 by decide) (by decide) (fun _ _ h => h) rfl rfl (by have q_ := h0_.1.size; have q2_ := (drew_kept hW_).1; omega) (by omega) h0_ (Kd.C_below hn3 h0_.1) h0_.1.size (by have q1_ := hko_ n.ops.length; have q2_ := hke_ n.ents.length; simp only [List.take_length] at q1_ q2_; simp only [List.length_append, List.length_cons, List.length_nil]; first | omega | (have q3_ := hko_ j; omega) | (have q4_ := hke_ i; have q5_ := nums_len (n.ents.getD i EL.zero).c; have q6_ := pr_len (n.ents.getD i EL.zero).c.h 65; omega))) ?_
 rintro _ ⟨A14, c15, rfl, hle16⟩
 refine u_is (by kernel_rfl) (.pointer (some ⟨g1, 4, none⟩)) rfl rfl rfl rfl (fun W_ hW_ h1_ F_ => by simp [go_sem, sEv, sLook, nbeq, i64_w, -List.getD_eq_getElem?_getD, Try.underlying26]) ?_
 refine u_is (by kernel_rfl) (.slice A4 n.ops.length c4) rfl rfl rfl rfl (fun W_ hW_ h1_ F_ => by have eb_ := (Blk.kept (hk4.on hb9) (drew_kept hW_) (own_ne_blk (d := (Kd.int .i64)) oA13 (hk4.on hb9) (.inr (by decide)))); have e0_ := eb_.cellv (i := 4) (v := (.slice A4 n.ops.length c4 : Value)) rfl; simp [go_sem, sEv, sLook, nbeq, i64_w, -List.getD_eq_getElem?_getD, e0_, Try.underlying23]) ?_
 refine u_is (by kernel_rfl) (.int .i64 ((n.ops.length : Nat) : Int)) rfl rfl rfl rfl (fun W_ hW_ h1_ F_ => (by simp [go_sem, sEv, sLook, nbeq, i64_w, -List.getD_eq_getElem?_getD])) ?_
 refine u_val (by kernel_rfl) (SlcSpec w8.heap.size 3 #[.int .i64 ((n.ops.length : Nat) : Int)] 1) rfl rfl rfl rfl (fun W_ hW_ h1_ F_ => slc_gives _ _ _ _ (drew_kept hW_).1 (by kernel_rfl)) ?_
 rintro _ ⟨g18, rfl⟩
 refine u_tail ?_
 intro w21 hK22_ h24 F23
 have hK22 := drew_kept hK22_
 have hs_w21 := hK22.1
 have hgs_w21 := h24.size
 have hk25 := Blk.kept (hk4.on hb9) hK22 (own_ne_blk (d := (Kd.int .i64)) oA13 (hk4.on hb9) (.inr (by decide)))
 have hO17 : OwnK (Kd.int .i64) 3 w21 w.heap.size g7 A14 (([n.kind, n.fr, n.tw, ((n.nums.length : Nat) : Int)] : List Int) ++ n.nums).length c15 (([n.kind, n.fr, n.tw, ((n.nums.length : Nat) : Int)] : List Int) ++ n.nums) := ownk_fact (F23 3 (OwnKSpec (Kd.int .i64) 3 w.heap.size g7 (([n.kind, n.fr, n.tw, ((n.nums.length : Nat) : Int)] : List Int) ++ n.nums)) (.slice A14 (([n.kind, n.fr, n.tw, ((n.nums.length : Nat) : Int)] : List Int) ++ n.nums).length c15) (by kernel_rfl))
 obtain ⟨hge20, hk19⟩ := slc_fact (F23 7 _ _ rfl)
 have hlt_g18 := hk19.lt
 clear F23
 have hk19r : OwnK (Kd.int .i64) 3 w21 w.heap.size g18 (some ⟨g18, 0, none⟩) 1 1 ([((n.ops.length : Nat) : Int)] : List Int) := scal_own w.heap.size hk19 (by omega) rfl rfl (by simp)
 have oA32 : OwnK (Kd.int .i64) 3 w21 w.heap.size g7 A14 ((([n.kind, n.fr, n.tw, ((n.nums.length : Nat) : Int)] : List Int) ++ n.nums).length) c15 (([n.kind, n.fr, n.tw, ((n.nums.length : Nat) : Int)] : List Int) ++ n.nums) := hO17
 refine rw_append_kd (d := (Kd.int .i64)) w.heap.size rfl rfl rfl (.tmp 21) (.tmp 25) rfl rfl 22 3 (.int .i64 0) 8 rfl (by kernel_rfl) (by kernel_rfl) rfl (show 0 < 1 by decide) (by decide) (fun _ _ h => h) (b := g7) rfl rfl (by omega) oA32 (OwnK.Cn (d := (Kd.int .i64)) hk19r) h24 (by omega) (by have q1_ := hko_ n.ops.length; have q2_ := hke_ n.ents.length; simp only [List.take_length] at q1_ q2_; simp only [List.length_append, List.length_cons, List.length_nil]; first | omega | (have q3_ := hko_ j; omega) | (have q4_ := hke_ i; have q5_ := nums_len (n.ents.getD i EL.zero).c; have q6_ := pr_len (n.ents.getD i EL.zero).c.h 65; omega)) ?_
 intro A26 c27 w28 hO29 hB30 hG31
 have hs_w28 := hB30.size
 have hgs_w28 := hG31.size
 have hk34 := OwnK.blk_grown hk25 oA32 (.inr (by decide)) hG31
 refine rv (.slice A26 (((([n.kind, n.fr, n.tw, ((n.nums.length : Nat) : Int)] : List Int) ++ n.nums) ++ ([((n.ops.length : Nat) : Int)] : List Int)).length) c27) ?_
 refine rw_end ?_
 refine w_seq ?_
 refine wsr ?_
 refine ru (.pointer (some ⟨g1, 4, none⟩)) ?_
 refine rl hk34 4 (.slice A4 n.ops.length c4) ?_
 refine rs (.int .i64 ((n.ops.length : Nat) : Int)) ?_
 refine rv (.int .i64 0) ?_
 refine rw_end ?_
 refine w_block ?_
 have e35 : ((([n.kind, n.fr, n.tw, ((n.nums.length : Nat) : Int)] : List Int) ++ n.nums) ++ ([((n.ops.length : Nat) : Int)] : List Int)) = ((([n.kind, n.fr, n.tw, (n.nums.length : Int)] ++ n.nums) ++ [(n.ops.length : Int)]) ++ opsL (n.ops.take 0)) := by (unfold opsL; simp)
 have hO36 : OwnK (Kd.int .i64) 3 w28 w.heap.size g7 A26 ((([n.kind, n.fr, n.tw, (n.nums.length : Int)] ++ n.nums) ++ [(n.ops.length : Int)]) ++ opsL (n.ops.take 0)).length c27 ((([n.kind, n.fr, n.tw, (n.nums.length : Int)] ++ n.nums) ++ [(n.ops.length : Int)]) ++ opsL (n.ops.take 0)) := by rw [← e35]; exact OwnK.full hO29
 have en37 : ((([n.kind, n.fr, n.tw, ((n.nums.length : Nat) : Int)] : List Int) ++ n.nums) ++ ([((n.ops.length : Nat) : Int)] : List Int)).length = ((([n.kind, n.fr, n.tw, (n.nums.length : Int)] ++ n.nums) ++ [(n.ops.length : Int)]) ++ opsL (n.ops.take 0)).length := by rw [← e35] <;> exact OwnK.len (d := (Kd.int .i64)) hO29
 refine w_loop (fun m_ G W_ => ∃ (j : Nat) (A3_ : Option Addr) (c3_ : Nat), j + m_ = n.ops.length ∧ Below w.heap.size w W_ ∧ OwnK (Kd.int .i64) 3 W_ w.heap.size w.heap.size A3_ ((([n.kind, n.fr, n.tw, (n.nums.length : Int)] ++ n.nums) ++ [(n.ops.length : Int)]) ++ opsL (n.ops.take j)).length c3_ ((([n.kind, n.fr, n.tw, (n.nums.length : Int)] ++ n.nums) ++ [(n.ops.length : Int)]) ++ opsL (n.ops.take j)) ∧ (Blk W_ g1 26 #[.int .i64 n.kind, .int .i64 n.fr, .int .i64 n.tw, .slice A3 n.nums.length c3, .slice A4 n.ops.length c4, .slice A5 n.ents.length c5]) ∧ G = [(1, .pointer (some ⟨g1, 0, none⟩)), (3, .slice A3_ (((([n.kind, n.fr, n.tw, (n.nums.length : Int)] ++ n.nums) ++ [(n.ops.length : Int)]) ++ opsL (n.ops.take j)).length) c3_), (28, .slice A4 n.ops.length c4), (29, .int .i64 ((n.ops.length : Nat) : Int)), (30, .int .i64 ((j : Nat) : Int))]) n.ops.length [(1, .pointer (some ⟨g1, 0, none⟩)), (3, .slice A26 (((([n.kind, n.fr, n.tw, (n.nums.length : Int)] ++ n.nums) ++ [(n.ops.length : Int)]) ++ opsL (n.ops.take 0)).length) c27), (28, .slice A4 n.ops.length c4), (29, .int .i64 ((n.ops.length : Nat) : Int)), (30, .int .i64 0)] ⟨0, A26, c27, by omega, hB30, (OwnK.mono (d := (Kd.int .i64)) hO36 (by omega)), hk34, rfl⟩ ⟨rfl, (by first | rfl | (rw [← en37]; rfl)), rfl, rfl, rfl, trivial⟩ ?_
 rintro m_ G w_L38 ⟨j, A3_, c3_, hp39, hB_L38, hO3_, hf40, rfl⟩
 have hs_w_L38 := hB_L38.size
 have hltb_ := hf40.lt
 refine wsr ?_
 refine rs (.bool (decide (((j : Nat) : Int) < ((n.ops.length : Nat) : Int)))) ?_
 refine rw_end ?_
 refine w_seq ?_
 refine w_cond rfl rfl (fun cJ => ?_) (fun cJ => ?_)
 ·
  have l41 : (((j : Nat) : Int) < ((n.ops.length : Nat) : Int)) := of_decide_eq_true cJ
  refine w_skip ?_
  refine w_seq ?_
  refine w_block ?_
  refine wsr ?_
  obtain ⟨ad42, hA43, hc44⟩ := flat_at (Kd.C_below hn4 hB_L38) (0, 0, 0, 0, 0) j (by first | omega | decide)
  subst hA43
  have he45 : w_L38.cell? (ad42.add (j * 5)) = some (.int .i64 ((n.ops.getD j (0, 0, 0, 0, 0)).1)) := cell_0 (hc44 0 _ rfl)
  have he46 : w_L38.cell? ⟨(ad42.add (j * 5)).block, (ad42.add (j * 5)).off + 1, none⟩ = some (.int .i64 ((n.ops.getD j (0, 0, 0, 0, 0)).2.1)) := cell_j (hc44 1 _ rfl)
  have he47 : w_L38.cell? ⟨(ad42.add (j * 5)).block, (ad42.add (j * 5)).off + 2, none⟩ = some (.int .i64 ((n.ops.getD j (0, 0, 0, 0, 0)).2.2.1)) := cell_j (hc44 2 _ rfl)
  have he48 : w_L38.cell? ⟨(ad42.add (j * 5)).block, (ad42.add (j * 5)).off + 3, none⟩ = some (.int .i64 ((n.ops.getD j (0, 0, 0, 0, 0)).2.2.2.1)) := cell_j (hc44 3 _ rfl)
  have he49 : w_L38.cell? ⟨(ad42.add (j * 5)).block, (ad42.add (j * 5)).off + 4, none⟩ = some (.int .i64 ((n.ops.getD j (0, 0, 0, 0, 0)).2.2.2.2)) := cell_j (hc44 4 _ rfl)
  refine rz (.pointer (some (ad42.add (j * 5)))) (run_as (run_at_k (P := Try.prog) (e := 73) (sz := 5) (by kernel_rfl) (by kernel_rfl) j (by first | omega | decide) _)) ?_
  refine rz (.agg #[.int .i64 ((n.ops.getD j (0, 0, 0, 0, 0)).1), .int .i64 ((n.ops.getD j (0, 0, 0, 0, 0)).2.1), .int .i64 ((n.ops.getD j (0, 0, 0, 0, 0)).2.2.1), .int .i64 ((n.ops.getD j (0, 0, 0, 0, 0)).2.2.2.1), .int .i64 ((n.ops.getD j (0, 0, 0, 0, 0)).2.2.2.2)]) (by have e0_ := cellOn he45 (Below.refl _ _); have e1_ := cellOn he46 (Below.refl _ _); have e2_ := cellOn he47 (Below.refl _ _); have e3_ := cellOn he48 (Below.refl _ _); have e4_ := cellOn he49 (Below.refl _ _); simp [go_sem, sEv, sLook, nbeq, i64_w, -List.getD_eq_getElem?_getD, e0_, e1_, e2_, e3_, e4_, Try.underlying73]) ?_
  refine rw_new (cs := #[.int .i64 0, .int .i64 0, .int .i64 0, .int .i64 0, .int .i64 0]) (t := 73) (fun g => .pointer (some ⟨g, 0, none⟩)) rfl rfl rfl rfl (by kernel_rfl) ?_
  intro g50 w51 hg55 hz54 hb52 hk53
  have hs_w51 := hb52.size
  have hb59 := hk53
  refine rsa hb59 [.int .i64 ((n.ops.getD j (0, 0, 0, 0, 0)).1), .int .i64 ((n.ops.getD j (0, 0, 0, 0, 0)).2.1), .int .i64 ((n.ops.getD j (0, 0, 0, 0, 0)).2.2.1), .int .i64 ((n.ops.getD j (0, 0, 0, 0, 0)).2.2.2.1), .int .i64 ((n.ops.getD j (0, 0, 0, 0, 0)).2.2.2.2)] ?_
  intro w56 hk57 hk58
  have hs_w56 := hk57.size
  refine rw_end ?_
  refine w_region ?_
  refine rv (.slice A3_ (((([n.kind, n.fr, n.tw, (n.nums.length : Int)] ++ n.nums) ++ [(n.ops.length : Int)]) ++ opsL (n.ops.take j)).length) c3_) ?_
  refine ru (.pointer (some ⟨g50, 0, none⟩)) ?_
  refine rl hk58 0 (.int .i64 ((n.ops.getD j (0, 0, 0, 0, 0)).1)) ?_
  refine ru (.pointer (some ⟨g50, 1, none⟩)) ?_
  refine rl hk58 1 (.int .i64 ((n.ops.getD j (0, 0, 0, 0, 0)).2.1)) ?_
  refine ru (.pointer (some ⟨g50, 2, none⟩)) ?_
  refine rl hk58 2 (.int .i64 ((n.ops.getD j (0, 0, 0, 0, 0)).2.2.1)) ?_
  refine ru (.pointer (some ⟨g50, 3, none⟩)) ?_
  refine rl hk58 3 (.int .i64 ((n.ops.getD j (0, 0, 0, 0, 0)).2.2.2.1)) ?_
  refine ru (.pointer (some ⟨g50, 4, none⟩)) ?_
  refine rl hk58 4 (.int .i64 ((n.ops.getD j (0, 0, 0, 0, 0)).2.2.2.2)) ?_
  refine rw_new (cs := #[.int .i64 ((n.ops.getD j (0, 0, 0, 0, 0)).1), .int .i64 ((n.ops.getD j (0, 0, 0, 0, 0)).2.1), .int .i64 ((n.ops.getD j (0, 0, 0, 0, 0)).2.2.1), .int .i64 ((n.ops.getD j (0, 0, 0, 0, 0)).2.2.2.1), .int .i64 ((n.ops.getD j (0, 0, 0, 0, 0)).2.2.2.2)]) (t := 3) (fun g => .slice (some ⟨g, 0, none⟩) 5 5) rfl rfl rfl rfl (by kernel_rfl) ?_
  intro g60 w61 hg65 hz64 hb62 hk63
  have hs_w61 := hb62.size
  have hk63r : OwnK (Kd.int .i64) 3 w61 w.heap.size g60 (some ⟨g60, 0, none⟩) 5 5 ([(n.ops.getD j (0, 0, 0, 0, 0)).1, (n.ops.getD j (0, 0, 0, 0, 0)).2.1, (n.ops.getD j (0, 0, 0, 0, 0)).2.2.1, (n.ops.getD j (0, 0, 0, 0, 0)).2.2.2.1, (n.ops.getD j (0, 0, 0, 0, 0)).2.2.2.2] : List Int) := scal_own w.heap.size hk63 (by omega) rfl rfl (by simp)
  have oA72 : OwnK (Kd.int .i64) 3 w61 w.heap.size w.heap.size A3_ (((([n.kind, n.fr, n.tw, (n.nums.length : Int)] ++ n.nums) ++ [(n.ops.length : Int)]) ++ opsL (n.ops.take j)).length) c3_ ((([n.kind, n.fr, n.tw, (n.nums.length : Int)] ++ n.nums) ++ [(n.ops.length : Int)]) ++ opsL (n.ops.take j)) := (OwnK.on (d := (Kd.int .i64)) (own_keep (d := (Kd.int .i64)) (OwnK.on (d := (Kd.int .i64)) hO3_ hb52) hk53 (by decide) hk57) hb62)
  refine rw_append_kd (d := (Kd.int .i64)) w.heap.size rfl rfl rfl (.tmp 34) (.tmp 45) rfl rfl 22 3 (.int .i64 0) 8 rfl (by kernel_rfl) (by kernel_rfl) rfl (show 0 < 1 by decide) (by decide) (fun _ _ h => h) (b := w.heap.size) rfl rfl (by omega) oA72 (OwnK.Cn (d := (Kd.int .i64)) hk63r) (chain (hk57.below (by omega) (chain hB_L38 hb52)) hb62) (by omega) (by have q1_ := hko_ n.ops.length; have q2_ := hke_ n.ents.length; simp only [List.take_length] at q1_ q2_; simp only [List.length_append, List.length_cons, List.length_nil]; first | omega | (have q3_ := hko_ j; omega) | (have q4_ := hke_ i; have q5_ := nums_len (n.ents.getD i EL.zero).c; have q6_ := pr_len (n.ents.getD i EL.zero).c.h 65; omega)) ?_
  intro A66 c67 w68 hO69 hB70 hG71
  have hs_w68 := hB70.size
  have hgs_w68 := hG71.size
  have hk74 := OwnK.blk_grown (((hf40.on hb52).keep hk57 (by omega)).on hb62) oA72 (.inr (by decide)) hG71
  have hk75 := OwnK.blk_grown (hk58.on hb62) oA72 (.inr (by decide)) hG71
  refine rv (.slice A66 ((((([n.kind, n.fr, n.tw, (n.nums.length : Int)] ++ n.nums) ++ [(n.ops.length : Int)]) ++ opsL (n.ops.take j)) ++ ([(n.ops.getD j (0, 0, 0, 0, 0)).1, (n.ops.getD j (0, 0, 0, 0, 0)).2.1, (n.ops.getD j (0, 0, 0, 0, 0)).2.2.1, (n.ops.getD j (0, 0, 0, 0, 0)).2.2.2.1, (n.ops.getD j (0, 0, 0, 0, 0)).2.2.2.2] : List Int)).length) c67) ?_
  refine rw_end ?_
  refine w_blk ?_
  refine w_region ?_
  refine rw1 (.int .i64 ((j + 1 : Nat) : Int)) ?_
  refine rv (.int .i64 ((j + 1 : Nat) : Int)) ?_
  refine rw_end ?_
  have e76 : (((([n.kind, n.fr, n.tw, (n.nums.length : Int)] ++ n.nums) ++ [(n.ops.length : Int)]) ++ opsL (n.ops.take j)) ++ ([(n.ops.getD j (0, 0, 0, 0, 0)).1, (n.ops.getD j (0, 0, 0, 0, 0)).2.1, (n.ops.getD j (0, 0, 0, 0, 0)).2.2.1, (n.ops.getD j (0, 0, 0, 0, 0)).2.2.2.1, (n.ops.getD j (0, 0, 0, 0, 0)).2.2.2.2] : List Int)) = ((([n.kind, n.fr, n.tw, (n.nums.length : Int)] ++ n.nums) ++ [(n.ops.length : Int)]) ++ opsL (n.ops.take (j + 1))) := by (unfold opsL; rw [flat_snoc opL n.ops j (0, 0, 0, 0, 0) (by omega)]; simp only [List.append_assoc]; rfl)
  have hO77 : OwnK (Kd.int .i64) 3 w68 w.heap.size w.heap.size A66 ((([n.kind, n.fr, n.tw, (n.nums.length : Int)] ++ n.nums) ++ [(n.ops.length : Int)]) ++ opsL (n.ops.take (j + 1))).length c67 ((([n.kind, n.fr, n.tw, (n.nums.length : Int)] ++ n.nums) ++ [(n.ops.length : Int)]) ++ opsL (n.ops.take (j + 1))) := by rw [← e76]; exact OwnK.full hO69
  have en78 : (((([n.kind, n.fr, n.tw, (n.nums.length : Int)] ++ n.nums) ++ [(n.ops.length : Int)]) ++ opsL (n.ops.take j)) ++ ([(n.ops.getD j (0, 0, 0, 0, 0)).1, (n.ops.getD j (0, 0, 0, 0, 0)).2.1, (n.ops.getD j (0, 0, 0, 0, 0)).2.2.1, (n.ops.getD j (0, 0, 0, 0, 0)).2.2.2.1, (n.ops.getD j (0, 0, 0, 0, 0)).2.2.2.2] : List Int)).length = ((([n.kind, n.fr, n.tw, (n.nums.length : Int)] ++ n.nums) ++ [(n.ops.length : Int)]) ++ opsL (n.ops.take (j + 1))).length := by rw [← e76] <;> exact OwnK.len (d := (Kd.int .i64)) hO69
  exact w_back (m_ - 1) [(1, .pointer (some ⟨g1, 0, none⟩)), (3, .slice A66 (((([n.kind, n.fr, n.tw, (n.nums.length : Int)] ++ n.nums) ++ [(n.ops.length : Int)]) ++ opsL (n.ops.take (j + 1))).length) c67), (28, .slice (some ad42) n.ops.length c4), (29, .int .i64 ((n.ops.length : Nat) : Int)), (30, .int .i64 ((j + 1 : Nat) : Int))] (by omega) ⟨rfl, (by first | rfl | (rw [← en78]; rfl)), rfl, rfl, rfl, trivial⟩ ⟨(j + 1), A66, c67, by omega, hB70, (OwnK.mono (d := (Kd.int .i64)) hO77 (by omega)), hk74, rfl⟩
 ·
  have l79 : ¬ (((j : Nat) : Int) < ((n.ops.length : Nat) : Int)) := of_decide_eq_false cJ
  refine w_exit rfl ?_
  refine wsr ?_
  refine rv (.slice A3_ (((([n.kind, n.fr, n.tw, (n.nums.length : Int)] ++ n.nums) ++ [(n.ops.length : Int)]) ++ opsL (n.ops.take j)).length) c3_) ?_
  refine ru (.pointer (some ⟨g1, 5, none⟩)) ?_
  refine rl hf40 5 (.slice A5 n.ents.length c5) ?_
  refine rs (.int .i64 ((n.ents.length : Nat) : Int)) ?_
  refine rw_new (cs := #[.int .i64 ((n.ents.length : Nat) : Int)]) (t := 3) (fun g => .slice (some ⟨g, 0, none⟩) 1 1) rfl rfl rfl rfl (by kernel_rfl) ?_
  intro g80 w81 hg85 hz84 hb82 hk83
  have hs_w81 := hb82.size
  have hk83r : OwnK (Kd.int .i64) 3 w81 w.heap.size g80 (some ⟨g80, 0, none⟩) 1 1 ([((n.ents.length : Nat) : Int)] : List Int) := scal_own w.heap.size hk83 (by omega) rfl rfl (by simp)
  have oA92 : OwnK (Kd.int .i64) 3 w81 w.heap.size w.heap.size A3_ (((([n.kind, n.fr, n.tw, (n.nums.length : Int)] ++ n.nums) ++ [(n.ops.length : Int)]) ++ opsL (n.ops.take j)).length) c3_ ((([n.kind, n.fr, n.tw, (n.nums.length : Int)] ++ n.nums) ++ [(n.ops.length : Int)]) ++ opsL (n.ops.take j)) := (OwnK.on (d := (Kd.int .i64)) hO3_ hb82)
  refine rw_append_kd (d := (Kd.int .i64)) w.heap.size rfl rfl rfl (.tmp 48) (.tmp 52) rfl rfl 22 3 (.int .i64 0) 8 rfl (by kernel_rfl) (by kernel_rfl) rfl (show 0 < 1 by decide) (by decide) (fun _ _ h => h) (b := w.heap.size) rfl rfl (by omega) oA92 (OwnK.Cn (d := (Kd.int .i64)) hk83r) (chain hB_L38 hb82) (by omega) (by have q1_ := hko_ n.ops.length; have q2_ := hke_ n.ents.length; simp only [List.take_length] at q1_ q2_; simp only [List.length_append, List.length_cons, List.length_nil]; first | omega | (have q3_ := hko_ j; omega) | (have q4_ := hke_ i; have q5_ := nums_len (n.ents.getD i EL.zero).c; have q6_ := pr_len (n.ents.getD i EL.zero).c.h 65; omega)) ?_
  intro A86 c87 w88 hO89 hB90 hG91
  have hs_w88 := hB90.size
  have hgs_w88 := hG91.size
  have hk94 := OwnK.blk_grown (hf40.on hb82) oA92 (.inr (by decide)) hG91
  refine rv (.slice A86 ((((([n.kind, n.fr, n.tw, (n.nums.length : Int)] ++ n.nums) ++ [(n.ops.length : Int)]) ++ opsL (n.ops.take j)) ++ ([((n.ents.length : Nat) : Int)] : List Int)).length) c87) ?_
  refine rw_end ?_
  refine w_seq ?_
  refine wsr ?_
  refine ru (.pointer (some ⟨g1, 5, none⟩)) ?_
  refine rl hk94 5 (.slice A5 n.ents.length c5) ?_
  refine rs (.int .i64 ((n.ents.length : Nat) : Int)) ?_
  refine rv (.int .i64 0) ?_
  refine rw_end ?_
  refine w_block ?_
  have e95 : (((([n.kind, n.fr, n.tw, (n.nums.length : Int)] ++ n.nums) ++ [(n.ops.length : Int)]) ++ opsL (n.ops.take j)) ++ ([((n.ents.length : Nat) : Int)] : List Int)) = ((((([n.kind, n.fr, n.tw, (n.nums.length : Int)] ++ n.nums) ++ [(n.ops.length : Int)]) ++ opsL n.ops) ++ [(n.ents.length : Int)]) ++ entsL (n.ents.take 0)) := by (unfold entsL; rw [List.take_of_length_le (by omega)]; simp)
  have hO96 : OwnK (Kd.int .i64) 3 w88 w.heap.size w.heap.size A86 ((((([n.kind, n.fr, n.tw, (n.nums.length : Int)] ++ n.nums) ++ [(n.ops.length : Int)]) ++ opsL n.ops) ++ [(n.ents.length : Int)]) ++ entsL (n.ents.take 0)).length c87 ((((([n.kind, n.fr, n.tw, (n.nums.length : Int)] ++ n.nums) ++ [(n.ops.length : Int)]) ++ opsL n.ops) ++ [(n.ents.length : Int)]) ++ entsL (n.ents.take 0)) := by rw [← e95]; exact OwnK.full hO89
  have en97 : (((([n.kind, n.fr, n.tw, (n.nums.length : Int)] ++ n.nums) ++ [(n.ops.length : Int)]) ++ opsL (n.ops.take j)) ++ ([((n.ents.length : Nat) : Int)] : List Int)).length = ((((([n.kind, n.fr, n.tw, (n.nums.length : Int)] ++ n.nums) ++ [(n.ops.length : Int)]) ++ opsL n.ops) ++ [(n.ents.length : Int)]) ++ entsL (n.ents.take 0)).length := by rw [← e95] <;> exact OwnK.len (d := (Kd.int .i64)) hO89
  refine w_loop (fun m_ G W_ => ∃ (i : Nat) (A3_ : Option Addr) (c3_ : Nat), i + m_ = n.ents.length ∧ Below w.heap.size w W_ ∧ OwnK (Kd.int .i64) 3 W_ w.heap.size w.heap.size A3_ ((((([n.kind, n.fr, n.tw, (n.nums.length : Int)] ++ n.nums) ++ [(n.ops.length : Int)]) ++ opsL n.ops) ++ [(n.ents.length : Int)]) ++ entsL (n.ents.take i)).length c3_ ((((([n.kind, n.fr, n.tw, (n.nums.length : Int)] ++ n.nums) ++ [(n.ops.length : Int)]) ++ opsL n.ops) ++ [(n.ents.length : Int)]) ++ entsL (n.ents.take i)) ∧ G = [(3, .slice A3_ (((((([n.kind, n.fr, n.tw, (n.nums.length : Int)] ++ n.nums) ++ [(n.ops.length : Int)]) ++ opsL n.ops) ++ [(n.ents.length : Int)]) ++ entsL (n.ents.take i)).length) c3_), (55, .slice A5 n.ents.length c5), (56, .int .i64 ((n.ents.length : Nat) : Int)), (57, .int .i64 ((i : Nat) : Int))]) n.ents.length [(3, .slice A86 (((((([n.kind, n.fr, n.tw, (n.nums.length : Int)] ++ n.nums) ++ [(n.ops.length : Int)]) ++ opsL n.ops) ++ [(n.ents.length : Int)]) ++ entsL (n.ents.take 0)).length) c87), (55, .slice A5 n.ents.length c5), (56, .int .i64 ((n.ents.length : Nat) : Int)), (57, .int .i64 0)] ⟨0, A86, c87, by omega, hB90, (OwnK.mono (d := (Kd.int .i64)) hO96 (by omega)), rfl⟩ ⟨(by first | rfl | (rw [← en97]; rfl)), rfl, rfl, rfl, trivial⟩ ?_
  rintro m_ G w_L98 ⟨i, A3_, c3_, hp99, hB_L98, hO3_, rfl⟩
  have hs_w_L98 := hB_L98.size
  refine wsr ?_
  refine rs (.bool (decide (((i : Nat) : Int) < ((n.ents.length : Nat) : Int)))) ?_
  refine rw_end ?_
  refine w_seq ?_
  refine w_cond rfl rfl (fun cI => ?_) (fun cI => ?_)
  ·
   have l100 : (((i : Nat) : Int) < ((n.ents.length : Nat) : Int)) := of_decide_eq_true cI
   refine w_skip ?_
   refine w_seq ?_
   refine w_block ?_
   refine wsr ?_
   obtain ⟨ad101, hA102, hc103⟩ := flat_at (Kd.C_below hn5 hB_L98) EL.zero i (by first | omega | decide)
   subst hA102
   refine rz (.pointer (some (ad101.add (i * 76)))) (run_as (run_at_k (P := Try.prog) (e := 83) (sz := 76) (by kernel_rfl) (by kernel_rfl) i (by first | omega | decide) _)) ?_
   refine rz (.agg (earr (n.ents.getD i EL.zero))) (run_as (load_eel (x := (n.ents.getD i EL.zero)) (fun j u hj => cellOn (hc103 j u hj) (Below.refl _ _)))) ?_
   refine rw_new (cs := earr EL.zero) (t := 83) (fun g => .pointer (some ⟨g, 0, none⟩)) rfl rfl rfl rfl (by kernel_rfl) ?_
   intro g104 w105 hg109 hz108 hb106 hk107
   have hs_w105 := hb106.size
   refine rw_seg (g := g104) (off := 0) (ty := 83) (p := .tmp 7) (x := .tmp 60) (v := .agg (earr (n.ents.getD i EL.zero))) (cs' := earr (n.ents.getD i EL.zero)) rfl rfl rfl rfl rfl rfl hk107 (by show (sizeOf 83).run _ _ = .ok (earr _).size _; rw [earr_size]; kernel_rfl) (Nat.le_of_eq (by rw [Nat.zero_add]; exact (earr_size _).trans (earr_size _).symm)) (encE_one _) (seg_eall EL.zero (n.ents.getD i EL.zero)) ?_
   intro w110 hk111 hb112
   have hs_w110 := hk111.size
   refine rw_end ?_
   have oA113 : OwnK (Kd.int .i64) 3 w110 w.heap.size w.heap.size A3_ (((((([n.kind, n.fr, n.tw, (n.nums.length : Int)] ++ n.nums) ++ [(n.ops.length : Int)]) ++ opsL n.ops) ++ [(n.ents.length : Int)]) ++ entsL (n.ents.take i)).length) c3_ ((((([n.kind, n.fr, n.tw, (n.nums.length : Int)] ++ n.nums) ++ [(n.ops.length : Int)]) ++ opsL n.ops) ++ [(n.ents.length : Int)]) ++ entsL (n.ents.take i)) := (own_keep (d := (Kd.int .i64)) (OwnK.on (d := (Kd.int .i64)) hO3_ hb106) hk107 (by decide) hk111)
   refine w_drawa (M := [0, 0, 2, 6, 0, 16, 48, 126, 255, 0, 512, 2047, 4095, 8191]) (ss := [Is (.slice A3_ (((((([n.kind, n.fr, n.tw, (n.nums.length : Int)] ++ n.nums) ++ [(n.ops.length : Int)]) ++ opsL n.ops) ++ [(n.ents.length : Int)]) ++ entsL (n.ents.take i)).length) c3_), Is (.pointer (some ⟨g104, 0, none⟩)), Is (.pointer (some ⟨g104, 0, none⟩)), Is (.int .i64 ((n.ents.getD i EL.zero).win)), Is (.pointer (some ⟨g104, 0, none⟩)), Is (.pointer (some ⟨g104, 1, none⟩)), Is (.int .i64 ((n.ents.getD i EL.zero).key)), SlcSpec w110.heap.size 3 #[.int .i64 ((n.ents.getD i EL.zero).win), .int .i64 ((n.ents.getD i EL.zero).key)] 2, (OwnKSpec (Kd.int .i64) 3 w.heap.size w.heap.size (((((([n.kind, n.fr, n.tw, (n.nums.length : Int)] ++ n.nums) ++ [(n.ops.length : Int)]) ++ opsL n.ops) ++ [(n.ents.length : Int)]) ++ entsL (n.ents.take i)) ++ ([(n.ents.getD i EL.zero).win, (n.ents.getD i EL.zero).key] : List Int))), Is (.pointer (some ⟨g104, 2, none⟩)), Is (.agg (carr ((n.ents.getD i EL.zero).c)))]) (fun q_ => (Value.slice A3_ (((((([n.kind, n.fr, n.tw, (n.nums.length : Int)] ++ n.nums) ++ [(n.ops.length : Int)]) ++ opsL n.ops) ++ [(n.ents.length : Int)]) ++ entsL (n.ents.take i)).length) c3_).ownBlock = some q_) 8 (fun W_ => Below w.heap.size w W_ ∧ OwnK (Kd.int .i64) 3 W_ w.heap.size w.heap.size A3_ (((((([n.kind, n.fr, n.tw, (n.nums.length : Int)] ++ n.nums) ++ [(n.ops.length : Int)]) ++ opsL n.ops) ++ [(n.ents.length : Int)]) ++ entsL (n.ents.take i)).length) c3_ ((((([n.kind, n.fr, n.tw, (n.nums.length : Int)] ++ n.nums) ++ [(n.ops.length : Int)]) ++ opsL n.ops) ++ [(n.ents.length : Int)]) ++ entsL (n.ents.take i))) (fun W_ => Below w.heap.size w W_) 11 rfl (by decide +kernel) (stabx (q := 8) (show StabX _ 8 _ from ⟨stab_is, ⟨stab_is, ⟨stab_is, ⟨stab_is, ⟨stab_is, ⟨stab_is, ⟨stab_is, ⟨(stab_slc (fun q_ h_ hs_ => by have q2_ := own_lt (d := (Kd.int .i64)) oA113 hs_; omega)), (stab_cons stab_is (stab_cons stab_is stab_nil))⟩⟩⟩⟩⟩⟩⟩⟩)) (fun _ _ hb_ h_ => ⟨chain h_.1 hb_, OwnK.on (d := (Kd.int .i64)) h_.2 hb_⟩) (fun _ _ hb_ h_ => chain h_ hb_) ⟨chain (hk111.below (by omega) (chain hB_L98 hb106)) (below_drew _), OwnK.on (d := (Kd.int .i64)) oA113 (below_drew _)⟩ ?_
   refine u_is (by kernel_rfl) (.slice A3_ (((((([n.kind, n.fr, n.tw, (n.nums.length : Int)] ++ n.nums) ++ [(n.ops.length : Int)]) ++ opsL n.ops) ++ [(n.ents.length : Int)]) ++ entsL (n.ents.take i)).length) c3_) rfl rfl rfl rfl (fun W_ hW_ h1_ F_ => rfl) ?_
   refine u_is (by kernel_rfl) (.pointer (some ⟨g104, 0, none⟩)) rfl rfl rfl rfl (fun W_ hW_ h1_ F_ => by simp [go_sem, sEv, sLook, nbeq, i64_w, -List.getD_eq_getElem?_getD, Try.underlying83]) ?_
   refine u_is (by kernel_rfl) (.pointer (some ⟨g104, 0, none⟩)) rfl rfl rfl rfl (fun W_ hW_ h1_ F_ => by simp [go_sem, sEv, sLook, nbeq, i64_w, -List.getD_eq_getElem?_getD, Try.underlying55]) ?_
   refine u_is (by kernel_rfl) (.int .i64 ((n.ents.getD i EL.zero).win)) rfl rfl rfl rfl (fun W_ hW_ h1_ F_ => (by have eb_ := (Blk.kept hb112 (drew_kept hW_) (own_ne_blk (d := (Kd.int .i64)) oA113 hb112 (.inr (by decide)))); have e0_ := eb_.cellv (v := .int .i64 ((n.ents.getD i EL.zero).win)) (eA0 (n.ents.getD i EL.zero)); simp [go_sem, sEv, sLook, nbeq, i64_w, -List.getD_eq_getElem?_getD, e0_])) ?_
   refine u_is (by kernel_rfl) (.pointer (some ⟨g104, 0, none⟩)) rfl rfl rfl rfl (fun W_ hW_ h1_ F_ => by simp [go_sem, sEv, sLook, nbeq, i64_w, -List.getD_eq_getElem?_getD, Try.underlying83]) ?_
   refine u_is (by kernel_rfl) (.pointer (some ⟨g104, 1, none⟩)) rfl rfl rfl rfl (fun W_ hW_ h1_ F_ => by simp [go_sem, sEv, sLook, nbeq, i64_w, -List.getD_eq_getElem?_getD, Try.underlying55]) ?_
   refine u_is (by kernel_rfl) (.int .i64 ((n.ents.getD i EL.zero).key)) rfl rfl rfl rfl (fun W_ hW_ h1_ F_ => (by have eb_ := (Blk.kept hb112 (drew_kept hW_) (own_ne_blk (d := (Kd.int .i64)) oA113 hb112 (.inr (by decide)))); have e0_ := eb_.cellv (v := .int .i64 ((n.ents.getD i EL.zero).key)) (eA1 (n.ents.getD i EL.zero)); simp [go_sem, sEv, sLook, nbeq, i64_w, -List.getD_eq_getElem?_getD, e0_])) ?_
   refine u_val (by kernel_rfl) (SlcSpec w110.heap.size 3 #[.int .i64 ((n.ents.getD i EL.zero).win), .int .i64 ((n.ents.getD i EL.zero).key)] 2) rfl rfl rfl rfl (fun W_ hW_ h1_ F_ => slc_gives _ _ _ _ (drew_kept hW_).1 (by kernel_rfl)) ?_
   rintro _ ⟨g114, rfl⟩
   refine u_app (OwnKSpec (Kd.int .i64) 3 w.heap.size w.heap.size (((((([n.kind, n.fr, n.tw, (n.nums.length : Int)] ++ n.nums) ++ [(n.ops.length : Int)]) ++ opsL n.ops) ++ [(n.ents.length : Int)]) ++ entsL (n.ents.take i)) ++ ([(n.ents.getD i EL.zero).win, (n.ents.getD i EL.zero).key] : List Int))) (by kernel_rfl) rfl rfl rfl rfl (fun W_ hW_ h0_ F_ => own_app_k (d := (Kd.int .i64)) w.heap.size w.heap.size (.tmp 61) (.tmp 68) 22 3 (.int .i64 0) 8 rfl (by kernel_rfl) (by kernel_rfl) rfl (show 0 < 1 by decide) (by decide) (fun _ _ h => h) rfl rfl (by have q_ := h0_.1.size; have q2_ := (drew_kept hW_).1; omega) (by omega) h0_ (OwnK.C (d := (Kd.int .i64)) (scal_own (e := 3) (cap := 2) (xs := ([(n.ents.getD i EL.zero).win, (n.ents.getD i EL.zero).key] : List Int)) 0 (slc_fact (F_ 7 _ _ rfl rfl)).2 (Nat.zero_le _) rfl rfl (by simp))) h0_.1.size (by have q1_ := hko_ n.ops.length; have q2_ := hke_ n.ents.length; simp only [List.take_length] at q1_ q2_; simp only [List.length_append, List.length_cons, List.length_nil]; first | omega | (have q3_ := hko_ j; omega) | (have q4_ := hke_ i; have q5_ := nums_len (n.ents.getD i EL.zero).c; have q6_ := pr_len (n.ents.getD i EL.zero).c.h 65; omega))) ?_
   rintro _ ⟨A117, c118, rfl, hle119⟩
   refine u_is (by kernel_rfl) (.pointer (some ⟨g104, 2, none⟩)) rfl rfl rfl rfl (fun W_ hW_ h1_ F_ => by simp [go_sem, sEv, sLook, nbeq, i64_w, -List.getD_eq_getElem?_getD, Try.underlying83]) ?_
   refine u_is (by kernel_rfl) (.agg (carr ((n.ents.getD i EL.zero).c))) rfl rfl rfl rfl (fun W_ hW_ h1_ F_ => (run_as (load_ecell (x := (n.ents.getD i EL.zero)) (Blk.kept hb112 (drew_kept hW_) (own_ne_blk (d := (Kd.int .i64)) oA113 hb112 (.inr (by decide))))))) ?_
   refine u_tail ?_
   intro w121 hK122_ h124 F123
   have hK122 := drew_kept hK122_
   have hs_w121 := hK122.1
   have hgs_w121 := h124.size
   have hk125 := Blk.kept hb112 hK122 (own_ne_blk (d := (Kd.int .i64)) oA113 hb112 (.inr (by decide)))
   obtain ⟨hge116, hk115⟩ := slc_fact (F123 7 _ _ rfl)
   have hlt_g114 := hk115.lt
   have hO120 : OwnK (Kd.int .i64) 3 w121 w.heap.size w.heap.size A117 (((((([n.kind, n.fr, n.tw, (n.nums.length : Int)] ++ n.nums) ++ [(n.ops.length : Int)]) ++ opsL n.ops) ++ [(n.ents.length : Int)]) ++ entsL (n.ents.take i)) ++ ([(n.ents.getD i EL.zero).win, (n.ents.getD i EL.zero).key] : List Int)).length c118 (((((([n.kind, n.fr, n.tw, (n.nums.length : Int)] ++ n.nums) ++ [(n.ops.length : Int)]) ++ opsL n.ops) ++ [(n.ents.length : Int)]) ++ entsL (n.ents.take i)) ++ ([(n.ents.getD i EL.zero).win, (n.ents.getD i EL.zero).key] : List Int)) := ownk_fact (F123 8 (OwnKSpec (Kd.int .i64) 3 w.heap.size w.heap.size (((((([n.kind, n.fr, n.tw, (n.nums.length : Int)] ++ n.nums) ++ [(n.ops.length : Int)]) ++ opsL n.ops) ++ [(n.ents.length : Int)]) ++ entsL (n.ents.take i)) ++ ([(n.ents.getD i EL.zero).win, (n.ents.getD i EL.zero).key] : List Int))) (.slice A117 (((((([n.kind, n.fr, n.tw, (n.nums.length : Int)] ++ n.nums) ++ [(n.ops.length : Int)]) ++ opsL n.ops) ++ [(n.ents.length : Int)]) ++ entsL (n.ents.take i)) ++ ([(n.ents.getD i EL.zero).win, (n.ents.getD i EL.zero).key] : List Int)).length c118) (by kernel_rfl))
   clear F123
   have hk115r : OwnK (Kd.int .i64) 3 w121 w.heap.size g114 (some ⟨g114, 0, none⟩) 2 2 ([(n.ents.getD i EL.zero).win, (n.ents.getD i EL.zero).key] : List Int) := scal_own w.heap.size hk115 (by omega) rfl rfl (by simp)
   refine rcl ((nums_calls w121 ((n.ents.getD i EL.zero).c))) ?_
   rintro e_ w128 ⟨A126, c127, rfl, hO129, hB130⟩
   refine ⟨_, rfl, ?_⟩
   have hs_w128 := hB130.size
   have hL131 : OwnK (Kd.int .i64) 3 w128 w.heap.size w121.heap.size A126 (numsC ((n.ents.getD i EL.zero).c)).length c127 (numsC ((n.ents.getD i EL.zero).c)) := OwnK.lower hO129 (by omega)
   have oA138 : OwnK (Kd.int .i64) 3 w128 w.heap.size w.heap.size A117 ((((((([n.kind, n.fr, n.tw, (n.nums.length : Int)] ++ n.nums) ++ [(n.ops.length : Int)]) ++ opsL n.ops) ++ [(n.ents.length : Int)]) ++ entsL (n.ents.take i)) ++ ([(n.ents.getD i EL.zero).win, (n.ents.getD i EL.zero).key] : List Int)).length) c118 (((((([n.kind, n.fr, n.tw, (n.nums.length : Int)] ++ n.nums) ++ [(n.ops.length : Int)]) ++ opsL n.ops) ++ [(n.ents.length : Int)]) ++ entsL (n.ents.take i)) ++ ([(n.ents.getD i EL.zero).win, (n.ents.getD i EL.zero).key] : List Int)) := (OwnK.on (d := (Kd.int .i64)) hO120 hB130)
   refine rw_append_kd (d := (Kd.int .i64)) w.heap.size rfl rfl rfl (.tmp 69) (.tmp 72) rfl rfl 22 3 (.int .i64 0) 8 rfl (by kernel_rfl) (by kernel_rfl) rfl (show 0 < 1 by decide) (by decide) (fun _ _ h => h) (b := w.heap.size) rfl rfl (by omega) oA138 (OwnK.Cn (d := (Kd.int .i64)) hL131) (chain h124 hB130) (by omega) (by have q1_ := hko_ n.ops.length; have q2_ := hke_ n.ents.length; simp only [List.take_length] at q1_ q2_; simp only [List.length_append, List.length_cons, List.length_nil]; first | omega | (have q3_ := hko_ j; omega) | (have q4_ := hke_ i; have q5_ := nums_len (n.ents.getD i EL.zero).c; have q6_ := pr_len (n.ents.getD i EL.zero).c.h 65; omega)) ?_
   intro A132 c133 w134 hO135 hB136 hG137
   have hs_w134 := hB136.size
   have hgs_w134 := hG137.size
   have hk141 := OwnK.blk_grown (hk125.on hB130) oA138 (.inr (by decide)) hG137
   refine rv (.slice A132 (((((((([n.kind, n.fr, n.tw, (n.nums.length : Int)] ++ n.nums) ++ [(n.ops.length : Int)]) ++ opsL n.ops) ++ [(n.ents.length : Int)]) ++ entsL (n.ents.take i)) ++ ([(n.ents.getD i EL.zero).win, (n.ents.getD i EL.zero).key] : List Int)) ++ (numsC ((n.ents.getD i EL.zero).c))).length) c133) ?_
   refine rw_end ?_
   refine w_blk ?_
   refine w_region ?_
   refine rw1 (.int .i64 ((i + 1 : Nat) : Int)) ?_
   refine rv (.int .i64 ((i + 1 : Nat) : Int)) ?_
   refine rw_end ?_
   have e142 : ((((((([n.kind, n.fr, n.tw, (n.nums.length : Int)] ++ n.nums) ++ [(n.ops.length : Int)]) ++ opsL n.ops) ++ [(n.ents.length : Int)]) ++ entsL (n.ents.take i)) ++ ([(n.ents.getD i EL.zero).win, (n.ents.getD i EL.zero).key] : List Int)) ++ (numsC ((n.ents.getD i EL.zero).c))) = ((((([n.kind, n.fr, n.tw, (n.nums.length : Int)] ++ n.nums) ++ [(n.ops.length : Int)]) ++ opsL n.ops) ++ [(n.ents.length : Int)]) ++ entsL (n.ents.take (i + 1))) := by (unfold entsL; rw [flat_snoc entL n.ents i EL.zero (by omega)]; unfold entL; simp only [List.append_assoc])
   have hO143 : OwnK (Kd.int .i64) 3 w134 w.heap.size w.heap.size A132 ((((([n.kind, n.fr, n.tw, (n.nums.length : Int)] ++ n.nums) ++ [(n.ops.length : Int)]) ++ opsL n.ops) ++ [(n.ents.length : Int)]) ++ entsL (n.ents.take (i + 1))).length c133 ((((([n.kind, n.fr, n.tw, (n.nums.length : Int)] ++ n.nums) ++ [(n.ops.length : Int)]) ++ opsL n.ops) ++ [(n.ents.length : Int)]) ++ entsL (n.ents.take (i + 1))) := by rw [← e142]; exact OwnK.full hO135
   have en144 : ((((((([n.kind, n.fr, n.tw, (n.nums.length : Int)] ++ n.nums) ++ [(n.ops.length : Int)]) ++ opsL n.ops) ++ [(n.ents.length : Int)]) ++ entsL (n.ents.take i)) ++ ([(n.ents.getD i EL.zero).win, (n.ents.getD i EL.zero).key] : List Int)) ++ (numsC ((n.ents.getD i EL.zero).c))).length = ((((([n.kind, n.fr, n.tw, (n.nums.length : Int)] ++ n.nums) ++ [(n.ops.length : Int)]) ++ opsL n.ops) ++ [(n.ents.length : Int)]) ++ entsL (n.ents.take (i + 1))).length := by rw [← e142] <;> exact OwnK.len (d := (Kd.int .i64)) hO135
   exact w_back (m_ - 1) [(3, .slice A132 (((((([n.kind, n.fr, n.tw, (n.nums.length : Int)] ++ n.nums) ++ [(n.ops.length : Int)]) ++ opsL n.ops) ++ [(n.ents.length : Int)]) ++ entsL (n.ents.take (i + 1))).length) c133), (55, .slice (some ad101) n.ents.length c5), (56, .int .i64 ((n.ents.length : Nat) : Int)), (57, .int .i64 ((i + 1 : Nat) : Int))] (by omega) ⟨(by first | rfl | (rw [← en144]; rfl)), rfl, rfl, rfl, trivial⟩ ⟨(i + 1), A132, c133, by omega, hB136, (OwnK.mono (d := (Kd.int .i64)) hO143 (by omega)), rfl⟩
  ·
   have l145 : ¬ (((i : Nat) : Int) < ((n.ents.length : Nat) : Int)) := of_decide_eq_false cI
   refine w_exit rfl ?_
   refine wsr ?_
   refine rv (.slice A3_ (((((([n.kind, n.fr, n.tw, (n.nums.length : Int)] ++ n.nums) ++ [(n.ops.length : Int)]) ++ opsL n.ops) ++ [(n.ents.length : Int)]) ++ entsL (n.ents.take i)).length) c3_) ?_
   refine rv (.slice A3_ (((((([n.kind, n.fr, n.tw, (n.nums.length : Int)] ++ n.nums) ++ [(n.ops.length : Int)]) ++ opsL n.ops) ++ [(n.ents.length : Int)]) ++ entsL (n.ents.take i)).length) c3_) ?_
   refine rw_end ?_
   refine w_ret (post_ret1 rfl rfl ?_)
   have eX_ : ((((([n.kind, n.fr, n.tw, (n.nums.length : Int)] ++ n.nums) ++ [(n.ops.length : Int)]) ++ opsL n.ops) ++ [(n.ents.length : Int)]) ++ entsL (n.ents.take i)) = listN n := by rw [List.take_of_length_le (by omega)]; unfold listN; rfl
   have hf_ := hO3_
   rw [eX_] at hf_
   rw [eX_]
   exact ⟨_, _, rfl, OwnK.mono (d := (Kd.int .i64)) hf_ (by omega), hB_L98⟩
end Go.Proofs.Ytbbhdohjhipalaa.Ce
end
section
namespace Go.Proofs.Ytbbhdohjhipalaa.Ce
open Go.RowKit Go.Proofs.YtbbhdohjhipalaaW.PrintWords Go.Proofs.YtbbhdohjhipalaaW.PrintLast Go.Proofs.YtbbhdohjhipalaaW.PrintMore
open Go.Proofs.Ytbbhdohjhipalaa.Flow
set_option linter.unusedVariables false
set_option linter.unusedSimpArgs false
theorem nextR_nil {s : RS} (h : s.xs.length = 0) : nextR s = (0, ⟨[], true⟩) := by
  unfold nextR
  rw [List.length_eq_zero_iff.1 h]
theorem nextR_cons {s : RS} (h : 0 < s.xs.length) : nextR s = (s.xs.getD 0 0, ⟨s.xs.drop 1, s.bad⟩) := by
  unfold nextR
  cases e : s.xs with
  | nil => rw [e] at h; simp at h
  | cons x r => simp
theorem nextR_len (s : RS) : (nextR s).2.xs.length ≤ s.xs.length := by
  unfold nextR
  cases s.xs with
  | nil => simp
  | cons x r => simp
def Low (B : Nat) (A : Option Addr) : Prop := ∀ ad, A = some ad → ad.block < B
def RDB (w : World) (g B : Nat) (s : RS) : Prop := ∃ A c, Blk w g 90 #[.slice A s.xs.length c, .bool s.bad] ∧ RRow w A s.xs.length c s.xs ∧ Low B A
theorem RDB.rd {w : World} {g B : Nat} {s : RS} (h : RDB w g B s) : RD w g s := by
  obtain ⟨A, c, h1, h2, _⟩ := h
  exact ⟨A, c, h1, h2⟩
theorem RD.b {w : World} {g : Nat} {s : RS} (h : RD w g s) : ∃ B, RDB w g B s := by
  obtain ⟨A, c, h1, h2⟩ := h
  cases A with
  | none => exact ⟨0, none, c, h1, h2, fun ad e => by cases e⟩
  | some ad => exact ⟨ad.block + 1, some ad, c, h1, h2, fun ad2 e => by cases e; omega⟩
theorem rrow_nil (w : World) (c : Nat) : RRow w none 0 c [] := ⟨⟨rfl, by simp, fun h => absurd h (by decide)⟩, by simp, fun ad e => by cases e⟩
abbrev KG (g : Nat) (w w' : World) : Prop := w.grownBy w' (some g)
theorem kg_b {w X Y : World} {g : Nat} (h : KG g w X) (hb : Below X.heap.size X Y) : KG g w Y := ⟨hb.os.trans h.os, hb.tape.trans h.tape, hb.output.trans h.output, Nat.le_trans h.size hb.size, fun i hi hn => (hb.block i (Nat.lt_of_lt_of_le hi h.size)).trans (h.block i hi hn)⟩
theorem kg_s {w X Y : World} {g g2 : Nat} (h : KG g w X) (hk : Keep g2 X Y) (hg : g2 = g ∨ w.heap.size ≤ g2) : KG g w Y := ⟨hk.os.trans h.os, hk.tape.trans h.tape, hk.output.trans h.output, Nat.le_trans h.size (Nat.le_of_eq hk.size.symm), fun i hi hn => (hk.block i (fun e => by
  rcases hg with hg | hg
  · exact hn (by rw [e, hg])
  · omega)).trans (h.block i hi hn)⟩
theorem kg_refl (g : Nat) (w : World) : KG g w w := ⟨rfl, rfl, rfl, Nat.le_refl _, fun _ _ _ => rfl⟩
theorem kg_k {w X Y : World} {g : Nat} (h : KG g w X) (hk : KG g X Y) : KG g w Y := ⟨hk.os.trans h.os, hk.tape.trans h.tape, hk.output.trans h.output, Nat.le_trans h.size hk.size, fun i hi hn => (hk.block i (Nat.lt_of_lt_of_le hi h.size) hn).trans (h.block i hi hn)⟩
theorem kg_keep {w X : World} {g : Nat} (h : Keep g w X) : KG g w X := kg_s (kg_refl g w) h (.inl rfl)
theorem kg_below {w0 w X : World} {g : Nat} (hb : Below w0.heap.size w0 w) (hg : w0.heap.size ≤ g) (h : KG g w X) : Below w0.heap.size w0 X := ⟨h.os.trans hb.os, h.tape.trans hb.tape, h.output.trans hb.output, Nat.le_trans hb.size h.size, fun i hi => (h.block i (Nat.lt_of_lt_of_le hi hb.size) (fun e => by have e := Option.some.inj e; subst e; exact absurd hi (Nat.not_lt.2 hg))).trans (hb.block i hi)⟩
theorem blk_kg {w X : World} {g g2 t : Nat} {cs : Array Value} (hb : Blk w g2 t cs) (h : KG g w X) (hn : g2 ≠ g) : Blk X g2 t cs := (h.block g2 hb.lt (fun e => hn (Option.some.inj e))).trans hb
theorem own_kg {α : Type} {d : Kd α} {e t : TypeId} {w X : World} {base b g : Nat} {A : Option Addr} {n c : Nat} {xs : List α} {cs : Array Value} (h : OwnK d e w base b A n c xs) (hb : Blk w g t cs) (hne : ∀ q, q ∈ e :: d.E → q ≠ t) (hk : KG g w X) : OwnK d e X base b A n c xs := by
  have h0 := Kd.R_bound h
  refine Kd.R_mono (Kd.R_grown h0 hk (fun k hk2 he => ?_)) (fun q hq => hq.1)
  obtain ⟨hk1, hk3, hk4, q, hq, cells, hc⟩ := hk2
  have e1 : g = k := by simpa using he.symm
  have h2 : w.heap[g]? = some (.cells cs t (0, 0)) := hb
  rw [e1, hc] at h2
  injection h2 with h2
  injection h2 with _ h2
  exact hne q hq h2
theorem RRow.own {α : Type} {d : Kd α} {e : TypeId} {w X : World} {base b : Nat} {A A2 : Option Addr} {n c n2 c2 : Nat} {xs : List Int} {ys : List α} (h : RRow w A n c xs) (ho : OwnK d e w base b A2 n2 c2 ys) (hne : e ≠ 3) (hG : w.grownBy X (Value.slice A2 n2 c2).ownBlock) : RRow X A n c xs := h.grown hG (fun q hq => by
  obtain ⟨cells, ht⟩ := Kd.R_typed ho q hq
  exact ⟨cells, e, ht, hne⟩)
theorem RRow.k {w X : World} {A : Option Addr} {n c B : Nat} {xs : List Int} {S : Nat → Prop} (h : RRow w A n c xs) (hl : Low B A) (hk : Kept w X S) (hS : ∀ q, S q → B ≤ q) : RRow X A n c xs := h.moved (fun ad e => by
  obtain ⟨cells, h1⟩ := h.2.2 ad e
  refine hk.2 _ (Array.getElem?_eq_some_iff.1 h1).1 (fun hs => ?_)
  have := hl ad e
  have := hS _ hs
  omega)
theorem RDB.on {w X : World} {g B : Nat} {s : RS} (h : RDB w g B s) (hb : Below w.heap.size w X) : RDB X g B s := by
  obtain ⟨A, c, h1, h2, h3⟩ := h
  exact ⟨A, c, h1.on hb, h2.on hb, h3⟩
theorem RDB.k {w X : World} {g B : Nat} {s : RS} {S : Nat → Prop} (h : RDB w g B s) (hg : g < B) (hk : Kept w X S) (hS : ∀ q, S q → B ≤ q) : RDB X g B s := by
  obtain ⟨A, c, h1, h2, h3⟩ := h
  exact ⟨A, c, h1.kept hk (fun hs => by have := hS g hs; omega), h2.k h3 hk hS, h3⟩
theorem kg_kept {w X : World} {g : Nat} (h : KG g w X) : Kept w X (fun q => q = g) := ⟨h.size, fun i hi hn => h.block i hi (fun e => hn (Option.some.inj e))⟩
end Go.Proofs.Ytbbhdohjhipalaa.Ce
end
section
namespace Go.Proofs.Ytbbhdohjhipalaa.Ce
open Go.RowKit Go.Proofs.YtbbhdohjhipalaaW.PrintWords Go.Proofs.YtbbhdohjhipalaaW.PrintLast Go.Proofs.YtbbhdohjhipalaaW.PrintMore
open Go.Proofs.Ytbbhdohjhipalaa.Flow
set_option linter.unusedVariables false
set_option linter.unusedSimpArgs false
theorem adr_block {k c j : Nat} {A : Option Addr} {ad : Addr} (h : adrS k A c j = some ad) : ∃ a0, A = some a0 ∧ ad.block = a0.block := by
  cases A with
  | none => unfold adrS at h; simp at h
  | some a0 =>
    refine ⟨a0, rfl, ?_⟩
    unfold adrS at h
    repeat' split at h
    all_goals first | (simp at h; done) | skip
    all_goals (simp at h; subst h; first | rfl | exact add_blk _ _)
theorem rrow_adr {w : World} {A : Option Addr} {n c k j n' c' : Nat} {xs xs' : List Int} (h : RRow w A n c xs) (hC : (Kd.int .i64).C w (adrS k A c j) n' xs') (hc : xs'.length ≤ c') : RRow w (adrS k A c j) n' c' xs' := ⟨hC, hc, fun ad e => by
  obtain ⟨a0, e1, e2⟩ := adr_block e
  obtain ⟨cells, h1⟩ := h.2.2 a0 e1
  exact ⟨cells, by rw [e2]; exact h1⟩⟩
theorem low_adr {B : Nat} {A : Option Addr} {k c j : Nat} (h : Low B A) : Low B (adrS k A c j) := fun ad e => by
  obtain ⟨a0, e1, e2⟩ := adr_block e
  rw [e2]
  exact h a0 e1
set_option maxHeartbeats 4000000 in
theorem next_raw (w : World) (g B : Nat) (s : RS) (A : Option Addr) (c : Nat) (hb : Blk w g 90 #[.slice A s.xs.length c, .bool s.bad]) (hr : RRow w A s.xs.length c s.xs) (hl : Low B A) (hC : (Kd.int .i64).C w A s.xs.length s.xs) (hc : s.xs.length ≤ c) (hln : s.xs.length ≤ 1000000) :
  Calls Try.prog 58 #[.pointer (some ⟨g, 0, none⟩)] w fun e w' => e = .returned (.int .i64 (nextR s).1) ∧ RDB w' g B (nextR s).2 ∧ Keep g w w' := by
 refine calls_flow Try.func58 rfl 28 rfl (Nat.le_of_ble_eq_true rfl) [(0, .pointer (some ⟨g, 0, none⟩))] ?_ ?_
 ·
  intro t v h; exact args_look rfl t v h
 refine wsr ?_
 refine rv (.int .i64 0) ?_
 refine rw_end ?_
 refine w_seq ?_
 refine wsr ?_
 refine rv (.pointer (some ⟨g, 0, none⟩)) ?_
 refine rs (.pointer (some ⟨g, 0, none⟩)) ?_
 refine ru (.pointer (some ⟨g, 0, none⟩)) ?_
 refine rl hb 0 (.slice A s.xs.length c) ?_
 refine rs (.int .i64 ((s.xs.length : Nat) : Int)) ?_
 refine rs (.bool (((s.xs.length : Nat) : Int) == 0)) ?_
 refine rw_end ?_
 refine w_cond rfl rfl (fun cN => ?_) (fun cN => ?_)
 ·
  have l1 : ((s.xs.length : Nat) : Int) = 0 := by simpa using cN
  refine wsr ?_
  refine rv (.pointer (some ⟨g, 0, none⟩)) ?_
  refine rs (.pointer (some ⟨g, 0, none⟩)) ?_
  refine ru (.pointer (some ⟨g, 1, none⟩)) ?_
  have hb5 := hb
  refine rst hb5 1 [.bool true] #[.slice A s.xs.length c, .bool true] ?_
  intro w2 hk3 hk4
  have hs_w2 := hk3.size
  refine rw_end ?_
  refine wsr ?_
  refine rv (.int .i64 0) ?_
  refine rw_end ?_
  refine w_ret (post_ret1 rfl rfl ?_)
  have h0_ : s.xs = [] := List.length_eq_zero_iff.1 (by simpa using cN)
  have hB_ := hk4
  have hr_ := hr.keep hb (by decide) hk3
  rw [h0_] at hB_ hr_
  rw [nextR_nil (by rw [h0_]; rfl)]
  exact ⟨rfl, ⟨A, c, hB_, hr_, hl⟩, hk3⟩
 ·
  have l6 : ¬ ((s.xs.length : Nat) : Int) = 0 := by simpa using cN
  refine w_skip ?_
  refine wsr ?_
  refine rv (.pointer (some ⟨g, 0, none⟩)) ?_
  refine rs (.pointer (some ⟨g, 0, none⟩)) ?_
  refine ru (.pointer (some ⟨g, 0, none⟩)) ?_
  refine rl hb 0 (.slice A s.xs.length c) ?_
  obtain ⟨ad7, hA8, hc9⟩ := int_at (Kd.C_below hC (Below.refl _ _)) 0 0 (by first | omega | decide)
  subst hA8
  have he10 : w.cell? (ad7) = some (.int .i64 (s.xs.getD 0 0)) := cell_00 (hc9 0 _ rfl)
  refine rz (.pointer (some (ad7))) (run_as (run_at_z (P := Try.prog) (e := 3) (sz := 1) (by kernel_rfl) (by kernel_rfl)  (by first | omega | decide) _)) ?_
  refine rz (.int .i64 (s.xs.getD 0 0)) (by have e0_ := cellOn he10 (Below.refl _ _); simp [go_sem, sEv, sLook, nbeq, i64_w, -List.getD_eq_getElem?_getD, e0_]) ?_
  refine rv (.int .i64 (s.xs.getD 0 0)) ?_
  refine rw_end ?_
  refine wsr ?_
  refine rv (.pointer (some ⟨g, 0, none⟩)) ?_
  refine rv (.pointer (some ⟨g, 0, none⟩)) ?_
  refine rs (.pointer (some ⟨g, 0, none⟩)) ?_
  refine ru (.pointer (some ⟨g, 0, none⟩)) ?_
  refine rl hb 0 (.slice (some ad7) s.xs.length c) ?_
  have hP11 : (Kd.int .i64).C w (adrS 1 (some ad7) c 1) (s.xs.drop 1).length (s.xs.drop 1) := Kd.C_drop (Kd.C_below hC (Below.refl _ _)) (by omega) (by have q_ := hc; omega)
  have hP11_ : (s.xs.drop 1).length = s.xs.length - 1 := List.length_drop
  refine rz (.slice (adrS 1 (some ad7) c 1) ((s.xs.drop 1).length) (c - 1)) (by rw [hP11_]; exact run_as (sl_from (sz := 1) (e := 3) (by kernel_rfl) (fun _ => by kernel_rfl) 1 _ (by first | rfl | (simp; done) | omega) (by omega) (by have q_ := hc; omega) _)) ?_
  refine rs (.pointer (some ⟨g, 0, none⟩)) ?_
  refine ru (.pointer (some ⟨g, 0, none⟩)) ?_
  have hb15 := hb
  refine rst hb15 0 [.slice (adrS 1 (some ad7) c 1) ((s.xs.drop 1).length) (c - 1)] #[.slice (adrS 1 (some ad7) c 1) ((s.xs.drop 1).length) (c - 1), .bool s.bad] ?_
  intro w12 hk13 hk14
  have hs_w12 := hk13.size
  refine rw_end ?_
  refine wsr ?_
  refine rv (.int .i64 (s.xs.getD 0 0)) ?_
  refine rv (.int .i64 (s.xs.getD 0 0)) ?_
  refine rw_end ?_
  refine w_ret (post_ret1 rfl rfl ?_)
  rw [nextR_cons (by have h0_ : ¬ s.xs.length = 0 := (by simpa using cN); omega)]
  exact ⟨rfl, ⟨_, _, (by simpa using hk14), RRow.keep (rrow_adr hr hP11 (show (s.xs.drop 1).length ≤ c - 1 by omega)) hb (by decide) hk13, low_adr hl⟩, hk13⟩
theorem next_calls (w : World) (g B : Nat) (s : RS) (h : RDB w g B s) (hln : s.xs.length ≤ 1000000) : Calls Try.prog 58 #[.pointer (some ⟨g, 0, none⟩)] w fun e w' => e = .returned (.int .i64 (nextR s).1) ∧ RDB w' g B (nextR s).2 ∧ Keep g w w' := by
  obtain ⟨A, c, hb, hr, hl⟩ := h
  exact next_raw w g B s A c hb hr hl hr.1 hr.2.1 hln
theorem rrow_own {w : World} {base b : Nat} {A : Option Addr} {n c : Nat} {xs : List Int} (h : OwnK (Kd.int .i64) 3 w base b A n c xs) : RRow w A n c xs := ⟨OwnK.Cn h, by have h1 := OwnK.cap h; have h2 := OwnK.len h; omega, fun ad e => by
  subst e
  exact Kd.R_typed h ad.block rfl⟩
set_option maxHeartbeats 4000000 in
theorem count_raw (w : World) (g B : Nat) (s : RS) (A : Option Addr) (c : Nat) (hb : Blk w g 90 #[.slice A s.xs.length c, .bool s.bad]) (hr : RRow w A s.xs.length c s.xs) (hl : Low B A) (m : Int) (hln : s.xs.length ≤ 1000000) :
  Calls Try.prog 59 #[.pointer (some ⟨g, 0, none⟩), .int .i64 m] w fun e w' => e = .returned (.int .i64 (countR m s).1) ∧ RDB w' g B (countR m s).2 ∧ Keep g w w' := by
 refine calls_flow Try.func59 rfl 19 rfl (Nat.le_of_ble_eq_true rfl) [(0, .pointer (some ⟨g, 0, none⟩)), (1, .int .i64 m)] ?_ ?_
 ·
  intro t v h; exact args_look rfl t v h
 refine wsr ?_
 refine rv (.int .i64 0) ?_
 refine rw_end ?_
 refine wsr ?_
 refine rv (.pointer (some ⟨g, 0, none⟩)) ?_
 refine rw_call rfl rfl rfl rfl (f := 58) (args := #[.pointer (some ⟨g, 0, none⟩)]) (by simp [go_sem, sEv, sLook, nbeq, i64_w, -List.getD_eq_getElem?_getD]) (next_calls w g B s ⟨A, c, hb, hr, hl⟩ hln) ?_
 rintro e_ w2 ⟨rfl, ⟨A4, c5, hb6, hr7, hl8⟩, hk3⟩
 refine ⟨_, rfl, ?_⟩
 have hs_w2 := hk3.size
 refine rv (.int .i64 ((nextR s).1)) ?_
 refine rw_end ?_
 refine w_seq ?_
 refine wsr ?_
 refine rv (.int .i64 ((nextR s).1)) ?_
 refine rs (.bool (decide (((nextR s).1) < 0))) ?_
 refine rv (.bool (decide (((nextR s).1) < 0))) ?_
 rcases bcase (decide (((nextR s).1) < 0)) with c10 | c10
 ·
  have l11 : ¬ (((nextR s).1) < 0) := of_decide_eq_false c10
  refine rnk c10 ?_
  refine rv (.int .i64 ((nextR s).1)) ?_
  refine rnk c10 ?_
  refine rv (.int .i64 m) ?_
  refine rnk c10 ?_
  refine rs (.bool (decide (m < ((nextR s).1)))) ?_
  refine rp c10 (.bool (decide (m < ((nextR s).1)))) ?_
  refine rw_end ?_
  refine w_cond rfl rfl (fun c12 => ?_) (fun c12 => ?_)
  ·
   have l13 : (m < ((nextR s).1)) := of_decide_eq_true c12
   refine wsr ?_
   refine rv (.pointer (some ⟨g, 0, none⟩)) ?_
   refine rs (.pointer (some ⟨g, 0, none⟩)) ?_
   refine ru (.pointer (some ⟨g, 1, none⟩)) ?_
   have hb17 := hb6
   refine rst hb17 1 [.bool true] #[.slice A4 (((nextR s).2).xs.length) c5, .bool true] ?_
   intro w14 hk15 hk16
   have hs_w14 := hk15.size
   refine rw_end ?_
   refine wsr ?_
   refine rv (.int .i64 0) ?_
   refine rw_end ?_
   refine w_ret (post_ret1 rfl rfl ?_)
   rw [show countR m s = (0, ⟨(nextR s).2.xs, true⟩) from if_pos (by omega)]
   exact ⟨rfl, ⟨A4, c5, hk16, (RRow.keep hr7 hb6 (by decide) hk15), hl8⟩, (hk3.trans hk15)⟩
  ·
   have l18 : ¬ (m < ((nextR s).1)) := of_decide_eq_false c12
   refine w_skip ?_
   refine wsr ?_
   refine rv (.int .i64 ((nextR s).1)) ?_
   refine rv (.int .i64 ((nextR s).1)) ?_
   refine rw_end ?_
   refine w_ret (post_ret1 rfl rfl ?_)
   rw [show countR m s = nextR s from if_neg (by omega)]
   exact ⟨rfl, ⟨A4, c5, hb6, hr7, hl8⟩, hk3⟩
 ·
  have l19 : (((nextR s).1) < 0) := of_decide_eq_true c10
  refine rok c10 ?_
  refine rok c10 ?_
  refine rok c10 ?_
  refine rp c10 (.bool true) ?_
  refine rw_end ?_
  refine w_cond_t rfl rfl rfl ?_
  refine wsr ?_
  refine rv (.pointer (some ⟨g, 0, none⟩)) ?_
  refine rs (.pointer (some ⟨g, 0, none⟩)) ?_
  refine ru (.pointer (some ⟨g, 1, none⟩)) ?_
  have hb23 := hb6
  refine rst hb23 1 [.bool true] #[.slice A4 (((nextR s).2).xs.length) c5, .bool true] ?_
  intro w20 hk21 hk22
  have hs_w20 := hk21.size
  refine rw_end ?_
  refine wsr ?_
  refine rv (.int .i64 0) ?_
  refine rw_end ?_
  refine w_ret (post_ret1 rfl rfl ?_)
  rw [show countR m s = (0, ⟨(nextR s).2.xs, true⟩) from if_pos (by omega)]
  exact ⟨rfl, ⟨A4, c5, hk22, (RRow.keep hr7 hb6 (by decide) hk21), hl8⟩, (hk3.trans hk21)⟩
theorem count_calls (w : World) (g B : Nat) (s : RS) (m : Int) (h : RDB w g B s) (hln : s.xs.length ≤ 1000000) : Calls Try.prog 59 #[.pointer (some ⟨g, 0, none⟩), .int .i64 m] w fun e w' => e = .returned (.int .i64 (countR m s).1) ∧ RDB w' g B (countR m s).2 ∧ Keep g w w' := by
  obtain ⟨A, c, hb, hr, hl⟩ := h
  exact count_raw w g B s A c hb hr hl m hln
theorem cell_no {s : RS} (h : takeC s.xs = none) : cellR s = (CL.unit, ⟨[], true⟩) := by unfold cellR; rw [h]
theorem cell_yes {s : RS} {c : CL} {r : List Int} (h : takeC s.xs = some (c, r)) : cellR s = (c, ⟨r, s.bad⟩) := by unfold cellR; rw [h]
set_option maxHeartbeats 4000000 in
theorem cell_raw (w : World) (g B : Nat) (s : RS) (A : Option Addr) (c : Nat) (hb : Blk w g 90 #[.slice A s.xs.length c, .bool s.bad]) (hr : RRow w A s.xs.length c s.xs) (hl : Low B A) (hgw : g < w.heap.size) (hln : s.xs.length ≤ 100000) :
  Calls Try.prog 60 #[.pointer (some ⟨g, 0, none⟩)] w fun e w' => e = .returned (.agg (carr (cellR s).1)) ∧ RD w' g (cellR s).2 ∧ KG g w w' := by
 refine calls_flow Try.func60 rfl 31 rfl (Nat.le_of_ble_eq_true rfl) [(0, .pointer (some ⟨g, 0, none⟩))] ?_ ?_
 ·
  intro t v h; exact args_look rfl t v h
 refine wsr ?_
 refine rw_new (cs := carr CL.unit) (t := 81) (fun g => .pointer (some ⟨g, 0, none⟩)) rfl rfl rfl rfl (by kernel_rfl) ?_
 intro g2 w3 hg7 hz6 hb4 hk5
 have hs_w3 := hb4.size
 refine rw_end ?_
 refine wsr ?_
 refine rv (.pointer (some ⟨g, 0, none⟩)) ?_
 refine rs (.pointer (some ⟨g, 0, none⟩)) ?_
 refine ru (.pointer (some ⟨g, 0, none⟩)) ?_
 refine rl (hb.on hb4) 0 (.slice A s.xs.length c) ?_
 refine rcl (take_calls w3 A c s.xs (RRow.on hr hb4).1 (RRow.on hr hb4).2.1 hln) ?_
 rintro e_ w8 ⟨⟨hT_, rfl⟩ | ⟨c1, r1, A1, k1, hT_, rfl, hO_⟩, hb9⟩
 ·
  refine ⟨_, rfl, ?_⟩
  have hs_w8 := hb9.size
  refine rv (.tuple #[.agg (carr CL.unit), .slice none 0 0, .bool false]) ?_
  refine rs (.agg (carr CL.unit)) ?_
  refine rs (.slice none 0 0) ?_
  refine rs (.bool false) ?_
  refine rw_new (cs := carr CL.unit) (t := 81) (fun g => .pointer (some ⟨g, 0, none⟩)) rfl rfl rfl rfl (by kernel_rfl) ?_
  intro g10 w11 hg15 hz14 hb12 hk13
  have hs_w11 := hb12.size
  refine rw_seg (g := g10) (off := 0) (ty := 81) (p := .tmp 3) (x := .tmp 12) (v := .agg (carr CL.unit)) (cs' := carr CL.unit) rfl rfl rfl rfl rfl rfl hk13 (by show (sizeOf 81).run _ _ = .ok (carr _).size _; rw [carr_size]; kernel_rfl) (Nat.le_of_eq (by rw [Nat.zero_add]; exact (carr_size _).trans (carr_size _).symm)) (encC_one _) (seg_all CL.unit CL.unit) ?_
  intro w16 hk17 hb18
  have hs_w16 := hk17.size
  refine rv (.slice none 0 0) ?_
  refine rv (.bool false) ?_
  refine rw_end ?_
  refine wsr ?_
  refine rv (.pointer (some ⟨g, 0, none⟩)) ?_
  refine rv (.pointer (some ⟨g, 0, none⟩)) ?_
  refine rv (.slice none 0 0) ?_
  refine rv (.pointer (some ⟨g, 0, none⟩)) ?_
  refine rs (.pointer (some ⟨g, 0, none⟩)) ?_
  refine ru (.pointer (some ⟨g, 1, none⟩)) ?_
  refine rl ((((hb.on hb4).on hb9).on hb12).keep hk17 (by omega)) 1 (.bool s.bad) ?_
  refine rv (.bool s.bad) ?_
  rcases bcase s.bad with c19 | c19
  ·
   refine rnk c19 ?_
   refine rv (.bool false) ?_
   refine rnk c19 ?_
   refine rs (.bool true) ?_
   refine rp c19 (.bool true) ?_
   refine rs (.pointer (some ⟨g, 0, none⟩)) ?_
   refine ru (.pointer (some ⟨g, 0, none⟩)) ?_
   have hb23 := ((((hb.on hb4).on hb9).on hb12).keep hk17 (by omega))
   refine rst hb23 0 [.slice none 0 0] #[.slice none 0 0, .bool s.bad] ?_
   intro w20 hk21 hk22
   have hs_w20 := hk21.size
   refine rs (.pointer (some ⟨g, 0, none⟩)) ?_
   refine ru (.pointer (some ⟨g, 1, none⟩)) ?_
   have hb27 := hk22
   refine rst hb27 1 [.bool true] #[.slice none 0 0, .bool true] ?_
   intro w24 hk25 hk26
   have hs_w24 := hk25.size
   refine rw_end ?_
   refine wsr ?_
   refine rz (.agg (carr CL.unit)) (run_as (load_cell (c := CL.unit) ((hb18.keep hk21 (by omega)).keep hk25 (by omega)))) ?_
   refine rw_seg (g := g2) (off := 0) (ty := 81) (p := .tmp 2) (x := .tmp 30) (v := .agg (carr CL.unit)) (cs' := carr CL.unit) rfl rfl rfl rfl rfl rfl (((((hk5.on hb9).on hb12).keep hk17 (by omega)).keep hk21 (by omega)).keep hk25 (by omega)) (by show (sizeOf 81).run _ _ = .ok (carr _).size _; rw [carr_size]; kernel_rfl) (Nat.le_of_eq (by rw [Nat.zero_add]; exact (carr_size _).trans (carr_size _).symm)) (encC_one _) (seg_all CL.unit CL.unit) ?_
   intro w28 hk29 hb30
   have hs_w28 := hk29.size
   refine rw_end ?_
   refine w_ret (post_retc (v := .agg (carr CL.unit)) rfl rfl (load_cell (c := CL.unit) hb30) ?_)
   rw [cell_no hT_]
   exact ⟨rfl, ⟨none, 0, (hk26.keep hk29 (by omega)), rrow_nil _ _⟩, (kg_s (kg_s (kg_s (kg_s (kg_b (kg_b (kg_b (kg_refl g w) hb4) hb9) hb12) hk17 (.inr (by omega))) hk21 (.inl rfl)) hk25 (.inl rfl)) hk29 (.inr (by omega)))⟩
  ·
   refine rok c19 ?_
   refine rok c19 ?_
   refine rp c19 (.bool true) ?_
   refine rs (.pointer (some ⟨g, 0, none⟩)) ?_
   refine ru (.pointer (some ⟨g, 0, none⟩)) ?_
   have hb34 := ((((hb.on hb4).on hb9).on hb12).keep hk17 (by omega))
   refine rst hb34 0 [.slice none 0 0] #[.slice none 0 0, .bool s.bad] ?_
   intro w31 hk32 hk33
   have hs_w31 := hk32.size
   refine rs (.pointer (some ⟨g, 0, none⟩)) ?_
   refine ru (.pointer (some ⟨g, 1, none⟩)) ?_
   have hb38 := hk33
   refine rst hb38 1 [.bool true] #[.slice none 0 0, .bool true] ?_
   intro w35 hk36 hk37
   have hs_w35 := hk36.size
   refine rw_end ?_
   refine wsr ?_
   refine rz (.agg (carr CL.unit)) (run_as (load_cell (c := CL.unit) ((hb18.keep hk32 (by omega)).keep hk36 (by omega)))) ?_
   refine rw_seg (g := g2) (off := 0) (ty := 81) (p := .tmp 2) (x := .tmp 30) (v := .agg (carr CL.unit)) (cs' := carr CL.unit) rfl rfl rfl rfl rfl rfl (((((hk5.on hb9).on hb12).keep hk17 (by omega)).keep hk32 (by omega)).keep hk36 (by omega)) (by show (sizeOf 81).run _ _ = .ok (carr _).size _; rw [carr_size]; kernel_rfl) (Nat.le_of_eq (by rw [Nat.zero_add]; exact (carr_size _).trans (carr_size _).symm)) (encC_one _) (seg_all CL.unit CL.unit) ?_
   intro w39 hk40 hb41
   have hs_w39 := hk40.size
   refine rw_end ?_
   refine w_ret (post_retc (v := .agg (carr CL.unit)) rfl rfl (load_cell (c := CL.unit) hb41) ?_)
   rw [cell_no hT_]
   exact ⟨rfl, ⟨none, 0, (hk37.keep hk40 (by omega)), rrow_nil _ _⟩, (kg_s (kg_s (kg_s (kg_s (kg_b (kg_b (kg_b (kg_refl g w) hb4) hb9) hb12) hk17 (.inr (by omega))) hk32 (.inl rfl)) hk36 (.inl rfl)) hk40 (.inr (by omega)))⟩
 ·
  refine ⟨_, rfl, ?_⟩
  have hs_w8 := hb9.size
  refine rv (.tuple #[.agg (carr c1), .slice A1 r1.length k1, .bool true]) ?_
  refine rs (.agg (carr c1)) ?_
  refine rs (.slice A1 r1.length k1) ?_
  refine rs (.bool true) ?_
  refine rw_new (cs := carr CL.unit) (t := 81) (fun g => .pointer (some ⟨g, 0, none⟩)) rfl rfl rfl rfl (by kernel_rfl) ?_
  intro g42 w43 hg47 hz46 hb44 hk45
  have hs_w43 := hb44.size
  refine rw_seg (g := g42) (off := 0) (ty := 81) (p := .tmp 3) (x := .tmp 12) (v := .agg (carr c1)) (cs' := carr c1) rfl rfl rfl rfl rfl rfl hk45 (by show (sizeOf 81).run _ _ = .ok (carr _).size _; rw [carr_size]; kernel_rfl) (Nat.le_of_eq (by rw [Nat.zero_add]; exact (carr_size _).trans (carr_size _).symm)) (encC_one _) (seg_all CL.unit c1) ?_
  intro w48 hk49 hb50
  have hs_w48 := hk49.size
  refine rv (.slice A1 r1.length k1) ?_
  refine rv (.bool true) ?_
  refine rw_end ?_
  refine wsr ?_
  refine rv (.pointer (some ⟨g, 0, none⟩)) ?_
  refine rv (.pointer (some ⟨g, 0, none⟩)) ?_
  refine rv (.slice A1 r1.length k1) ?_
  refine rv (.pointer (some ⟨g, 0, none⟩)) ?_
  refine rs (.pointer (some ⟨g, 0, none⟩)) ?_
  refine ru (.pointer (some ⟨g, 1, none⟩)) ?_
  refine rl ((((hb.on hb4).on hb9).on hb44).keep hk49 (by omega)) 1 (.bool s.bad) ?_
  refine rv (.bool s.bad) ?_
  rcases bcase s.bad with c51 | c51
  ·
   refine rnk c51 ?_
   refine rv (.bool true) ?_
   refine rnk c51 ?_
   refine rs (.bool false) ?_
   refine rp c51 (.bool false) ?_
   refine rs (.pointer (some ⟨g, 0, none⟩)) ?_
   refine ru (.pointer (some ⟨g, 0, none⟩)) ?_
   have hb55 := ((((hb.on hb4).on hb9).on hb44).keep hk49 (by omega))
   refine rst hb55 0 [.slice A1 r1.length k1] #[.slice A1 r1.length k1, .bool s.bad] ?_
   intro w52 hk53 hk54
   have hs_w52 := hk53.size
   refine rs (.pointer (some ⟨g, 0, none⟩)) ?_
   refine ru (.pointer (some ⟨g, 1, none⟩)) ?_
   have hb59 := hk54
   refine rst hb59 1 [.bool false] #[.slice A1 r1.length k1, .bool false] ?_
   intro w56 hk57 hk58
   have hs_w56 := hk57.size
   refine rw_end ?_
   refine wsr ?_
   refine rz (.agg (carr c1)) (run_as (load_cell (c := c1) ((hb50.keep hk53 (by omega)).keep hk57 (by omega)))) ?_
   refine rw_seg (g := g2) (off := 0) (ty := 81) (p := .tmp 2) (x := .tmp 30) (v := .agg (carr c1)) (cs' := carr c1) rfl rfl rfl rfl rfl rfl (((((hk5.on hb9).on hb44).keep hk49 (by omega)).keep hk53 (by omega)).keep hk57 (by omega)) (by show (sizeOf 81).run _ _ = .ok (carr _).size _; rw [carr_size]; kernel_rfl) (Nat.le_of_eq (by rw [Nat.zero_add]; exact (carr_size _).trans (carr_size _).symm)) (encC_one _) (seg_all CL.unit c1) ?_
   intro w60 hk61 hb62
   have hs_w60 := hk61.size
   refine rw_end ?_
   refine w_ret (post_retc (v := .agg (carr c1)) rfl rfl (load_cell (c := c1) hb62) ?_)
   have hbx_ := (hk58.keep hk61 (by omega))
   rw [cell_yes hT_]
   have hbd_ : s.bad = false := by simp [*]
   exact ⟨rfl, ⟨A1, k1, (by rw [hbd_]; exact hbx_), rrow_own (own_keep (d := (Kd.int .i64)) (own_keep (d := (Kd.int .i64)) (own_keep (d := (Kd.int .i64)) (own_keep (d := (Kd.int .i64)) (OwnK.on (d := (Kd.int .i64)) hO_ hb44) hk45 (by decide) hk49) ((((hb.on hb4).on hb9).on hb44).keep hk49 (by omega)) (by decide) hk53) hk54 (by decide) hk57) (((((hk5.on hb9).on hb44).keep hk49 (by omega)).keep hk53 (by omega)).keep hk57 (by omega)) (by decide) hk61)⟩, (kg_s (kg_s (kg_s (kg_s (kg_b (kg_b (kg_b (kg_refl g w) hb4) hb9) hb44) hk49 (.inr (by omega))) hk53 (.inl rfl)) hk57 (.inl rfl)) hk61 (.inr (by omega)))⟩
  ·
   refine rok c51 ?_
   refine rok c51 ?_
   refine rp c51 (.bool true) ?_
   refine rs (.pointer (some ⟨g, 0, none⟩)) ?_
   refine ru (.pointer (some ⟨g, 0, none⟩)) ?_
   have hb66 := ((((hb.on hb4).on hb9).on hb44).keep hk49 (by omega))
   refine rst hb66 0 [.slice A1 r1.length k1] #[.slice A1 r1.length k1, .bool s.bad] ?_
   intro w63 hk64 hk65
   have hs_w63 := hk64.size
   refine rs (.pointer (some ⟨g, 0, none⟩)) ?_
   refine ru (.pointer (some ⟨g, 1, none⟩)) ?_
   have hb70 := hk65
   refine rst hb70 1 [.bool true] #[.slice A1 r1.length k1, .bool true] ?_
   intro w67 hk68 hk69
   have hs_w67 := hk68.size
   refine rw_end ?_
   refine wsr ?_
   refine rz (.agg (carr c1)) (run_as (load_cell (c := c1) ((hb50.keep hk64 (by omega)).keep hk68 (by omega)))) ?_
   refine rw_seg (g := g2) (off := 0) (ty := 81) (p := .tmp 2) (x := .tmp 30) (v := .agg (carr c1)) (cs' := carr c1) rfl rfl rfl rfl rfl rfl (((((hk5.on hb9).on hb44).keep hk49 (by omega)).keep hk64 (by omega)).keep hk68 (by omega)) (by show (sizeOf 81).run _ _ = .ok (carr _).size _; rw [carr_size]; kernel_rfl) (Nat.le_of_eq (by rw [Nat.zero_add]; exact (carr_size _).trans (carr_size _).symm)) (encC_one _) (seg_all CL.unit c1) ?_
   intro w71 hk72 hb73
   have hs_w71 := hk72.size
   refine rw_end ?_
   refine w_ret (post_retc (v := .agg (carr c1)) rfl rfl (load_cell (c := c1) hb73) ?_)
   have hbx_ := (hk69.keep hk72 (by omega))
   rw [cell_yes hT_]
   have hbd_ : s.bad = true := by simp [*]
   exact ⟨rfl, ⟨A1, k1, (by rw [hbd_]; exact hbx_), rrow_own (own_keep (d := (Kd.int .i64)) (own_keep (d := (Kd.int .i64)) (own_keep (d := (Kd.int .i64)) (own_keep (d := (Kd.int .i64)) (OwnK.on (d := (Kd.int .i64)) hO_ hb44) hk45 (by decide) hk49) ((((hb.on hb4).on hb9).on hb44).keep hk49 (by omega)) (by decide) hk64) hk65 (by decide) hk68) (((((hk5.on hb9).on hb44).keep hk49 (by omega)).keep hk64 (by omega)).keep hk68 (by omega)) (by decide) hk72)⟩, (kg_s (kg_s (kg_s (kg_s (kg_b (kg_b (kg_b (kg_refl g w) hb4) hb9) hb44) hk49 (.inr (by omega))) hk64 (.inl rfl)) hk68 (.inl rfl)) hk72 (.inr (by omega)))⟩
theorem cell_calls (w : World) (g : Nat) (s : RS) (h : RD w g s) (hln : s.xs.length ≤ 100000) : Calls Try.prog 60 #[.pointer (some ⟨g, 0, none⟩)] w fun e w' => e = .returned (.agg (carr (cellR s).1)) ∧ RD w' g (cellR s).2 ∧ KG g w w' := by
  obtain ⟨B, A, c, hb, hr, hl⟩ := h.b
  exact cell_raw w g B s A c hb hr hl hb.lt hln
end Go.Proofs.Ytbbhdohjhipalaa.Ce
end
