/- Parts of the proofs of diaryPlays_holds: FlowA, FlowB, WWords, WLast, WApart, WKept, WShare, WN, WMore, FlowC, FlowD, FlowE, FlowF, FlowG, FlowH, FlowK, TpBase, TpOps3. -/
import Derived.Below
import Derived.OrdersHeld
import Derived.OrdersIn
import Derived.TacticsIn
import Derived.WalkKit
import Derived.ArgAppend
import Derived.BigQuiet
import Derived.Deep.AppendLies
import Derived.Deep.CutBlock
import Derived.Deep.DeepCutAuto
import Derived.Deep.Draws
import Derived.Deep.LoopGhost
import Derived.Deep.OwnRows
import Derived.Deep.QuietTactic
import Derived.Deep.RegionHeld3
import Derived.KernelRfl
import Derived.Laws.BytesArg
import Derived.Laws.IdiomCopy
import Derived.Laws.MakeOwn
import Derived.Laws.OwnMore
import Derived.Laws.Rows
import Derived.Laws.Slices
import Derived.Lib.AppendStr
import Derived.Lib.ConvBytes
import Derived.Maps.AppendAt
import Derived.OwnWalk
import Derived.RowKit
import Derived.RowKit3
import Derived.Tactics
import Derived.WideLaws
import Derived.Laws.BitsLemmas
import Derived.ChangeOld
import Derived.ChangeSlices
import Derived.Deep.Fields
import Derived.OpenShut
import Derived.ProofKit
import Derived.ShutString
import Derived.SizedLaws
import Derived.Test.YtiiljpaedelhlaaProg
section
namespace Go.Proofs.Ytiiljpaedelhlaa.Flow
open Go.RowKit
set_option linter.unusedVariables false
set_option linter.unusedSimpArgs false
set_option linter.unusedSectionVars false
abbrev Env := List (Nat × Value)
def sLook : Env → Nat → Option Value
  | [], _ => none
  | p :: r, s => cond (Nat.beq p.1 s) (some p.2) (sLook r s)
def sEv (G : Env) : Operand → Value
  | .tmp t => (sLook G t).getD undef
  | .const v => v
  | .global g => .pointer (some ⟨g, 0, none⟩)
  | .func f => .func (.func f) #[] #[]
structure Cx where
  ds : List Deferred
  r : Option Nat
  m : Nat
abbrev cx0 : Cx := ⟨[], none, 9⟩
abbrev FW (r : Option Nat) : Fence := { fn := fun _ => True, depth := none, alive := false, round := r }
structure Fits (cx : Cx) (n : Nat) (G : Env) (a : Act) : Prop where
  size : a.tmps.size = n
  defers : a.defers = cx.ds
  at_ : ∀ t v, sLook G t = some v → a.tmps[t]? = some v
def ext (d : Option Tmp) (v : Value) (G : Env) : Env := match d with | some t => (t, v) :: G | none => G
def Sub : Env → Env → Prop
  | [], _ => True
  | p :: r, G => sLook G p.1 = some p.2 ∧ Sub r G
theorem look_cons (t : Nat) (v : Value) (G : Env) (s : Nat) : sLook ((t, v) :: G) s = if t = s then some v else sLook G s := by
  by_cases h : t = s
  · subst h; simp [sLook]
  · simp only [sLook, h, if_false]
    have : Nat.beq t s = false := by
      cases hb : Nat.beq t s
      · rfl
      · exact absurd (Nat.eq_of_beq_eq_true hb) h
    rw [this]; rfl
theorem Sub.sLook {G' G : Env} (h : Sub G' G) {t : Nat} {v : Value} (hl : sLook G' t = some v) : Flow.sLook G t = some v := by
  induction G' with
  | nil => simp [Flow.sLook] at hl
  | cons p r ih =>
    obtain ⟨s, u⟩ := p
    rw [look_cons] at hl
    by_cases hs : s = t
    · subst hs
      rw [if_pos rfl] at hl
      obtain rfl := Option.some.inj hl
      exact h.1
    · rw [if_neg hs] at hl
      exact ih h.2 hl
theorem Fits.sub {cx : Cx} {n : Nat} {G G' : Env} {a : Act} (h : Fits cx n G a) (hs : Sub G' G) : Fits cx n G' a :=
  ⟨h.size, h.defers, fun t v hl => h.at_ t v (hs.sLook hl)⟩
theorem Fits.put {cx : Cx} {n : Nat} {G : Env} {a : Act} (h : Fits cx n G a) {d : Nat} (hd : Nat.blt d n = true) (v : Value) : Fits cx n ((d, v) :: G) (a.put (some d) v) := by
  have hd' : d < n := by simpa using hd
  refine ⟨by simp [Act.put, h.size], h.defers, fun t u hl => ?_⟩
  rw [look_cons] at hl
  by_cases hs : d = t
  · subst hs
    rw [if_pos rfl] at hl
    obtain rfl := Option.some.inj hl
    simp [Act.put, h.size, hd']
  · rw [if_neg hs] at hl
    simp only [Act.put]
    rw [Array.getElem?_setIfInBounds_ne hs]
    exact h.at_ t u hl
def knownO (G : Env) : Operand → Bool
  | .tmp t => (sLook G t).isSome
  | _ => true
def knownL (G : Env) : List Operand → Bool
  | [] => true
  | x :: r => knownO G x && knownL G r
def isSel : Op → Bool
  | .select _ _ => true
  | .defer _ => true
  | _ => false
def known (G : Env) (o : Oper) : Bool := !isSel o.op && knownL G o.op.operands.toList
theorem eval_known {cx : Cx} {n : Nat} {G : Env} {a : Act} (h : Fits cx n G a) {x : Operand} (hk : knownO G x = true) : a.eval x = sEv G x := by
  cases x with
  | tmp t =>
    simp only [knownO] at hk
    obtain ⟨v, hv⟩ := Option.isSome_iff_exists.1 hk
    simp only [Act.eval, sEv, hv, Option.getD_some]
    simp [h.at_ t v hv]
  | const v => rfl
  | global g => rfl
  | func f => rfl
theorem knownL_mem {G : Env} : ∀ {l : List Operand}, knownL G l = true → ∀ x ∈ l, knownO G x = true
  | [], _, x, hx => by cases hx
  | y :: r, h, x, hx => by
    simp only [knownL, Bool.and_eq_true] at h
    rcases List.mem_cons.1 hx with rfl | hx
    · exact h.1
    · exact knownL_mem h.2 x hx
theorem noSel {o : Oper} (h : isSel o.op = false) : ∀ cs b, o.op ≠ .select cs b := by
  intro cs b he
  rw [he] at h
  simp [isSel] at h
theorem exec_known {cx : Cx} {n : Nat} {G : Env} {a : Act} (h : Fits cx n G a) {o : Oper} (hk : known G o = true) : execOp a.eval o = execOp (sEv G) o := by
  simp only [known, Bool.and_eq_true, Bool.not_eq_true'] at hk
  exact execOp_congr o (noSel hk.1) fun x hx => eval_known h (knownL_mem hk.2 x (by simpa using hx))
abbrev Itm := Sum Code (Sum Nat (Act → World → Prop))
abbrev Itm.code (c : Code) : Itm := .inl c
abbrev Itm.blk (id : Nat) : Itm := .inr (.inl id)
abbrev Itm.lp (I : Act → World → Prop) : Itm := .inr (.inr I)
section
variable {P : Program}
def Ks (cx : Cx) (P : Program) : List Itm → (Exit → Act → World → Prop) → Exit → Act → World → Prop
  | [], Q, .outgrown, a, w => cx.r = none ∧ Q .outgrown a w
  | [], Q, e, a, w => Q e a w
  | .inl c :: st, Q, .normal, a, w => c.wpIn (FW cx.r) cx.m P (Ks cx P st Q) a w
  | .inl _ :: st, Q, .exit i, a, w => Ks cx P st Q (.exit i) a w
  | .inl _ :: st, Q, .goto i, a, w => Ks cx P st Q (.goto i) a w
  | .inl _ :: st, Q, .ret, a, w => Ks cx P st Q .ret a w
  | .inl _ :: st, Q, .panic c, a, w => Ks cx P st Q (.panic c) a w
  | .inl _ :: st, Q, .outgrown, a, w => Ks cx P st Q .outgrown a w
  | .inr (.inl id) :: st, Q, .exit i, a, w => if i = id then Ks cx P st Q .normal a w else Ks cx P st Q (.exit i) a w
  | .inr (.inl _) :: st, Q, e, a, w => Ks cx P st Q e a w
  | .inr (.inr I) :: st, Q, .normal, a, w => I a w
  | .inr (.inr _) :: st, Q, .exit i, a, w => Ks cx P st Q (.exit i) a w
  | .inr (.inr _) :: st, Q, .goto i, a, w => Ks cx P st Q (.goto i) a w
  | .inr (.inr _) :: st, Q, .ret, a, w => Ks cx P st Q .ret a w
  | .inr (.inr _) :: st, Q, .panic c, a, w => Ks cx P st Q (.panic c) a w
  | .inr (.inr _) :: st, Q, .outgrown, a, w => Ks cx P st Q .outgrown a w
theorem sel_def {o : Oper} (h : isSel o.op = false) : ∀ c, o.op ≠ .defer c := by
  intro c he
  rw [he] at h
  simp [isSel] at h
theorem letsOut_base {cx : Cx} {Q : Exit → Act → World → Prop} (hr : cx.r ≠ none) : ∀ st : List Itm, ¬ LetsOut (Ks cx P st Q)
  | [] => fun ⟨_, _, h⟩ => hr h.1
  | .inl _ :: st => fun ⟨a, w, h⟩ => letsOut_base hr st ⟨a, w, h⟩
  | .inr (.inl _) :: st => fun ⟨a, w, h⟩ => letsOut_base hr st ⟨a, w, h⟩
  | .inr (.inr _) :: st => fun ⟨a, w, h⟩ => letsOut_base hr st ⟨a, w, h⟩
theorem callsIn_fw {r : Option Nat} {m : Nat} {f : FuncId} {args : Array Value} {w : World} {R : Ending → World → Prop} (h : Calls P f args w R) : CallsIn (FW r) m P f args w R := (callsIn_wide (n := m)).2 h
theorem rowsIn_fw {r : Option Nat} {m : Nat} {row : String} {args : Array Value} {w : World} {R : Value → World → Prop} (h : Rows P row args w R) : RowsIn (FW r) m P row args w R := fun c cs _ =>
  let ⟨v, w', hr, hs⟩ := h c cs
  ⟨v, w', hr, (stepsIn_wide (P := P)).2 hs⟩
theorem oper_in {r : Option Nat} {m : Nat} {o : Oper} {a : Act} {w : World} {K : Act → World → Prop} {Q : Exit → Act → World → Prop} (hs : isSel o.op = false) (h : o.wp P a w K Q) : o.wpIn (FW r) m P a w K Q := by
  refine ⟨fun _ _ => trivial, ?_⟩
  rw [Oper.semAt_eq _ _ _ (sel_def hs)]
  unfold Oper.wp at h
  revert h
  generalize (execOp a.eval o).run P w = x
  intro h
  match x, h with
  | .ok (.value _) _, h => exact h
  | .ok .skip _, h => exact h
  | .ok (.defer _) _, h => exact h
  | .ok (.enter _ _) _, h => exact ⟨fun q => (by cases q), callsIn_fw h⟩
  | .ok (.row _ _) _, h => exact ⟨fun q => (by cases q), rowsIn_fw h⟩
  | .halt (.panic _) _, h => exact h
theorem list_in {r : Option Nat} {m : Nat} {ops : Array Oper} {Q : Exit → Act → World → Prop} (hq : ¬ LetsOut Q) : ∀ (l : List Oper), (∀ o ∈ l, isSel o.op = false) → ∀ (a : Act) (w : World), wpList P ops Q l a w → wpListIn (FW r) m P ops Q l a w
  | [], _, _, _, h => h
  | o :: l, hs, a, w, h => by
    unfold wpList at h
    unfold wpListIn
    split
    · rename_i hw
      rw [if_pos hw] at h
      rcases h with h | h
      · exact oper_in (hs o (by simp)) (Oper.wp_mono (fun a' w' q => list_in hq l (fun o' ho => hs o' (by simp [ho])) a' w' q) h)
      · exact absurd h.2 hq
    · rename_i hw
      rw [if_neg hw] at h
      exact ⟨fun _ _ => trivial, list_in hq l (fun o' ho => hs o' (by simp [ho])) _ _ h⟩
theorem any_in {r : Option Nat} {m : Nat} {ops : Array Oper} {Q : Exit → Act → World → Prop} (hq : ¬ LetsOut Q) (hs : ∀ (i : Nat) (o : Oper), ops[i]? = some o → isSel o.op = false) : ∀ (fuel : Nat) (D : Array Bool) (a : Act) (w : World), wpAny P .any ops Q fuel D a w → wpAnyIn (FW r) m P .any ops Q fuel D a w
  | 0, _, _, _, h => h
  | fuel + 1, D, a, w, h => ⟨h.1, fun i hi => by
    have h2 := h.2 i hi
    unfold wpOp at h2
    unfold wpOpIn
    split
    · rename_i ho
      rw [ho] at h2
      exact any_in hq hs fuel _ _ _ h2
    · rename_i o ho
      rw [ho] at h2
      simp only at h2
      split
      · rename_i hw
        rw [if_pos hw] at h2
        rcases h2 with h2 | h2
        · exact oper_in (hs i o ho) (Oper.wp_mono (fun a' w' q => any_in hq hs fuel _ a' w' q) h2)
        · exact absurd h2.2 hq
      · rename_i hw
        rw [if_neg hw] at h2
        exact ⟨fun _ _ => trivial, any_in hq hs fuel _ _ _ h2⟩⟩
theorem region_in {cx : Cx} {Q : Exit → Act → World → Prop} {st : List Itm} {id : Nat} {l : List Oper} {a : Act} {w : World} (hs : l.all (fun o => !isSel o.op) = true ∨ cx.r = none) (h : wpList P l.toArray (Ks cx P st Q) l a w) : (Code.region id l.toArray false).wpIn (FW cx.r) cx.m P (Ks cx P st Q) a w := by
  cases hr : cx.r with
  | none => exact wpIn_wide.2 (wp_region_lit h)
  | some k => exact wpIn_region_lit (list_in (letsOut_base (by rw [hr]; simp) st) l (fun o ho => by
      have h1 := List.all_eq_true.1 (hs.resolve_right (by rw [hr]; simp)) o ho
      simpa using h1) a w h)
theorem drawn_in {cx : Cx} {Q : Exit → Act → World → Prop} {st : List Itm} {id : Nat} {ops : Array Oper} {a : Act} {w : World} (hm : P.follows .mixedOrders = true) (hs : ∀ (i : Nat) (o : Oper), ops[i]? = some o → isSel o.op = false) (h : wpAny P .any ops (Ks cx P st Q) ops.size (Array.replicate ops.size false) a { w with drawn := w.drawn + 1 }) : (Code.region id ops true).wpIn (FW cx.r) cx.m P (Ks cx P st Q) a w := by
  cases hr : cx.r with
  | none => exact wpIn_wide.2 (wp_region_any hm h)
  | some k => exact wpIn_region_any hm (any_in (letsOut_base (by rw [hr]; simp) st) hs _ _ _ _ h)
def W (P : Program) (cx : Cx) (n : Nat) (Q : Exit → Act → World → Prop) (st : List Itm) (G : Env) (w : World) : Prop :=
  ∀ a, Fits cx n G a → Ks cx P st Q .normal a w
variable {cx : Cx} {n : Nat} {Q : Exit → Act → World → Prop} {st : List Itm} {G : Env} {w : World}
theorem Ks_ret : ∀ (st : List Itm) {a : Act} {w : World}, Q .ret a w → Ks cx P st Q .ret a w
  | [], _, _, h => h
  | .inl _ :: st, _, _, h => Ks_ret st h
  | .inr (.inl _) :: st, _, _, h => Ks_ret st h
  | .inr (.inr _) :: st, _, _, h => Ks_ret st h
def unwind (id : Nat) : List Itm → Option (List Itm)
  | [] => none
  | .inl _ :: st => unwind id st
  | .inr (.inl i) :: st => cond (Nat.beq i id) (some st) (unwind id st)
  | .inr (.inr _) :: st => unwind id st
theorem Ks_exit {id : Nat} : ∀ {st st' : List Itm} {a : Act} {w : World}, unwind id st = some st' → Ks cx P st' Q .normal a w → Ks cx P st Q (.exit id) a w
  | [], _, _, _, h, _ => by simp [unwind] at h
  | .inl _ :: st, _, _, _, h, k => Ks_exit (st := st) h k
  | .inr (.inr _) :: st, _, _, _, h, k => Ks_exit (st := st) h k
  | .inr (.inl i) :: st, st', a, w, h, k => by
    simp only [unwind] at h
    simp only [Ks]
    by_cases hi : id = i
    · subst hi
      rw [if_pos rfl]
      simp at h
      subst h
      exact k
    · rw [if_neg hi]
      have hb : Nat.beq i id = false := by
        cases hb : Nat.beq i id
        · rfl
        · exact absurd (Nat.eq_of_beq_eq_true hb).symm hi
      rw [hb] at h
      exact Ks_exit (st := st) h k
theorem w_weaken {G' : Env} (hs : Sub G' G) (h : W P cx n Q st G' w) : W P cx n Q st G w := fun a ha => h a (ha.sub hs)
theorem w_seq {x y : Code} (h : W P cx n Q (Itm.code x :: Itm.code y :: st) G w) : W P cx n Q (Itm.code (.seq x y) :: st) G w := fun a ha => by
  refine wpIn_seq (wpIn_mono (h a ha) fun e a w q => ?_)
  cases e <;> exact q
theorem w_skip (h : W P cx n Q st G w) : W P cx n Q (Itm.code .skip :: st) G w := fun a ha => wpIn_skip (h a ha)
theorem w_ret (h : ∀ a, Fits cx n G a → Q .ret a w) : W P cx n Q (Itm.code .ret :: st) G w := fun a ha => wpIn_ret (Ks_ret st (h a ha))
theorem w_end (h : ∀ a, Fits cx n G a → Q .normal a w) : W P cx n Q [] G w := h
theorem w_exit {id : Nat} {st' : List Itm} (hu : unwind id st = some st') (h : W P cx n Q st' G w) : W P cx n Q (Itm.code (.exit id) :: st) G w := fun a ha =>
  wpIn_exit (Ks_exit hu (h a ha))
theorem w_block {id : Nat} {c : Code} (h : W P cx n Q (Itm.code c :: Itm.blk id :: st) G w) : W P cx n Q (Itm.code (.block id c) :: st) G w := fun a ha => by
  refine wpIn_block (wpIn_mono (h a ha) fun e a w q => ?_)
  cases e <;> exact q
theorem w_blk {id : Nat} (h : W P cx n Q st G w) : W P cx n Q (Itm.blk id :: st) G w := fun a ha => h a ha
theorem w_cond {c : Operand} {x y : Code} {b : Bool} (hk : knownO G c = true) (hc : sEv G c = .bool b) (ht : b = true → W P cx n Q (Itm.code x :: st) G w) (hf : b = false → W P cx n Q (Itm.code y :: st) G w) : W P cx n Q (Itm.code (.cond c x y) :: st) G w := fun a ha => by
  refine wpIn_cond_split (t := b) ((eval_known ha hk).trans hc) (fun h => ht h a ha) (fun h => hf h a ha)
theorem w_cond_t {c : Operand} {x y : Code} {b : Bool} (hk : knownO G c = true) (hc : sEv G c = .bool b) (hb : b = true) (ht : W P cx n Q (Itm.code x :: st) G w) : W P cx n Q (Itm.code (.cond c x y) :: st) G w :=
  w_cond hk hc (fun _ => ht) (fun h => by rw [hb] at h; cases h)
theorem w_cond_f {c : Operand} {x y : Code} {b : Bool} (hk : knownO G c = true) (hc : sEv G c = .bool b) (hb : b = false) (hf : W P cx n Q (Itm.code y :: st) G w) : W P cx n Q (Itm.code (.cond c x y) :: st) G w :=
  w_cond hk hc (fun h => by rw [hb] at h; cases h) (fun _ => hf)
def Back (cx : Cx) (n : Nat) (J : Nat → Env → World → Prop) (m : Nat) (a : Act) (w : World) : Prop := ∃ m' G', m' < m ∧ Fits cx n G' a ∧ J m' G' w
theorem least {p : Nat → Prop} (h : ∃ m, p m) : ∃ m, p m ∧ ∀ k, p k → m ≤ k := by
  obtain ⟨m, hm⟩ := h
  induction m using Nat.strongRecOn with
  | _ m ih =>
    by_cases h2 : ∃ k, k < m ∧ p k
    · obtain ⟨k, hk, hp⟩ := h2
      exact ih k hk hp
    · exact ⟨m, hm, fun k hp => Nat.le_of_not_lt fun hlt => h2 ⟨k, hlt, hp⟩⟩
theorem w_loop {c : Code} (J : Nat → Env → World → Prop) (m0 : Nat) (G0 : Env) (h0 : J m0 G0 w) (hs : Sub G0 G)
    (round : ∀ m G w, J m G w → W P cx n Q (Itm.code c :: Itm.lp (Back cx n J m) :: st) G w) : W P cx n Q (Itm.code (.loop c) :: st) G w := fun a ha => by
  classical
  let p : Act → World → Nat → Prop := fun a w m => ∃ G, Fits cx n G a ∧ J m G w
  let mu : Act → World → Nat := fun a w => if h : ∃ m, p a w m then Classical.choose (least h) else 0
  have hmu : ∀ a w (h : ∃ m, p a w m), p a w (mu a w) ∧ ∀ k, p a w k → mu a w ≤ k := fun a w h => by
    have e : mu a w = Classical.choose (least h) := by simp only [mu]; rw [dif_pos h]
    rw [e]
    exact Classical.choose_spec (least h)
  refine wpIn_loop (fun a w => ∃ m, p a w m) mu ⟨m0, G0, ha.sub hs, h0⟩ fun a w hI => ?_
  obtain ⟨⟨G1, hf1, hj1⟩, hmin⟩ := hmu a w hI
  refine wpIn_mono (round (mu a w) G1 w hj1 a hf1) fun e a' w' q => ?_
  cases e with
  | normal =>
    obtain ⟨m', G', hlt, hf, hj⟩ := q
    have hI' : ∃ m, p a' w' m := ⟨m', G', hf, hj⟩
    exact ⟨hI', Nat.lt_of_le_of_lt ((hmu a' w' hI').2 m' ⟨G', hf, hj⟩) hlt⟩
  | _ => exact q
theorem w_loop1 {c : Code} (h : W P cx n Q (Itm.code c :: Itm.lp (fun _ _ => False) :: st) G w) : W P cx n Q (Itm.code (.loop c) :: st) G w := fun a ha => by
  refine wpIn_loop_once (wpIn_mono (h a ha) fun e a w q => ?_)
  cases e <;> exact q
theorem w_back {J : Nat → Env → World → Prop} {m : Nat} (m' : Nat) (G' : Env) (hlt : m' < m) (hs : Sub G' G) (hj : J m' G' w) : W P cx n Q (Itm.lp (Back cx n J m) :: st) G w := fun a ha =>
  ⟨m', G', hlt, ha.sub hs, hj⟩
theorem calls_flow {f : FuncId} {fn : Func} {c : Code} {args : Array Value} {R : Ending → World → Prop} (hf : P.funcs[f]? = some fn) (hb : fn.body = some c) (n : Nat) (hn : fn.ntmps = n) (hsz : args.size ≤ n)
    (G : Env) (hG : ∀ t v, sLook G t = some v → args[t]? = some v) (h : W P cx0 n (bodyPost P fn R) [Itm.code c] G w) : Calls P f args w R := by
  refine calls_of_wp hf hb (wpIn_wide (n := 9).1 (wpIn_mono (c := c) (Q := Ks cx0 P [] (bodyPost P fn R)) ?_ fun e a w q => ?_))
  rotate_left
  · cases e <;> first | exact q.2 | exact q
  refine h _ ⟨by simp [hn]; omega, rfl, fun t v hl => ?_⟩
  have h1 := hG t v hl
  have hlt : t < args.size := (Array.getElem?_eq_some_iff.1 h1).1
  rw [Array.getElem?_append_left hlt]
  exact h1
def argEnv : Nat → List Value → Env
  | _, [] => []
  | k, v :: r => (k, v) :: argEnv (k + 1) r
theorem argEnv_look : ∀ (l : List Value) (k t : Nat) (v : Value), sLook (argEnv k l) t = some v → k ≤ t ∧ l[t - k]? = some v
  | [], k, t, v, h => by simp [argEnv, sLook] at h
  | x :: r, k, t, v, h => by
    simp only [argEnv] at h
    rw [look_cons] at h
    by_cases hk : k = t
    · subst hk; rw [if_pos rfl] at h; simpa using h
    · rw [if_neg hk] at h
      obtain ⟨h1, h2⟩ := argEnv_look r (k + 1) t v h
      refine ⟨by omega, ?_⟩
      rw [show t - k = (t - (k + 1)) + 1 by omega]
      simpa using h2
theorem args_look {l : List Value} {G : Env} (hG : G = argEnv 0 l) : ∀ t v, sLook G t = some v → (l.toArray)[t]? = some v := by
  subst hG
  intro t v h
  have := (argEnv_look l 0 t v h).2
  simpa using this
theorem fits_getD {a : Act} (h : Fits cx n G a) {t : Nat} {v : Value} (hl : sLook G t = some v) : a.tmps.getD t undef = v := by
  simp [h.at_ t v hl]
theorem post_end0 {fn : Func} {R : Ending → World → Prop} (hr : fn.results = #[]) (hR : R (.returned (.tuple #[])) w) : ∀ a, Fits cx0 n G a → bodyPost P fn R .normal a w := fun a ha =>
  ⟨ha.defers, _, results_none hr _ _ _, hR⟩
theorem post_ret1 {fn : Func} {R : Ending → World → Prop} {t : Nat} {v : Value} (hr : fn.results = #[.tmp t]) (hl : sLook G t = some v) (hR : R (.returned v) w) : ∀ a, Fits cx0 n G a → bodyPost P fn R .ret a w := fun a ha =>
  ⟨ha.defers, _, results_tmp hr _ _ _, by rw [fits_getD ha hl]; exact hR⟩
theorem post_ret2 {fn : Func} {R : Ending → World → Prop} {t u : Nat} {v x : Value} (hr : fn.results = #[.tmp t, .tmp u]) (hl : sLook G t = some v) (hl2 : sLook G u = some x) (hR : R (.returned (.tuple #[v, x])) w) : ∀ a, Fits cx0 n G a → bodyPost P fn R .ret a w := fun a ha =>
  ⟨ha.defers, _, results_tmp2 hr _ _ _, by rw [fits_getD ha hl, fits_getD ha hl2]; exact hR⟩
theorem post_ret3 {fn : Func} {R : Ending → World → Prop} {t u s : Nat} {v x y : Value} (hr : fn.results = #[.tmp t, .tmp u, .tmp s]) (hl : sLook G t = some v) (hl2 : sLook G u = some x) (hl3 : sLook G s = some y) (hR : R (.returned (.tuple #[v, x, y])) w) : ∀ a, Fits cx0 n G a → bodyPost P fn R .ret a w := fun a ha => by
  refine ⟨ha.defers, .tuple #[v, x, y], ?_, hR⟩
  have h1 := fits_getD ha hl
  have h2 := fits_getD ha hl2
  have h3 := fits_getD ha hl3
  simp [results, hr] at h1 h2 h3 ⊢
  simp [h1, h2, h3]
end
end Go.Proofs.Ytiiljpaedelhlaa.Flow
end
section
namespace Go.Proofs.Ytiiljpaedelhlaa.Flow
open Go.RowKit
set_option linter.unusedVariables false
set_option linter.unusedSimpArgs false
set_option linter.unusedSectionVars false
section
variable {P : Program} {cx : Cx} {n : Nat} {Q : Exit → Act → World → Prop} {st : List Itm} {G : Env} {w : World} {ops : Array Oper}
theorem wanted_none {o : Oper} (h : o.guard = none) (y : Nat → Option Bool) : Region.wanted o y = true := by simp [Region.wanted, h]
theorem wanted_some {o : Oper} {g : Nat} {b c : Bool} {t : Nat} {a : Act} (hf : Fits cx n G a) (h : o.guard = some (g, b)) (ht : (ops[g]?).bind (·.dst) = some t) (hl : sLook G t = some (.bool c)) :
    Region.wanted o (yielded ops a.tmps) = (c == b) := by
  simp [Region.wanted, h, yielded, ht, hf.at_ t _ hl]
theorem wanted_undef {o : Oper} {g : Nat} {b : Bool} {t : Nat} {a : Act} (hf : Fits cx n G a) (h : o.guard = some (g, b)) (ht : (ops[g]?).bind (·.dst) = some t) (hl : sLook G t = some undef) :
    Region.wanted o (yielded ops a.tmps) = false := by
  simp [Region.wanted, h, yielded, ht, hf.at_ t _ hl, undef]
def RW (P : Program) (ops : Array Oper) (cx : Cx) (n : Nat) (Q : Exit → Act → World → Prop) (rest : List Oper) (G : Env) (w : World) : Prop :=
  ∀ a, Fits cx n G a → wpList P ops Q rest a w
theorem w_region {id : Nat} {l : List Oper} (h : RW P l.toArray cx n (Ks cx P st Q) l G w) (hs : l.all (fun o => !isSel o.op) = true := by rfl) : W P cx n Q (Itm.code (.region id l.toArray false) :: st) G w := fun a ha =>
  region_in (.inl hs) (h a ha)
theorem rw_end (h : W P cx n Q st G w) : RW P ops cx n (Ks cx P st Q) [] G w := fun a ha => wpList_nil (h a ha)
variable {o : Oper} {rest : List Oper}
theorem rw_val {d : Nat} {v : Value} {w' : World} (hg : o.guard = none) (hd : o.dst = some d) (hdn : Nat.blt d n = true) (hk : known G o = true)
    (hrun : (execOp (sEv G) o).run P w = .ok (.value v) w') (k : RW P ops cx n Q rest ((d, v) :: G) w') : RW P ops cx n Q (o :: rest) G w := fun a ha =>
  wpList_plain hg fun K hK => by
    unfold Oper.wp
    rw [exec_known ha hk, hrun, Oper.upon_value, hd]
    exact hK _ _ (k _ (ha.put hdn v))
theorem rw_skip {w' : World} (hg : o.guard = none) (hd : o.dst = none) (hk : known G o = true)
    (hrun : (execOp (sEv G) o).run P w = .ok .skip w') (k : RW P ops cx n Q rest G w') : RW P ops cx n Q (o :: rest) G w := fun a ha =>
  wpList_plain hg fun K hK => by
    unfold Oper.wp
    rw [exec_known ha hk, hrun, Oper.upon_skip, hd]
    exact hK _ _ (k _ ha)
theorem rw_call {d : Nat} {f : FuncId} {args : Array Value} {R : Ending → World → Prop} (hg : o.guard = none) (hd : o.dst = some d) (hdn : Nat.blt d n = true) (hk : known G o = true)
    (hrun : (execOp (sEv G) o).run P w = .ok (.enter f args) w) (hc : Calls P f args w R) (k : ∀ e w', R e w' → ∃ v, e = .returned v ∧ RW P ops cx n Q rest ((d, v) :: G) w') : RW P ops cx n Q (o :: rest) G w := fun a ha =>
  wpList_plain hg fun K hK => by
    unfold Oper.wp
    rw [exec_known ha hk, hrun, Oper.upon_enter, hd]
    refine hc.mono fun e w' he => ?_
    obtain ⟨v, rfl, h⟩ := k e w' he
    exact hK _ _ (h _ (ha.put hdn v))
theorem rw_guard {g t : Nat} {b c : Bool} (hgd : o.guard = some (g, b)) (ht : (ops[g]?).bind (·.dst) = some t) (hl : sLook G t = some (.bool c))
    (hon : c = b → ∀ a, Fits cx n G a → o.wp P a w (wpList P ops Q rest) Q) (hoff : c ≠ b → RW P ops cx n Q rest (ext o.dst undef G) w) (hdn : ∀ d, o.dst = some d → Nat.blt d n = true) : RW P ops cx n Q (o :: rest) G w := fun a ha => by
  have hw := wanted_some (ops := ops) ha hgd ht hl
  unfold wpList
  by_cases hc : c = b
  · rw [if_pos (by rw [hw]; simp [hc])]
    exact .inl (hon hc a ha)
  · rw [if_neg (by rw [hw]; simp [hc])]
    cases hd : o.dst with
    | none =>
      have := hoff hc
      rw [hd] at this
      exact this a ha
    | some d =>
      have := hoff hc
      rw [hd] at this
      exact this _ (ha.put (hdn d hd) undef)
theorem rw_off {g t d : Nat} {b c : Bool} (hgd : o.guard = some (g, b)) (ht : (ops[g]?).bind (·.dst) = some t) (hl : sLook G t = some (.bool c)) (hne : (c == b) = false) (hd : o.dst = some d) (hdn : Nat.blt d n = true)
    (k : RW P ops cx n Q rest ((d, undef) :: G) w) : RW P ops cx n Q (o :: rest) G w :=
  rw_guard hgd ht hl (fun h => by simp [h] at hne) (fun _ => by rw [hd]; exact k) (fun d' h => by rw [hd] at h; cases h; exact hdn)
theorem rw_offu {g t d : Nat} {b : Bool} (hgd : o.guard = some (g, b)) (ht : (ops[g]?).bind (·.dst) = some t) (hl : sLook G t = some undef) (hd : o.dst = some d) (hdn : Nat.blt d n = true)
    (k : RW P ops cx n Q rest ((d, undef) :: G) w) : RW P ops cx n Q (o :: rest) G w := fun a ha => by
  have hw := wanted_undef (ops := ops) ha hgd ht hl
  unfold wpList
  rw [if_neg (by rw [hw]; simp), hd]
  exact k _ (ha.put hdn undef)
theorem rw_gval {g t d : Nat} {b c : Bool} {v : Value} {w' : World} (hgd : o.guard = some (g, b)) (ht : (ops[g]?).bind (·.dst) = some t) (hl : sLook G t = some (.bool c)) (he : (c == b) = true) (hd : o.dst = some d) (hdn : Nat.blt d n = true) (hk : known G o = true)
    (hrun : (execOp (sEv G) o).run P w = .ok (.value v) w') (k : RW P ops cx n Q rest ((d, v) :: G) w') : RW P ops cx n Q (o :: rest) G w :=
  rw_guard hgd ht hl (fun _ a ha => by
    unfold Oper.wp
    rw [exec_known ha hk, hrun, Oper.upon_value, hd]
    exact k _ (ha.put hdn v)) (fun h => absurd (by simpa using he) h) (fun d' h => by rw [hd] at h; cases h; exact hdn)
theorem rw_gcall {g t d : Nat} {b c : Bool} {f : FuncId} {args : Array Value} {R : Ending → World → Prop} (hgd : o.guard = some (g, b)) (ht : (ops[g]?).bind (·.dst) = some t) (hl : sLook G t = some (.bool c)) (he : (c == b) = true) (hd : o.dst = some d) (hdn : Nat.blt d n = true) (hk : known G o = true)
    (hrun : (execOp (sEv G) o).run P w = .ok (.enter f args) w) (hc : Calls P f args w R) (k : ∀ e w', R e w' → ∃ v, e = .returned v ∧ RW P ops cx n Q rest ((d, v) :: G) w') : RW P ops cx n Q (o :: rest) G w :=
  rw_guard hgd ht hl (fun _ a ha => by
    unfold Oper.wp
    rw [exec_known ha hk, hrun, Oper.upon_enter, hd]
    refine hc.mono fun e w' he => ?_
    obtain ⟨v, rfl, h⟩ := k e w' he
    exact h _ (ha.put hdn v)) (fun h => absurd (by simpa using he) h) (fun d' h => by rw [hd] at h; cases h; exact hdn)
def edgeOk (M : List Nat) (o : Oper) (i j : Nat) : Bool := o.after.toList.any fun e => Region.binds .any e && (Nat.blt e.on i && (Nat.beq e.on j || Nat.testBit (M.getD e.on 0) j))
def upto : Nat → (Nat → Bool) → Bool
  | 0, _ => true
  | k + 1, p => p k && upto k p
theorem upto_spec : ∀ {k : Nat} {p : Nat → Bool}, upto k p = true → ∀ i, i < k → p i = true
  | 0, _, _, i, hi => absurd hi (Nat.not_lt_zero i)
  | k + 1, p, h, i, hi => by
    simp only [upto, Bool.and_eq_true] at h
    rcases Nat.lt_or_eq_of_le (Nat.le_of_lt_succ hi) with h1 | h1
    · exact upto_spec h.2 i h1
    · subst h1; exact h.1
def eyes (l : List Oper) (o : Oper) : List Nat := (o.op.operands.toList.filterMap fun | .tmp t => some t | _ => none) ++ (match o.guard with | some (g, _) => ((l[g]?).bind (·.dst)).toList | none => [])
def rowOk (l : List Oper) (M : List Nat) (i : Nat) : Bool :=
  match l[i]? with
  | none => true
  | some o => !isSel o.op && (o.after.toList.all fun e => !Region.binds .any e || Nat.blt e.on i) && upto i (fun j => !Nat.testBit (M.getD i 0) j || edgeOk M o i j) && Nat.beq (Nat.shiftRight (M.getD i 0) i) 0 &&
      (List.range l.length).all (fun k => match (l[k]?).bind (·.dst) with
        | none => true
        | some d => (Nat.beq k i || !(match o.dst with | some e => Nat.beq d e | none => false)) && (!(eyes l o).contains d || Nat.testBit (M.getD i 0) k || Nat.testBit (M.getD k 0) i))
def listOk (l : List Oper) (M : List Nat) : Bool := upto l.length (rowOk l M)
structure Spec where
  s : Value → World → Prop
  pl : Value → Prop
  stab : ∀ v w w', Below w.heap.size w w' → s v w → s v w'
  imp : ∀ v w, s v w → pl v
  inh : ∃ v, pl v
def Is (c : Value) : Spec := ⟨fun v _ => v = c, fun v => v = c, fun _ _ _ _ h => h, fun _ _ h => h, ⟨c, rfl⟩⟩
def Gives (P : Program) (s : Spec) (w : World) : Result Next → Prop
  | .ok (.value v) w' => s.s v w' ∧ Below w.heap.size w w'
  | .ok .skip w' => s.s undef w' ∧ Below w.heap.size w w'
  | .ok (.enter f args) w1 => w1 = w ∧ Calls P f args w fun e w' => ∃ v, e = .returned v ∧ s.s v w' ∧ Below w.heap.size w w'
  | _ => False
def StepOk (P : Program) (l : List Oper) (o : Oper) (G : Env) (w : World) (s : Spec) : Prop :=
  match o.guard with
  | none => known G o = true ∧ Gives P s w ((execOp (sEv G) o).run P w)
  | some (g, b) => (∃ t c, (l[g]?).bind (·.dst) = some t ∧ sLook G t = some (.bool c) ∧ (c = b → known G o = true ∧ Gives P s w ((execOp (sEv G) o).run P w)) ∧ (c ≠ b → s.s undef w)) ∨ (∃ t, (l[g]?).bind (·.dst) = some t ∧ sLook G t = some undef ∧ s.s undef w)
abbrev Facts := List (Spec × Value)
def Have (m : Nat) (F : Facts) (w : World) : Prop := ∀ (k : Nat) (s : Spec) (v : Value), F[k]? = some (s, v) → Nat.testBit m k = true → s.s v w
def HaveAll (F : Facts) (w : World) : Prop := ∀ (k : Nat) (s : Spec) (v : Value), F[k]? = some (s, v) → s.s v w
def Tele (P : Program) (n : Nat) (l : List Oper) (w0 : World) (M : List Nat) (E : Env → Facts → Prop) : List Oper → List Spec → List Nat → Facts → Env → Prop
  | [], [], [], F, G => E G F
  | o :: os, s :: ss, m :: ms, F, G => (∀ d, o.dst = some d → Nat.blt d n = true) ∧ (∀ w, Below w0.heap.size w0 w → Have m F w → StepOk P l o G w s) ∧ ∀ v, s.pl v → Tele P n l w0 M E os ss ms (F ++ [(s, v)]) (ext o.dst v G)
  | _, _, _, _, _ => False
def fz : List Spec → (Nat → Value) → Nat → Facts
  | [], _, _ => []
  | s :: ss, vs, k => (s, vs k) :: fz ss vs (k + 1)
def gz : List Oper → (Nat → Value) → Nat → Env → Env
  | [], _, _, G => G
  | o :: os, vs, k, G => gz os vs (k + 1) (ext o.dst (vs k) G)
theorem fz_get : ∀ (ss : List Spec) (vs : Nat → Value) (k j : Nat), (fz ss vs k)[j]? = (ss[j]?).map fun s => (s, vs (k + j))
  | [], _, _, _ => by simp [fz]
  | s :: ss, vs, k, 0 => by simp [fz]
  | s :: ss, vs, k, j + 1 => by
    simp only [fz, List.getElem?_cons_succ]
    rw [fz_get ss vs (k + 1) j, show k + 1 + j = k + (j + 1) by omega]
theorem gz_look : ∀ (os : List Oper) (vs : Nat → Value) (k : Nat) (G : Env) (t : Nat) (v : Value), sLook (gz os vs k G) t = some v →
    (∃ j o, os[j]? = some o ∧ o.dst = some t ∧ v = vs (k + j)) ∨ ((∀ (j : Nat) (o : Oper), os[j]? = some o → o.dst ≠ some t) ∧ sLook G t = some v)
  | [], _, _, G, t, v, h => .inr ⟨fun j o h => by simp at h, h⟩
  | o :: os, vs, k, G, t, v, h => by
    rcases gz_look os vs (k + 1) _ t v h with ⟨j, o', h1, h2, h3⟩ | ⟨h1, h2⟩
    · exact .inl ⟨j + 1, o', by simpa using h1, h2, by rw [h3]; congr 1; omega⟩
    · cases hd : o.dst with
      | none =>
        rw [hd] at h2
        refine .inr ⟨fun j o' hj => ?_, h2⟩
        cases j with
        | zero => simp at hj; subst hj; rw [hd]; simp
        | succ j => exact h1 j o' (by simpa using hj)
      | some d =>
        rw [hd] at h2
        simp only [ext] at h2
        rw [look_cons] at h2
        by_cases hs : d = t
        · subst hs
          rw [if_pos rfl] at h2
          exact .inl ⟨0, o, by simp, hd, by simpa using (Option.some.inj h2).symm⟩
        · rw [if_neg hs] at h2
          refine .inr ⟨fun j o' hj => ?_, h2⟩
          cases j with
          | zero => simp at hj; subst hj; rw [hd]; intro he; exact hs (Option.some.inj he)
          | succ j => exact h1 j o' (by simpa using hj)
theorem tele_at {l : List Oper} {w0 : World} {M : List Nat} {E : Env → Facts → Prop} : ∀ (os : List Oper) (ss : List Spec) (ms : List Nat) (F : Facts) (G : Env), Tele P n l w0 M E os ss ms F G → ∀ vs : Nat → Value, (∀ (j : Nat) (s : Spec), ss[j]? = some s → s.pl (vs (F.length + j))) →
    (∀ (j : Nat) (o : Oper), os[j]? = some o → ∃ s m, ss[j]? = some s ∧ ms[j]? = some m ∧ (∀ d, o.dst = some d → Nat.blt d n = true) ∧
      ∀ w, Below w0.heap.size w0 w → Have m (F ++ fz (ss.take j) vs F.length) w → StepOk P l o (gz (os.take j) vs F.length G) w s) ∧ E (gz os vs F.length G) (F ++ fz ss vs F.length)
  | [], [], [], F, G, h, vs, _ => ⟨fun j o hj => by simp at hj, by have h' : E G F := h; simpa [gz, fz] using h'⟩
  | o :: os, s :: ss, m :: ms, F, G, h, vs, hp => by
    obtain ⟨h2, h3, h4⟩ := h
    obtain ⟨h5, h6⟩ := tele_at os ss ms _ _ (h4 (vs F.length) (by simpa using hp 0 s rfl)) vs (fun j s' hj => by
      have := hp (j + 1) s' (by simpa using hj)
      simp only [List.length_append, List.length_cons, List.length_nil]
      rw [show F.length + (0 + 1) + j = F.length + (j + 1) by omega]
      exact this)
    have hlen : (F ++ [(s, vs F.length)]).length = F.length + 1 := by simp
    rw [hlen] at h5 h6
    refine ⟨fun j o' hj => ?_, by simpa [gz, fz] using h6⟩
    cases j with
    | zero =>
      simp at hj
      subst hj
      exact ⟨s, m, rfl, rfl, h2, fun w hb hh => by simpa [gz] using h3 w hb (by simpa [fz] using hh)⟩
    | succ j =>
      obtain ⟨s', m', e1, e2, e4, e5⟩ := h5 j o' (by simpa using hj)
      refine ⟨s', m', by simpa using e1, by simpa using e2, e4, fun w hb hh => ?_⟩
      have := e5 w hb (by simpa [fz] using hh)
      simpa [gz] using this
  | [], [], _ :: _, _, _, h, _, _ => h.elim
  | [], _ :: _, _, _, _, h, _, _ => h.elim
  | _ :: _, [], _, _, _, h, _, _ => h.elim
  | _ :: _, _ :: _, [], _, _, h, _, _ => h.elim
def cf : List Bool → Nat
  | [] => 0
  | b :: r => (if b then 0 else 1) + cf r
theorem cf_set : ∀ (l : List Bool) (i : Nat), l[i]? = some false → cf (l.set i true) + 1 = cf l
  | [], i, h => by simp at h
  | b :: r, 0, h => by simp at h; subst h; simp [cf]; omega
  | b :: r, i + 1, h => by
    have := cf_set r i (by simpa using h)
    simp only [List.set_cons_succ, cf]
    omega
theorem cf_zero : ∀ (l : List Bool), cf l = 0 → ∀ (i : Nat) (b : Bool), l[i]? = some b → b = true
  | [], _, i, b, h => by simp at h
  | c :: r, h0, 0, b, h => by simp at h; subst h; cases c <;> simp_all [cf]
  | c :: r, h0, i + 1, b, h => cf_zero r (by simp only [cf] at h0; omega) i b (by simpa using h)
theorem exec_eyes {l : List Oper} {o : Oper} {a : Act} (he : ∀ t ∈ eyes l o, ∀ v, sLook G t = some v → a.tmps[t]? = some v) (hk : known G o = true) : execOp a.eval o = execOp (sEv G) o := by
  simp only [known, Bool.and_eq_true, Bool.not_eq_true'] at hk
  refine execOp_congr o (noSel hk.1) fun x hx => ?_
  have hkx := knownL_mem hk.2 x (by simpa using hx)
  cases x with
  | tmp t =>
    simp only [knownO] at hkx
    obtain ⟨v, hv⟩ := Option.isSome_iff_exists.1 hkx
    have hm : t ∈ eyes l o := List.mem_append_left _ (List.mem_filterMap.2 ⟨.tmp t, by simpa using hx, rfl⟩)
    simp only [Act.eval, sEv, hv, Option.getD_some]
    simp [he t hm v hv]
  | const v => rfl
  | global g => rfl
  | func f => rfl
theorem listOk_sel {l : List Oper} {M : List Nat} (h : listOk l M = true) : ∀ (i : Nat) (o : Oper), l[i]? = some o → isSel o.op = false := by
  intro i o hi
  have h1 := upto_spec h i (List.getElem?_eq_some_iff.1 hi).1
  unfold rowOk at h1
  rw [hi] at h1
  simp only [Bool.and_eq_true, Bool.not_eq_true'] at h1
  exact h1.1.1.1.1
structure Inv (l : List Oper) (ss : List Spec) (cx : Cx) (n : Nat) (G : Env) (w0 : World) (vs : Nat → Value) (D : Array Bool) (a : Act) (w : World) : Prop where
  dsize : D.size = l.length
  closed : ∀ (j : Nat) (o : Oper), l[j]? = some o → D.getD j false = true → ∀ e ∈ o.after, Region.binds .any e = true → D.getD e.on false = true
  below : Below w0.heap.size w0 w
  facts : ∀ k s, D.getD k false = true → ss[k]? = some s → s.s (vs k) w
  pls : ∀ (k : Nat) (s : Spec), ss[k]? = some s → s.pl (vs k)
  size : a.tmps.size = n
  defers : a.defers = cx.ds
  old : ∀ t v, (∀ (k : Nat) (o : Oper), l[k]? = some o → o.dst = some t → D.getD k false = false) → sLook G t = some v → a.tmps[t]? = some v
  new : ∀ (k : Nat) (o : Oper) d, l[k]? = some o → o.dst = some d → D.getD k false = true → a.tmps[d]? = some (vs k)
structure Static (l : List Oper) (M : List Nat) : Prop where
  back : ∀ (i : Nat) (o : Oper), l[i]? = some o → ∀ e ∈ o.after, Region.binds .any e = true → e.on < i
  bits : ∀ (i : Nat) (o : Oper) j, l[i]? = some o → Nat.testBit (M.getD i 0) j = true → j < i ∧ ∃ e ∈ o.after, Region.binds .any e = true ∧ e.on < i ∧ (e.on = j ∨ Nat.testBit (M.getD e.on 0) j = true)
  uniq : ∀ (i k : Nat) (o o' : Oper) d, l[i]? = some o → l[k]? = some o' → o.dst = some d → o'.dst = some d → k = i
  seen : ∀ (i k : Nat) (o o' : Oper) d, l[i]? = some o → l[k]? = some o' → o'.dst = some d → d ∈ eyes l o → Nat.testBit (M.getD i 0) k = true ∨ Nat.testBit (M.getD k 0) i = true
theorem shift_zero {m i j : Nat} (h : Nat.shiftRight m i = 0) (hj : Nat.testBit m j = true) : j < i := by
  rcases Nat.lt_or_ge j i with h1 | h1
  · exact h1
  · have h2 : (m >>> i).testBit (j - i) = m.testBit j := by rw [Nat.testBit_shiftRight]; congr 1; omega
    have h3 : m >>> i = 0 := h
    rw [h3, hj] at h2
    simp at h2
theorem static_of {l : List Oper} {M : List Nat} (h : listOk l M = true) : Static l M := by
  have hr : ∀ (i : Nat) (o : Oper), l[i]? = some o → rowOk l M i = true := fun i o hi => upto_spec h i (List.getElem?_eq_some_iff.1 hi).1
  have hp : ∀ (i : Nat) (o : Oper), l[i]? = some o → ((∀ e ∈ o.after, Region.binds .any e = true → e.on < i) ∧ (∀ j, j < i → Nat.testBit (M.getD i 0) j = true → edgeOk M o i j = true) ∧ Nat.shiftRight (M.getD i 0) i = 0 ∧
      ∀ (k : Nat) (o' : Oper) d, l[k]? = some o' → o'.dst = some d → (k = i ∨ o.dst ≠ some d) ∧ (d ∈ eyes l o → Nat.testBit (M.getD i 0) k = true ∨ Nat.testBit (M.getD k 0) i = true)) := by
    intro i o hi
    have h1 := hr i o hi
    unfold rowOk at h1
    rw [hi] at h1
    simp only [Bool.and_eq_true] at h1
    obtain ⟨⟨⟨⟨_, h2⟩, h3⟩, h4⟩, h5⟩ := h1
    refine ⟨fun e he hb => ?_, fun j hj hm => ?_, Nat.eq_of_beq_eq_true h4, fun k o' d hk hd => ?_⟩
    · have := List.all_eq_true.1 h2 e (by simpa using he)
      simpa [hb] using this
    · have := upto_spec h3 j hj
      rw [hm] at this
      simpa using this
    · have h6 := List.all_eq_true.1 h5 k (List.mem_range.2 (List.getElem?_eq_some_iff.1 hk).1)
      rw [hk] at h6
      simp only [Option.bind_some, hd, Bool.and_eq_true, Bool.or_eq_true, Bool.not_eq_true'] at h6
      refine ⟨h6.1.imp Nat.eq_of_beq_eq_true (fun h7 h8 => ?_), fun hm => ?_⟩
      · rw [h8] at h7
        simp at h7
      · rcases h6.2 with (h7 | h7) | h7
        · have : (eyes l o).contains d = true := by simpa using hm
          rw [this] at h7
          cases h7
        · exact .inl h7
        · exact .inr h7
  refine ⟨fun i o hi => (hp i o hi).1, fun i o j hi hm => ?_, fun i k o o' d hi hk hd hd' => ?_, fun i k o o' d hi hk hd hm => ((hp i o hi).2.2.2 k o' d hk hd).2 hm⟩
  · have hlt := shift_zero (hp i o hi).2.2.1 hm
    have h2 := (hp i o hi).2.1 j hlt hm
    simp only [edgeOk] at h2
    obtain ⟨e, he, h3⟩ := List.any_eq_true.1 h2
    simp only [Bool.and_eq_true, Bool.or_eq_true] at h3
    exact ⟨hlt, e, by simpa using he, h3.1, by simpa using h3.2.1, h3.2.2.imp Nat.eq_of_beq_eq_true id⟩
  · exact (((hp i o hi).2.2.2 k o' d hk hd').1).resolve_right (fun h => h hd)
theorem mask_listed {l : List Oper} {M : List Nat} (hs : Static l M) {D : Array Bool} (hc : ∀ (j : Nat) (o : Oper), l[j]? = some o → D.getD j false = true → ∀ e ∈ o.after, Region.binds .any e = true → D.getD e.on false = true) :
    ∀ (i : Nat) (o : Oper) j, l[i]? = some o → (∀ e ∈ o.after, Region.binds .any e = true → D.getD e.on false = true) → Nat.testBit (M.getD i 0) j = true → D.getD j false = true := by
  intro i
  induction i using Nat.strongRecOn with
  | _ i ih =>
    intro o j hi hpre hm
    obtain ⟨_, e, he, hb, hlt, h1⟩ := hs.bits i o j hi hm
    rcases h1 with h1 | h1
    · rw [← h1]; exact hpre e he hb
    · have hel : e.on < l.length := Nat.lt_trans hlt (List.getElem?_eq_some_iff.1 hi).1
      have hoe : l[e.on]? = some l[e.on] := List.getElem?_eq_getElem hel
      exact ih e.on hlt l[e.on] j hoe (hc e.on _ hoe (hpre e he hb)) h1
theorem getD_or {D : Array Bool} {i : Nat} (h : D.getD i false = false) (hi : i < D.size) : D.getD i true = false := by
  simp [hi] at h ⊢; exact h
theorem getD_no {D : Array Bool} {i : Nat} (h : D.getD i true = false) : D.getD i false = false := by
  rcases Nat.lt_or_ge i D.size with hi | hi
  · simp [hi] at h ⊢; exact h
  · simp [Array.getElem?_eq_none hi]
theorem all_listed {l : List Oper} {M : List Nat} (hs : Static l M) {D : Array Bool} (hsz : D.size = l.length) (hr : Region.ready .any l.toArray D = []) : ∀ i, i < l.length → D.getD i false = true := by
  intro i
  induction i using Nat.strongRecOn with
  | _ i ih =>
    intro hi
    cases hd : D.getD i false with
    | true => rfl
    | false =>
      have hoi : l[i]? = some l[i] := List.getElem?_eq_getElem hi
      have : i ∈ Region.ready .any l.toArray D := by
        rw [mem_ready]
        refine ⟨getD_or hd (by omega), l[i], by simp [hi], fun e he hb => ?_⟩
        have hlt := hs.back i _ hoi e he hb
        exact ih e.on hlt (by omega)
      rw [hr] at this
      cases this
theorem set_getD_same {D : Array Bool} {i : Nat} (hi : i < D.size) : (D.setIfInBounds i true).getD i false = true := by simp [hi]
theorem Inv.step {l : List Oper} {ss : List Spec} {M : List Nat} {w0 : World} {vs : Nat → Value} {D : Array Bool} {a : Act} {w w' : World} (hs : Static l M) (h : Inv l ss cx n G w0 vs D a w)
    {i : Nat} {o : Oper} (hi : l[i]? = some o) (hdn : ∀ d, o.dst = some d → Nat.blt d n = true) (hun : D.getD i false = false) (hpre : ∀ e ∈ o.after, Region.binds .any e = true → D.getD e.on false = true) {s : Spec} (hsi : ss[i]? = some s) {v : Value} (hv : s.s v w') (hb : Below w.heap.size w w') :
    Inv l ss cx n G w0 (fun k => if k = i then v else vs k) (D.setIfInBounds i true) (a.put o.dst v) w' := by
  have hil : i < l.length := (List.getElem?_eq_some_iff.1 hi).1
  have hiD : i < D.size := by rw [h.dsize]; exact hil
  have hne : ∀ {k : Nat}, k ≠ i → (D.setIfInBounds i true).getD k false = D.getD k false := fun hk => by simp [Array.getElem?_setIfInBounds_ne (Ne.symm hk)]
  have hup : ∀ {k : Nat}, D.getD k false = true → (D.setIfInBounds i true).getD k false = true := fun {k} hk => by
    by_cases hki : k = i
    · subst hki; rw [hun] at hk; cases hk
    · rw [hne hki]; exact hk
  refine ⟨by simp [h.dsize], fun j oj hj hl e he hbd => ?_, h.below.trans (hb.mono h.below.size), fun k sk hl hk => ?_, fun k sk hk => ?_, ?_, ?_, fun t u hno hl => ?_, fun k ok d hk hd hl => ?_⟩
  · by_cases hji : j = i
    · subst hji
      have : oj = o := Option.some.inj (hj.symm.trans hi)
      subst this
      exact hup (hpre e he hbd)
    · rw [hne hji] at hl
      exact hup (h.closed j oj hj hl e he hbd)
  · by_cases hki : k = i
    · subst hki
      have : sk = s := Option.some.inj (hk.symm.trans hsi)
      subst this
      simpa using hv
    · rw [hne hki] at hl
      simpa [hki] using sk.stab _ _ _ hb (h.facts k sk hl hk)
  · by_cases hki : k = i
    · subst hki
      have : sk = s := Option.some.inj (hk.symm.trans hsi)
      subst this
      simpa using sk.imp _ _ hv
    · simpa [hki] using h.pls k sk hk
  · cases hd : o.dst <;> simp [Act.put, h.size]
  · cases hd : o.dst <;> simp [Act.put, h.defers]
  · have h1 : a.tmps[t]? = some u := h.old t u (fun k ok hk hd => by
      have := hno k ok hk hd
      by_cases hki : k = i
      · subst hki; exact hun
      · rwa [hne hki] at this) hl
    cases hd : o.dst with
    | none => simpa [Act.put] using h1
    | some d =>
      by_cases hdt : d = t
      · subst hdt
        have := hno i o hi hd
        rw [set_getD_same hiD] at this
        cases this
      · simp only [Act.put]
        rw [Array.getElem?_setIfInBounds_ne hdt]
        exact h1
  · by_cases hki : k = i
    · subst hki
      have : ok = o := Option.some.inj (hk.symm.trans hi)
      subst this
      have hlt : d < a.tmps.size := by rw [h.size]; simpa using hdn d hd
      simp [Act.put, hd, hlt]
    · rw [hne hki] at hl
      have h1 := h.new k ok d hk hd hl
      simp only [hki, if_false]
      cases hd' : o.dst with
      | none => simpa [Act.put] using h1
      | some d' =>
        have hdd : d' ≠ d := fun he => hki (hs.uniq i k o ok d hi hk (by rw [hd', he]) hd)
        simp only [Act.put]
        rw [Array.getElem?_setIfInBounds_ne hdd]
        exact h1
def tailOk (M : List Nat) (k : Nat) : Nat → Bool
  | 0 => true
  | i + 1 => (Nat.blt i k || Nat.beq (M.getD i 0) (2 ^ i - 1)) && tailOk M k i
theorem tail_spec {M : List Nat} {k : Nat} : ∀ {n : Nat}, tailOk M k n = true → ∀ i, k ≤ i → i < n → ∀ j, j < i → Nat.testBit (M.getD i 0) j = true
  | 0, _, i, _, hi, _, _ => absurd hi (Nat.not_lt_zero i)
  | n + 1, h, i, hk, hi, j, hj => by
    simp only [tailOk, Bool.and_eq_true, Bool.or_eq_true] at h
    rcases Nat.lt_or_eq_of_le (Nat.le_of_lt_succ hi) with h1 | h1
    · exact tail_spec h.2 i hk h1 j hj
    · subst h1
      rcases h.1 with h2 | h2
      · have : i < k := by simpa using h2
        omega
      · rw [Nat.eq_of_beq_eq_true h2, Nat.testBit_two_pow_sub_one]
        simpa using hj
theorem wpAny_tail {l : List Oper} {M : List Nat} {k : Nat} (hs : Static l M) (htl : tailOk M k l.length = true) :
    ∀ (m j : Nat), l.length - j = m → k ≤ j → j ≤ l.length → ∀ (fuel : Nat) (D : Array Bool) (a : Act) (w : World), D.size = l.length → (∀ i, i < l.length → (D.getD i false = true ↔ i < j)) → cf D.toList ≤ fuel →
      wpList P l.toArray Q (l.drop j) a w → wpAny P .any l.toArray Q fuel D a w := by
  intro m
  induction m with
  | zero =>
    intro j hm hkj hjl fuel D a w hD hl hc h
    have hj : j = l.length := by omega
    subst hj
    rw [List.drop_length] at h
    have hr : Region.ready .any l.toArray D = [] := by
      cases hr : Region.ready .any l.toArray D with
      | nil => rfl
      | cons i r =>
        have : i ∈ Region.ready .any l.toArray D := by rw [hr]; exact List.mem_cons_self
        obtain ⟨h1, o, h2, _⟩ := mem_ready.1 this
        have hil : i < l.length := (List.getElem?_eq_some_iff.1 (by simpa using h2 : l[i]? = some o)).1
        have := (hl i hil).2 hil
        rw [getD_no h1] at this
        cases this
    cases fuel with
    | zero => exact ⟨hr, h⟩
    | succ fuel => exact ⟨fun _ => h, fun i hi => by rw [hr] at hi; cases hi⟩
  | succ m ih =>
    intro j hm hkj hjl fuel D a w hD hl hc h
    have hjlt : j < l.length := by omega
    have hcl : ∀ (i : Nat) (o : Oper), l[i]? = some o → D.getD i false = true → ∀ e ∈ o.after, Region.binds .any e = true → D.getD e.on false = true := fun i o hi hd e he hb => by
      have h1 := (hl i (List.getElem?_eq_some_iff.1 hi).1).1 hd
      have h2 := hs.back i o hi e he hb
      exact (hl e.on (by omega)).2 (by omega)
    have hunj : D.getD j false = false := by
      cases hd : D.getD j false with
      | false => rfl
      | true => have := (hl j hjlt).1 hd; omega
    cases fuel with
    | zero =>
      have := cf_zero D.toList (by omega) j D[j] (by simp [hD, hjlt])
      simp [hD, hjlt, this] at hunj
    | succ fuel =>
      refine ⟨fun hr => ?_, fun i hi => ?_⟩
      · have := all_listed hs hD hr j hjlt
        rw [hunj] at this
        cases this
      · obtain ⟨h1, o, h2, hpre⟩ := mem_ready.1 hi
        have hoi : l[i]? = some o := by simpa using h2
        have hil : i < l.length := (List.getElem?_eq_some_iff.1 hoi).1
        have hge : j ≤ i := by
          rcases Nat.lt_or_ge i j with hlt | hge
          · have := (hl i hil).2 hlt
            rw [getD_no h1] at this
            cases this
          · exact hge
        have hij : i = j := by
          rcases Nat.lt_or_eq_of_le hge with hlt | he
          · have := mask_listed hs hcl i o j hoi hpre (tail_spec htl i (by omega) hil j hlt)
            rw [hunj] at this
            cases this
          · exact he.symm
        subst hij
        have hdr : l.drop i = o :: l.drop (i + 1) := by
          rw [List.drop_eq_getElem_cons hil]
          congr 1
          exact Option.some.inj ((List.getElem?_eq_getElem hil).symm.trans hoi)
        have hnext : ∀ a' w', wpList P l.toArray Q (l.drop (i + 1)) a' w' → wpAny P .any l.toArray Q fuel (D.setIfInBounds i true) a' w' := fun a' w' h' => by
          refine ih (i + 1) (by omega) (by omega) (by omega) fuel _ a' w' (by simp [hD]) (fun q hq => ?_) ?_ h'
          · by_cases hqi : q = i
            · subst hqi
              simp [hD, hq]
            · have : (D.setIfInBounds i true).getD q false = D.getD q false := by simp [Array.getElem?_setIfInBounds_ne (Ne.symm hqi)]
              rw [this, hl q hq]
              omega
          · have := cf_set D.toList i (by simp [hD, hil] at hunj ⊢; exact hunj)
            rw [Array.toList_setIfInBounds]
            omega
        rw [hdr] at h
        unfold wpList at h
        unfold wpOp
        rw [h2]
        simp only
        split at h
        · rename_i hw
          rw [if_pos hw]
          exact h.imp (Oper.wp_mono hnext) id
        · rename_i hw
          rw [if_neg hw]
          exact hnext _ _ h
theorem wpAny_flow {l : List Oper} {ss : List Spec} {M : List Nat} {w0 : World} {k : Nat} (hs : Static l M) (hkl : k ≤ l.length) (htl : tailOk M k l.length = true)
    (ht : ∀ vs : Nat → Value, (∀ (k : Nat) (s : Spec), ss[k]? = some s → s.pl (vs k)) → (∀ (j : Nat) (o : Oper), j < k → l[j]? = some o → ∃ s m, ss[j]? = some s ∧ M[j]? = some m ∧ (∀ d, o.dst = some d → Nat.blt d n = true) ∧
      ∀ w, Below w0.heap.size w0 w → Have m (fz (ss.take j) vs 0) w → StepOk P l o (gz (l.take j) vs 0 G) w s) ∧ (∀ w, Below w0.heap.size w0 w → HaveAll (fz ss vs 0) w → ∀ a, Fits cx n (gz (l.take k) vs 0 G) a → wpList P l.toArray Q (l.drop k) a w)) (hsl : ss.length = k) :
    ∀ (fuel : Nat) (D : Array Bool) (a : Act) (w : World) (vs : Nat → Value), cf D.toList ≤ fuel → Inv l ss cx n G w0 vs D a w → (∀ i, k ≤ i → i < l.length → D.getD i false = false) → wpAny P .any l.toArray Q fuel D a w := by
  have hfin : ∀ (D : Array Bool) (a : Act) (w : World) (vs : Nat → Value), Inv l ss cx n G w0 vs D a w → (∀ i, i < k → D.getD i false = true) → (∀ i, k ≤ i → i < l.length → D.getD i false = false) → wpList P l.toArray Q (l.drop k) a w := fun D a w vs h hall hno => by
    refine (ht vs h.pls).2 w h.below (fun k s v hk => ?_) a ⟨h.size, h.defers, fun t v hl => ?_⟩
    · rw [fz_get] at hk
      cases hsk : ss[k]? with
      | none => rw [hsk] at hk; simp at hk
      | some s' =>
        rw [hsk] at hk
        simp only [Option.map_some, Option.some.injEq, Prod.mk.injEq, Nat.zero_add] at hk
        obtain ⟨rfl, rfl⟩ := hk
        exact h.facts k s' (hall k (by have := (List.getElem?_eq_some_iff.1 hsk).1; omega)) hsk
    · rcases gz_look (l.take k) vs 0 G t v hl with ⟨j, o, h1, h2, h3⟩ | ⟨h1, h2⟩
      · rw [h3, Nat.zero_add]
        have hjk : j < k := by
          have := (List.getElem?_eq_some_iff.1 h1).1
          simp at this; omega
        rw [List.getElem?_take, if_pos hjk] at h1
        exact h.new j o t h1 h2 (hall j hjk)
      · refine h.old t v (fun q o hq hd => ?_) h2
        rcases Nat.lt_or_ge q k with hqk | hqk
        · exact absurd hd (h1 q o (by rw [List.getElem?_take, if_pos hqk]; exact hq))
        · exact hno q hqk (List.getElem?_eq_some_iff.1 hq).1
  have hdone : ∀ (fuel : Nat) (D : Array Bool) (a : Act) (w : World) (vs : Nat → Value), cf D.toList ≤ fuel → Inv l ss cx n G w0 vs D a w → (∀ i, i < k → D.getD i false = true) → (∀ i, k ≤ i → i < l.length → D.getD i false = false) → wpAny P .any l.toArray Q fuel D a w := fun fuel D a w vs hc h hall hno =>
    wpAny_tail hs htl (l.length - k) k rfl (Nat.le_refl _) hkl fuel D a w h.dsize (fun i hi => ⟨fun hd => (Nat.lt_or_ge i k).resolve_right (fun q => by rw [hno i q hi] at hd; exact Bool.noConfusion hd), fun q => hall i q⟩) hc (hfin D a w vs h hall hno)
  intro fuel
  induction fuel with
  | zero =>
    intro D a w vs hc h hno
    refine hdone 0 D a w vs hc h (fun i hi => ?_) hno
    have hiD : i < D.size := by rw [h.dsize]; omega
    have := cf_zero D.toList (by omega) i D[i] (by simp [hiD])
    simp [hiD, this]
  | succ fuel ih =>
    intro D a w vs hc h hno
    by_cases hall : ∀ i, i < k → D.getD i false = true
    · exact hdone _ D a w vs hc h hall hno
    obtain ⟨q, hq, hqn⟩ : ∃ q, q < k ∧ D.getD q false = false := by
      refine Classical.byContradiction fun hne => hall fun i hi => ?_
      cases hd : D.getD i false with
      | true => rfl
      | false => exact absurd ⟨i, hi, hd⟩ hne
    refine ⟨fun hr => (by have := all_listed hs h.dsize hr q (by omega); rw [hqn] at this; cases this), fun i hi => ?_⟩
    obtain ⟨h1, o, h2, hpre⟩ := mem_ready.1 hi
    have hun := getD_no h1
    have hoi : l[i]? = some o := by simpa using h2
    have hil : i < l.length := (List.getElem?_eq_some_iff.1 hoi).1
    have hik : i < k := by
      rcases Nat.lt_or_ge i k with hlt | hge
      · exact hlt
      · have := mask_listed hs h.closed i o q hoi hpre (tail_spec htl i hge hil q (by omega))
        rw [hqn] at this; cases this
    obtain ⟨s, m, hs1, hm1, hdn, hstep⟩ := (ht vs h.pls).1 i o hik hoi
    have hmi : M.getD i 0 = m := by simp [hm1]
    have hmask := mask_listed hs h.closed i o
    have hok := hstep w h.below (fun k s' v hk hb => by
      rw [fz_get] at hk
      cases hsk : (ss.take i)[k]? with
      | none => rw [hsk] at hk; simp at hk
      | some s'' =>
        rw [hsk] at hk
        simp only [Option.map_some, Option.some.injEq, Prod.mk.injEq, Nat.zero_add] at hk
        obtain ⟨rfl, rfl⟩ := hk
        refine h.facts k s'' (hmask k hoi hpre (by rw [hmi]; exact hb)) ?_
        rw [List.getElem?_take] at hsk
        split at hsk
        · exact hsk
        · simp at hsk)
    have heyes : ∀ t ∈ eyes l o, ∀ v, sLook (gz (l.take i) vs 0 G) t = some v → a.tmps[t]? = some v := fun t hte v hl => by
      rcases gz_look (l.take i) vs 0 G t v hl with ⟨j, o', g1, g2, g3⟩ | ⟨g1, g2⟩
      · have hji : j < i := by
          have := (List.getElem?_eq_some_iff.1 g1).1
          simp at this; omega
        have g1' : l[j]? = some o' := by
          rw [List.getElem?_take] at g1
          rw [if_pos hji] at g1
          exact g1
        rw [g3, Nat.zero_add]
        refine h.new j o' t g1' g2 ?_
        rcases hs.seen i j o o' t hoi g1' g2 hte with g | g
        · exact hmask j hoi hpre g
        · have := (hs.bits j o' i g1' g).1; omega
      · refine h.old t v (fun k ok hk hd => ?_) g2
        cases hDk : D.getD k false with
        | false => rfl
        | true =>
          exfalso
          rcases Nat.lt_trichotomy k i with g | g | g
          · refine g1 k ok ?_ hd
            rw [List.getElem?_take, if_pos g]; exact hk
          · subst g; rw [hun] at hDk; cases hDk
          · rcases hs.seen i k o ok t hoi hk hd hte with q | q
            · have := (hs.bits i o k hoi q).1; omega
            · have := mask_listed hs h.closed k ok i hk (h.closed k ok hk hDk) q
              rw [hun] at this; cases this
    have hcf : cf (D.setIfInBounds i true).toList ≤ fuel := by
      have hiD : i < D.size := by rw [h.dsize]; exact hil
      have := cf_set D.toList i (by simp [hiD] at hun ⊢; exact hun)
      rw [Array.toList_setIfInBounds]
      omega
    have hgo : ∀ v w', s.s v w' → Below w.heap.size w w' → wpAny P .any l.toArray Q fuel (D.setIfInBounds i true) (a.put o.dst v) w' := fun v w' hv hb =>
      ih _ _ _ _ hcf (h.step hs hoi hdn hun hpre hs1 hv hb) (fun q hq hql => by
        have hqi : q ≠ i := by omega
        have : (D.setIfInBounds i true).getD q false = D.getD q false := by simp [Array.getElem?_setIfInBounds_ne (Ne.symm hqi)]
        rw [this]; exact hno q hq hql)
    have hrun : known (gz (l.take i) vs 0 G) o = true ∧ Gives P s w ((execOp (sEv (gz (l.take i) vs 0 G)) o).run P w) → o.wp P a w (wpAny P .any l.toArray Q fuel (D.setIfInBounds i true)) Q := fun ⟨hk, hg⟩ => by
      unfold Oper.wp
      rw [exec_eyes heyes hk]
      generalize (execOp (sEv (gz (l.take i) vs 0 G)) o).run P w = r at hg ⊢
      cases r with
      | halt x w' => exact hg.elim
      | ok x w' =>
        cases x with
        | value v => exact hgo v w' hg.1 hg.2
        | skip => exact hgo undef w' hg.1 hg.2
        | enter f args =>
          obtain ⟨rfl, hcall⟩ := hg
          refine hcall.mono fun e w'' he => ?_
          obtain ⟨v, rfl, hv, hb⟩ := he
          exact hgo v w'' hv hb
        | _ => exact hg.elim
    unfold wpOp
    rw [h2]
    simp only
    unfold StepOk at hok
    cases hgd : o.guard with
    | none =>
      rw [hgd] at hok
      rw [if_pos (wanted_none hgd _)]
      exact .inl (hrun hok)
    | some gb =>
      obtain ⟨g, b⟩ := gb
      rw [hgd] at hok
      rcases hok with ⟨t, c, q1, q2, q3, q4⟩ | ⟨t, q1, q2, q4⟩
      rotate_left
      · have hte : t ∈ eyes l o := by
          refine List.mem_append_right _ ?_
          rw [hgd]
          simp [q1]
        have hw : Region.wanted o (yielded l.toArray a.tmps) = false := by
          have q1' : ((l.toArray)[g]?).bind (·.dst) = some t := by simpa using q1
          have q5 : yielded l.toArray a.tmps g = none := by
            unfold yielded
            rw [q1']
            simp [heyes t hte _ q2, undef]
          unfold Region.wanted
          rw [hgd]
          simp only [q5]
          rfl
        rw [if_neg (by rw [hw]; simp)]
        exact hgo undef w q4 (Below.refl _ _)
      have hte : t ∈ eyes l o := by
        refine List.mem_append_right _ ?_
        rw [hgd]
        simp [q1]
      have hw : Region.wanted o (yielded l.toArray a.tmps) = (c == b) := by
        have q1' : ((l.toArray)[g]?).bind (·.dst) = some t := by simpa using q1
        have q5 : yielded l.toArray a.tmps g = some c := by
          unfold yielded
          rw [q1']
          simp [heyes t hte _ q2]
        unfold Region.wanted
        rw [hgd]
        simp only [q5]
        cases c <;> cases b <;> rfl
      by_cases hc : c = b
      · rw [if_pos (by rw [hw]; simp [hc])]
        exact .inl (hrun (q3 hc))
      · rw [if_neg (by rw [hw]; simp [hc])]
        exact hgo undef w (q4 hc) (Below.refl _ _)
theorem w_drawk {id : Nat} {l : List Oper} {M : List Nat} {ss : List Spec} (k : Nat) (hm : P.follows .mixedOrders = true) (hok : (listOk l M && Nat.beq M.length l.length && tailOk M k l.length && Nat.ble k l.length) = true)
    (h : Tele P n l w.drew M (fun G' F => ∀ w', Below w.drew.heap.size w.drew w' → HaveAll F w' → RW P l.toArray cx n (Ks cx P st Q) (l.drop k) G' w') (l.take k) ss (M.take k) [] G) : W P cx n Q (Itm.code (.region id l.toArray true) :: st) G w := fun a ha => by
  simp only [Bool.and_eq_true] at hok
  obtain ⟨⟨⟨hok1, hM0⟩, htl⟩, hkl0⟩ := hok
  have hM := Nat.eq_of_beq_eq_true hM0
  have hkl := Nat.le_of_ble_eq_true hkl0
  have ht := fun vs hp => tele_at (P := P) (l.take k) ss (M.take k) [] G h vs hp
  have hsl : ss.length = k := by
    have aux : ∀ (os : List Oper) (ss : List Spec) (ms : List Nat) (F : Facts) (G : Env) (E : Env → Facts → Prop), Tele P n l w.drew M E os ss ms F G → ss.length = os.length := by
      intro os
      induction os with
      | nil => intro ss ms F G E h; cases ss with
        | nil => rfl
        | cons => cases ms <;> exact h.elim
      | cons o os ih => intro ss ms F G E h; cases ss with
        | nil => cases ms <;> exact h.elim
        | cons s ss => cases ms with
          | nil => exact h.elim
          | cons m ms => obtain ⟨v, hv⟩ := s.inh; simp only [List.length_cons]; rw [ih ss ms _ _ E (h.2.2 v hv)]
    rw [aux _ _ _ _ _ _ h, List.length_take]; omega
  refine drawn_in hm (fun i o hi => listOk_sel hok1 i o (by simpa using hi)) (wpAny_flow (cx := cx) (n := n) (G := G) (Q := Ks cx P st Q) (ss := ss) (w0 := w.drew) (k := k) (static_of hok1) hkl htl (fun vs hp => ?_) hsl _ _ a _ (fun j => match ss[j]? with | some s => Classical.choose s.inh | none => undef) ?_ ?_ ?_)
  · obtain ⟨h1, h2⟩ := ht vs (fun j s hj => by simpa using hp j s hj)
    refine ⟨fun j o hjk hj => ?_, fun w' hb hh a' ha' => ?_⟩
    · obtain ⟨s, m, e1, e2, e4, e5⟩ := h1 j o (by rw [List.getElem?_take, if_pos hjk]; exact hj)
      have e2' : M[j]? = some m := by rw [List.getElem?_take, if_pos hjk] at e2; exact e2
      have htt : (l.take k).take j = l.take j := by rw [List.take_take]; congr 1; omega
      exact ⟨s, m, e1, e2', e4, fun w' hb hh => by have := e5 w' hb (by simpa using hh); rw [htt] at this; simpa using this⟩
    · exact (h2 w' hb (by simpa using hh)) a' (by simpa using ha')
  · have : ∀ k, cf (List.replicate k false) = k := by
      intro k; induction k with
      | zero => rfl
      | succ k ih => simp only [List.replicate_succ, cf, ih]; simp; omega
    simp [this]
  · refine ⟨by simp, fun j o hj hl => ?_, Below.refl _ _, fun k s hl => ?_, fun k s hk => ?_, ha.size, ha.defers, fun t v _ hl => ha.at_ t v hl, fun k o d hk hd hl => ?_⟩
    · simp [Array.getElem?_replicate] at hl; split at hl <;> simp at hl
    · simp [Array.getElem?_replicate] at hl; split at hl <;> simp at hl
    · simp only [hk]
      exact Classical.choose_spec s.inh
    · simp [Array.getElem?_replicate] at hl; split at hl <;> simp at hl
  · intro i _ hi
    simp [Array.getElem?_replicate, hi]
theorem w_draw {id : Nat} {l : List Oper} {M : List Nat} {ss : List Spec} (hm : P.follows .mixedOrders = true) (hok : (listOk l M && Nat.beq M.length l.length) = true)
    (h : Tele P n l w.drew M (fun G' F => ∀ w', Below w.drew.heap.size w.drew w' → HaveAll F w' → W P cx n Q st G' w') l ss M [] G) : W P cx n Q (Itm.code (.region id l.toArray true) :: st) G w := by
  have htail : ∀ n, tailOk M l.length n = true ∨ l.length < n := by
    intro n
    induction n with
    | zero => exact .inl rfl
    | succ n ih =>
      rcases ih with ih | ih
      · rcases Nat.lt_or_ge n l.length with q | q
        · refine .inl ?_
          simp only [tailOk, Bool.and_eq_true, Bool.or_eq_true]
          exact ⟨.inl (by simpa using q), ih⟩
        · exact .inr (by omega)
      · exact .inr (by omega)
  have hok2 := hok
  simp only [Bool.and_eq_true] at hok2
  have hM := Nat.eq_of_beq_eq_true hok2.2
  refine w_drawk (M := M) (ss := ss) l.length hm ?_ ?_
  · simp only [Bool.and_eq_true]
    exact ⟨⟨hok2, (htail l.length).resolve_right (Nat.lt_irrefl _)⟩, by simp⟩
  · rw [List.take_length, List.take_of_length_le (by omega), List.drop_length]
    have aux : ∀ (os : List Oper) (ss : List Spec) (ms : List Nat) (F : Facts) (G : Env) (E E' : Env → Facts → Prop), (∀ G F, E G F → E' G F) → Tele P n l w.drew M E os ss ms F G → Tele P n l w.drew M E' os ss ms F G := by
      intro os
      induction os with
      | nil => intro ss ms F G E E' hE h; cases ss with
        | nil => cases ms with
          | nil => exact hE _ _ h
          | cons => exact h.elim
        | cons => cases ms <;> exact h.elim
      | cons o os ih => intro ss ms F G E E' hE h; cases ss with
        | nil => cases ms <;> exact h.elim
        | cons s ss => cases ms with
          | nil => exact h.elim
          | cons m ms => exact ⟨h.1, h.2.1, fun v hv => ih ss ms _ _ E E' hE (h.2.2 v hv)⟩
    exact aux l ss M [] G _ _ (fun G F hE w' hb hh => rw_end (hE w' hb hh)) h
variable {l : List Oper} {w0 : World} {M : List Nat} {E : Env → Facts → Prop} {os : List Oper} {ss : List Spec} {ms : List Nat} {m : Nat} {F : Facts} {o : Oper}
theorem t_is {d : Nat} (c : Value) (hg : o.guard = none) (hd : o.dst = some d) (hdn : Nat.blt d n = true) (hk : known G o = true)
    (hrun : ∀ w, Below w0.heap.size w0 w → Have m F w → (execOp (sEv G) o).run P w = .ok (.value c) w)
    (k : Tele P n l w0 M E os ss ms (F ++ [(Is c, c)]) ((d, c) :: G)) : Tele P n l w0 M E (o :: os) (Is c :: ss) (m :: ms) F G := by
  refine ⟨fun d' h => by rw [hd] at h; cases h; exact hdn, fun w hb hh => ?_, fun v hv => ?_⟩
  · unfold StepOk
    rw [hg]
    refine ⟨hk, ?_⟩
    rw [hrun w hb hh]
    exact ⟨rfl, Below.refl _ _⟩
  · have : v = c := hv
    subst this
    rw [hd]
    exact k
theorem t_call {d : Nat} (s : Spec) {f : FuncId} {args : Array Value} (hg : o.guard = none) (hd : o.dst = some d) (hdn : Nat.blt d n = true) (hk : known G o = true)
    (hrun : ∀ w, (execOp (sEv G) o).run P w = .ok (.enter f args) w)
    (hc : ∀ w, Below w0.heap.size w0 w → Have m F w → Calls P f args w fun e w' => ∃ v, e = .returned v ∧ s.s v w' ∧ Below w.heap.size w w')
    (k : ∀ v, s.pl v → Tele P n l w0 M E os ss ms (F ++ [(s, v)]) ((d, v) :: G)) : Tele P n l w0 M E (o :: os) (s :: ss) (m :: ms) F G := by
  refine ⟨fun d' h => by rw [hd] at h; cases h; exact hdn, fun w hb hh => ?_, fun v hv => ?_⟩
  · unfold StepOk
    rw [hg]
    refine ⟨hk, ?_⟩
    rw [hrun w]
    exact ⟨rfl, hc w hb hh⟩
  · rw [hd]
    exact k v hv
theorem t_off {g t d : Nat} {b c : Bool} (hg : o.guard = some (g, b)) (ht : (l[g]?).bind (·.dst) = some t) (hl : sLook G t = some (.bool c)) (hne : (c == b) = false) (hd : o.dst = some d) (hdn : Nat.blt d n = true)
    (k : Tele P n l w0 M E os ss ms (F ++ [(Is undef, undef)]) ((d, undef) :: G)) : Tele P n l w0 M E (o :: os) (Is undef :: ss) (m :: ms) F G := by
  refine ⟨fun d' h => by rw [hd] at h; cases h; exact hdn, fun w hb hh => ?_, fun v hv => ?_⟩
  · unfold StepOk
    rw [hg]
    exact .inl ⟨t, c, ht, hl, fun h => by simp [h] at hne, fun _ => rfl⟩
  · have : v = undef := hv
    subst this
    rw [hd]
    exact k
theorem t_offu {g t d : Nat} {b : Bool} (hg : o.guard = some (g, b)) (ht : (l[g]?).bind (·.dst) = some t) (hl : sLook G t = some undef) (hd : o.dst = some d) (hdn : Nat.blt d n = true)
    (k : Tele P n l w0 M E os ss ms (F ++ [(Is undef, undef)]) ((d, undef) :: G)) : Tele P n l w0 M E (o :: os) (Is undef :: ss) (m :: ms) F G := by
  refine ⟨fun d' h => by rw [hd] at h; cases h; exact hdn, fun w hb hh => ?_, fun v hv => ?_⟩
  · unfold StepOk
    rw [hg]
    exact .inr ⟨t, ht, hl, rfl⟩
  · have : v = undef := hv
    subst this
    rw [hd]
    exact k
theorem t_gis {g t d : Nat} {b c : Bool} (v : Value) (hg : o.guard = some (g, b)) (ht : (l[g]?).bind (·.dst) = some t) (hl : sLook G t = some (.bool c)) (he : (c == b) = true) (hd : o.dst = some d) (hdn : Nat.blt d n = true) (hk : known G o = true)
    (hrun : ∀ w, Below w0.heap.size w0 w → Have m F w → (execOp (sEv G) o).run P w = .ok (.value v) w)
    (k : Tele P n l w0 M E os ss ms (F ++ [(Is v, v)]) ((d, v) :: G)) : Tele P n l w0 M E (o :: os) (Is v :: ss) (m :: ms) F G := by
  refine ⟨fun d' h => by rw [hd] at h; cases h; exact hdn, fun w hb hh => ?_, fun v' hv => ?_⟩
  · unfold StepOk
    rw [hg]
    refine .inl ⟨t, c, ht, hl, fun _ => ⟨hk, ?_⟩, fun h => absurd (by simpa using he) h⟩
    rw [hrun w hb hh]
    exact ⟨rfl, Below.refl _ _⟩
  · have : v' = v := hv
    subst this
    rw [hd]
    exact k
theorem t_gval {g t d : Nat} {b c : Bool} (s : Spec) (hg : o.guard = some (g, b)) (ht : (l[g]?).bind (·.dst) = some t) (hl : sLook G t = some (.bool c)) (he : (c == b) = true) (hd : o.dst = some d) (hdn : Nat.blt d n = true) (hk : known G o = true)
    (hrun : ∀ w, Below w0.heap.size w0 w → Have m F w → ∃ v w', (execOp (sEv G) o).run P w = .ok (.value v) w' ∧ s.s v w' ∧ Below w.heap.size w w')
    (k : ∀ v, s.pl v → Tele P n l w0 M E os ss ms (F ++ [(s, v)]) ((d, v) :: G)) : Tele P n l w0 M E (o :: os) (s :: ss) (m :: ms) F G := by
  refine ⟨fun d' h => by rw [hd] at h; cases h; exact hdn, fun w hb hh => ?_, fun v hv => ?_⟩
  · unfold StepOk
    rw [hg]
    refine .inl ⟨t, c, ht, hl, fun _ => ⟨hk, ?_⟩, fun h => absurd (by simpa using he) h⟩
    obtain ⟨v, w', h1, h2, h3⟩ := hrun w hb hh
    rw [h1]
    exact ⟨h2, h3⟩
  · rw [hd]
    exact k v hv
theorem t_gcall {g t d : Nat} {b c : Bool} (s : Spec) {f : FuncId} {args : Array Value} (hg : o.guard = some (g, b)) (ht : (l[g]?).bind (·.dst) = some t) (hl : sLook G t = some (.bool c)) (he : (c == b) = true) (hd : o.dst = some d) (hdn : Nat.blt d n = true) (hk : known G o = true)
    (hrun : ∀ w, (execOp (sEv G) o).run P w = .ok (.enter f args) w)
    (hc : ∀ w, Below w0.heap.size w0 w → Have m F w → Calls P f args w fun e w' => ∃ v, e = .returned v ∧ s.s v w' ∧ Below w.heap.size w w')
    (k : ∀ v, s.pl v → Tele P n l w0 M E os ss ms (F ++ [(s, v)]) ((d, v) :: G)) : Tele P n l w0 M E (o :: os) (s :: ss) (m :: ms) F G := by
  refine ⟨fun d' h => by rw [hd] at h; cases h; exact hdn, fun w hb hh => ?_, fun v hv => ?_⟩
  · unfold StepOk
    rw [hg]
    refine .inl ⟨t, c, ht, hl, fun _ => ⟨hk, ?_⟩, fun h => absurd (by simpa using he) h⟩
    rw [hrun w]
    exact ⟨rfl, hc w hb hh⟩
  · rw [hd]
    exact k v hv
theorem t_tail {rest : List Oper} {ops : Array Oper} {Q' : Exit → Act → World → Prop} (h : ∀ w', Below w0.heap.size w0 w' → HaveAll F w' → RW P ops cx n Q' rest G w') : Tele P n l w0 M (fun G' F => ∀ w', Below w0.heap.size w0 w' → HaveAll F w' → RW P ops cx n Q' rest G' w') [] [] [] F G := h
theorem t_end (h : ∀ w', Below w0.heap.size w0 w' → HaveAll F w' → W P cx n Q st G w') : Tele P n l w0 M (fun G' F => ∀ w', Below w0.heap.size w0 w' → HaveAll F w' → W P cx n Q st G' w') [] [] [] F G := h
end
end Go.Proofs.Ytiiljpaedelhlaa.Flow
end
section
set_option linter.unusedVariables false
set_option linter.unusedSimpArgs false
namespace Go.Proofs.YtiiljpaedelhlaaW.PrintWords
open Go.RowKit
structure Aside0 (p : Prop) : Prop where mk :: (out : p)
structure Drawn0 (w w' : World) : Prop where mk :: (out : ∃ n, w' = w.drewN n)
theorem Drawn0.refl (w : World) : Drawn0 w w := ⟨⟨0, rfl⟩⟩
theorem Drawn0.step {w w' : World} (h : Drawn0 w w') (n : Nat) : Drawn0 w (w'.drewN n) := by
  obtain ⟨m, rfl⟩ := h
  exact ⟨⟨m + n, World.drewN_drewN ..⟩⟩
theorem Drawn0.below {w w' : World} (h : Drawn0 w w') : Below w.heap.size w w' := by
  obtain ⟨n, rfl⟩ := h
  induction n with
  | zero => exact Below.refl _ _
  | succ n ih => rw [← World.drew_drewN]; exact ih.drew
def rd (xs : List Int) (i : Int) : Int := xs.getD i.toNat 0
def bt (s : ByteArray) (i : Int) : Int := if h : i.toNat < s.size then ((s[i.toNat]'h).toNat : Int) else 0
def nums (k : IntKind) (xs : List Int) : List Value := xs.map fun x => .int k x
theorem below_alloc {w W : World} (h : Below w.heap.size w W) (o : Obj) : Below w.heap.size w (W.alloc o) := h.alloc h.size o
theorem below_drew {B : Nat} {w W : World} (h : Below B w W) : Below B w W.drew := ⟨h.os, h.tape, h.output, h.size, h.block⟩
theorem pw_below_drewN {B : Nat} {w W : World} (h : Below B w W) (n : Nat) : Below B w (W.drewN n) := ⟨h.os, h.tape, h.output, h.size, h.block⟩
theorem below_then {B : Nat} {w w1 w2 : World} (h : Below B w w1) (hB : B ≤ w1.heap.size) (k : Below w1.heap.size w1 w2) : Below B w w2 :=
  h.trans ⟨k.os, k.tape, k.output, k.size, fun i hi => k.block i (Nat.lt_of_lt_of_le hi hB)⟩
theorem pw_cell_below {w w1 : World} (h : Below w.heap.size w w1) {a : Addr} {v : Value} (hc : w.cell? a = some v) : w1.cell? a = some v := (h.cell (World.block_lt_of_cell? w a hc)).trans hc
theorem add_plain (g j : Nat) : (⟨g, 0, none⟩ : Addr).add j = ⟨g, j, none⟩ := by unfold Addr.add; split <;> simp_all
def ReadsInt (w : World) (k : IntKind) (A : Option Addr) (n : Nat) (xs : List Int) : Prop :=
  xs.length = n ∧ n ≤ 9223372036854775807 ∧ (0 < n → ∃ ad, A = some ad ∧ ∀ j, j < n → w.cell? (ad.add j) = some (.int k (xs.getD j 0)))
theorem ReadsInt.at_ {w : World} {k : IntKind} {A : Option Addr} {n : Nat} {xs : List Int} (h : ReadsInt w k A n xs) (i : Int) (h0 : 0 ≤ i) (h1 : i < n) : ∃ ad, A = some ad ∧ w.cell? (ad.add i.toNat) = some (.int k (rd xs i)) := by
  obtain ⟨ad, e, hc⟩ := h.2.2 (by omega)
  exact ⟨ad, e, hc _ (by omega)⟩
theorem own_nil (W : World) (base : Nat) (e : TypeId) (size : Nat) : W.ownsRow base e size (.slice none 0 0) 0 [] := ⟨by simp, .inl ⟨rfl, rfl⟩⟩
theorem own_base {w : World} {base : Nat} {e : TypeId} {size n : Nat} {v : Value} {xs : List Value} (h : w.ownsRow base e size v n xs) (k : Nat) (hk : v.ownBlock = some k) : base ≤ k := by
  rcases h.2 with ⟨rfl, _⟩ | ⟨g, cap, cur, rfl, hb, _⟩
  · simp [Value.ownBlock] at hk
  · have : g = k := by simpa [Value.ownBlock] using hk
    omega
theorem own_lt {w : World} {base : Nat} {e : TypeId} {size n : Nat} {v : Value} {xs : List Value} (h : w.ownsRow base e size v n xs) (k : Nat) (hk : v.ownBlock = some k) : k < w.heap.size := by
  rcases h.2 with ⟨rfl, _⟩ | ⟨g, cap, cur, rfl, hb, hh, _⟩
  · simp [Value.ownBlock] at hk
  · have : g = k := by simpa [Value.ownBlock] using hk
    subst this
    exact (Array.getElem?_eq_some_iff.1 hh).1
section
variable {P : Program} {ops : Array Oper} {rest : List Oper} {o : Oper} {a : Act} {Q : Exit → Act → World → Prop}
end
section
variable {P : Program}
end
section
variable {P : Program} {ops : Array Oper} {rest : List Oper} {o : Oper} {a : Act} {Q : Exit → Act → World → Prop}
theorem print_append_row {w0 W : World} (base : Nat) (hgd : o.guard = none) (s x : Operand) (t e : TypeId) (k : IntKind) (bytes : Nat)
    (ho : o.op = .call { callee := .builtin .append, args := #[s, x], argTypes := #[t, t] })
    (ht : P.underlying t = some (.slice e)) (hinfo : (P.info? e).map (fun i => (i.zero, i.size, i.bytes)) = some (some (.int k 0), 1, bytes)) (hb0 : 0 < bytes)
    (v : Value) (xs ys : List Int) (A : Option Addr) (m c : Nat) (hs : a.eval s = v) (hx : a.eval x = .slice A m c)
    (HO : W.ownsRow base e 1 v xs.length (nums k xs)) (HR : ReadsInt W k A m ys) (HB : Below base w0 W) (hbase : base ≤ W.heap.size) (hl : (xs.length + m) * bytes ≤ 140737488355328)
    (h : ∀ v1 w1, w1.ownsRow base e 1 v1 (xs ++ ys).length (nums k (xs ++ ys)) → Below base w0 w1 → W.grownBy w1 v.ownBlock → (v1.ownBlock = v.ownBlock ∨ ∃ b, v1.ownBlock = some b ∧ W.heap.size ≤ b) → wpList P ops Q rest (a.put o.dst v1) w1) :
    wpList P ops Q (o :: rest) a W := by
  obtain ⟨i0, hi, hzz⟩ := Option.map_eq_some_iff.1 hinfo
  simp only [Prod.mk.injEq] at hzz
  obtain ⟨hz0, hz1, hz2⟩ := hzz
  have hm : ys.length = m := HR.1
  have hlen : xs.length + m ≤ 140737488355328 := Nat.le_trans (Nat.le_mul_of_pos_right _ hb0) hl
  have hrun : ∃ v1 w1, (Builtin.append_ #[t, t] o.type #[v, .slice A m c]).run P W = .ok v1 w1 ∧ w1.ownsRow base e 1 v1 (xs ++ ys).length (nums k (xs ++ ys)) ∧ W.grownBy w1 v.ownBlock ∧ (v1.ownBlock = v.ownBlock ∨ v1.ownBlock = some W.heap.size) := by
    rcases A with _ | ad
    · have h0 : m = 0 := by
        rcases Nat.eq_zero_or_pos m with h0 | h0
        · exact h0
        · obtain ⟨ad, h, _⟩ := HR.2.2 h0
          cases h
      subst h0
      obtain rfl : ys = [] := List.eq_nil_of_length_eq_zero hm
      refine ⟨v, W, ?_, by simpa using HO, World.grownBy.refl W _, .inl rfl⟩
      rcases HO.2 with ⟨rfl, hn⟩ | ⟨g, cap, cur, rfl, _, _, hnc, _⟩
      · simp [Builtin.append_, run_underlying ht, sizeOf, typeInfo, hi, Builtin.lenOf, Builtin.firstCells]
      · simp [Builtin.append_, run_underlying ht, sizeOf, typeInfo, hi, Builtin.lenOf, Builtin.firstCells, hnc, storeCells]
    · have hcells : ∀ j u, (nums k ys)[j]? = some u → W.cell? (ad.add j) = some u := by
        intro j u hu
        have hj : j < ys.length := by
          rcases Nat.lt_or_ge j ys.length with h | h
          · exact h
          · simp [nums, List.getElem?_eq_none h] at hu
        obtain ⟨ad', h', hc⟩ := HR.2.2 (by omega)
        injection h' with h'
        subst h'
        have := hc j (by omega)
        simp [nums, List.getElem?_eq_getElem hj] at hu
        subst hu
        rw [this]
        simp [List.getD_eq_getElem?_getD, List.getElem?_eq_getElem hj]
      obtain ⟨v1, w1, hr, h2, h3, _, h5⟩ := run_append_own_at (P := P) W base t o.type e i0 (.int k 0) 1 bytes ht hi hz0 hz1 hz2 rfl (by omega) v xs.length (nums k xs) HO ad m c (nums k ys) (by simp [nums, hm]) hcells
        (by intro u hu; simp only [nums, List.mem_map] at hu; obtain ⟨q, _, rfl⟩ := hu; rfl) (by simp only [maxLen]; omega) hl hbase
      exact ⟨v1, w1, hr, by simpa [nums, hm] using h2, h3, h5⟩
  obtain ⟨v1, w1, hr, hown, hg, hat⟩ := hrun
  refine wpList_plain hgd fun K hK => ?_
  unfold Oper.wp execOp
  simp only [ho, resolve, invoke, builtin, Sem.run_bind, Sem.run_pure, Result.andThen_ok, List.map_toArray, List.map_cons, List.map_nil, hs, hx, hr]
  refine hK _ _ (h v1 w1 hown (HB.grown hg hbase (own_base HO)) hg ?_)
  rcases hat with hat | hat
  · exact .inl hat
  · exact .inr ⟨_, hat, Nat.le_refl _⟩
end
def Reps {α : Type} (R : α → List Value → Prop) (size : Nat) (ps : List α) (cs : List Value) : Prop :=
  cs.length = ps.length * size ∧ ∀ j p, ps[j]? = some p → R p ((cs.drop (j * size)).take size)
theorem Reps.none {α : Type} (R : α → List Value → Prop) (size : Nat) : Reps R size [] [] := ⟨by simp, fun j p h => by simp at h⟩
theorem Reps.snoc {α : Type} {R : α → List Value → Prop} {size : Nat} {ps : List α} {cs c : List Value} {p : α} (h : Reps R size ps cs) (hp : R p c) (hc : c.length = size) : Reps R size (ps ++ [p]) (cs ++ c) := by
  refine ⟨by rw [List.length_append, h.1, hc, List.length_append, List.length_singleton, Nat.add_mul, Nat.one_mul], fun j q hq => ?_⟩
  rcases Nat.lt_or_ge j ps.length with hj | hj
  · rw [List.getElem?_append_left hj] at hq
    have h1 : j * size + size ≤ cs.length := by rw [h.1, ← Nat.succ_mul]; exact Nat.mul_le_mul_right _ hj
    have h2 := h.2 j q hq
    rw [List.drop_append_of_le_length (by omega), List.take_append_of_le_length (by rw [List.length_drop]; omega)]
    exact h2
  · have hj' : j = ps.length := by
      have := (List.getElem?_eq_some_iff.1 hq).1
      rw [List.length_append, List.length_singleton] at this
      omega
    subst hj'
    have hq' : p = q := by simpa using hq
    subst hq'
    rw [← h.1, List.drop_left, ← hc, List.take_length]
    exact hp
theorem Reps.imp_ {α : Type} {R R' : α → List Value → Prop} {size : Nat} {ps : List α} {cs : List Value} (h : Reps R size ps cs) (hR : ∀ p c, R p c → R' p c) : Reps R' size ps cs := ⟨h.1, fun j p hj => hR _ _ (h.2 j p hj)⟩
def ReadsRow {α : Type} (R : α → List Value → Prop) (size : Nat) (w : World) (A : Option Addr) (n : Nat) (ps : List α) : Prop :=
  ps.length = n ∧ n ≤ 9223372036854775807 ∧ (0 < n → ∃ ad, A = some ad ∧ ∀ j p, ps[j]? = some p → ∃ c, c.length = size ∧ R p c ∧ ∀ i u, c[i]? = some u → w.cell? (ad.add (j * size + i)) = some u)
theorem ReadsRow.get_ {α : Type} {R : α → List Value → Prop} {size : Nat} {w : World} {A : Option Addr} {n : Nat} {ps : List α} (h : ReadsRow R size w A n ps) (d : α) (i : Int) (h0 : 0 ≤ i) (h1 : i < n) :
    ∃ ad c, A = some ad ∧ c.length = size ∧ R (ps.getD i.toNat d) c ∧ ∀ j u, c[j]? = some u → w.cell? (ad.add (i.toNat * size + j)) = some u := by
  obtain ⟨ad, e, hc⟩ := h.2.2 (by omega)
  have hl : i.toNat < ps.length := by have := h.1; omega
  obtain ⟨c, hs, hr, hcell⟩ := hc i.toNat _ (List.getElem?_eq_getElem hl)
  refine ⟨ad, c, e, hs, ?_, hcell⟩
  rw [List.getD_eq_getElem?_getD, List.getElem?_eq_getElem hl]
  exact hr
theorem ReadsRow.imp_ {α : Type} {R R' : α → List Value → Prop} {size : Nat} {w w1 : World} {A : Option Addr} {n : Nat} {ps : List α} (h : ReadsRow R size w A n ps) (hb : Below w.heap.size w w1) (hR : ∀ p c, R p c → R' p c) : ReadsRow R' size w1 A n ps :=
  ⟨h.1, h.2.1, fun hn => by
    obtain ⟨ad, e, hc⟩ := h.2.2 hn
    refine ⟨ad, e, fun j p hj => ?_⟩
    obtain ⟨c, hs, hr, hcell⟩ := hc j p hj
    exact ⟨c, hs, hR _ _ hr, fun i u hu => pw_cell_below hb (hcell i u hu)⟩⟩
theorem own_reads_row {α : Type} {R : α → List Value → Prop} {w : World} {base n size : Nat} {e : TypeId} {v : Value} {ps : List α} {cs : List Value} (h : w.ownsRow base e size v n cs) (hR : Reps R size ps cs) (hn : ps.length = n) :
    ∃ A c, v = .slice A n c ∧ ReadsRow R size w A n ps := by
  rcases Nat.eq_zero_or_pos n with h0 | h0
  · rcases h.2 with ⟨rfl, rfl⟩ | ⟨g, cap, cur, rfl, _⟩
    · exact ⟨none, 0, rfl, hn, by omega, fun hp => absurd hp (by omega)⟩
    · exact ⟨_, cap, rfl, hn, by omega, fun hp => absurd hp (by omega)⟩
  · obtain ⟨g, cap, rfl, _, _⟩ := h.form h0
    have hm : n ≤ 9223372036854775807 := by
      rcases h.2 with ⟨_, h1⟩ | ⟨g', cap', cur, he, _, _, h1, h2, _⟩
      · omega
      · simp only [maxLen] at h2
        omega
    refine ⟨_, cap, rfl, hn, hm, fun _ => ⟨_, rfl, fun j p hj => ⟨(cs.drop (j * size)).take size, ?_, hR.2 j p hj, fun i u hu => ?_⟩⟩⟩
    · have hjl := (List.getElem?_eq_some_iff.1 hj).1
      have h1 : j * size + size ≤ cs.length := by rw [hR.1, ← Nat.succ_mul]; exact Nat.mul_le_mul_right _ hjl
      rw [List.length_take, List.length_drop]
      omega
    · refine h.cells (g := g) rfl _ u ?_
      rw [List.getElem?_take] at hu
      split at hu
      · rw [List.getElem?_drop] at hu
        exact hu
      · cases hu
section
variable {P : Program} {ops : Array Oper} {rest : List Oper} {o : Oper} {a : Act} {Q : Exit → Act → World → Prop}
theorem print_append_cells {w0 W : World} (base : Nat) (hgd : o.guard = none) (s x : Operand) (t e : TypeId) (z : Value) (size bytes : Nat)
    (ho : o.op = .call { callee := .builtin .append, args := #[s, x], argTypes := #[t, t] })
    (ht : P.underlying t = some (.slice e)) (hinfo : (P.info? e).map (fun i => (i.zero, i.size, i.bytes)) = some (some z, size, bytes)) (hz : z.cells.size = size) (hs0 : 0 < size) (hb0 : 0 < bytes)
    (v : Value) (n : Nat) (xs ys : List Value) (hs : a.eval s = v) (hx : a.eval x = .slice (some ⟨W.heap.size, 0, none⟩) 1 1) (hys : ys.length = size) (h1 : ∀ u ∈ ys, u.oneCell' = true)
    (HO : W.ownsRow base e size v n xs) (HB : Below base w0 W) (hbase : base ≤ W.heap.size) (hl : (n + 1) * bytes ≤ 140737488355328)
    (h : ∀ v1 w1, w1.ownsRow base e size v1 (n + 1) (xs ++ ys) → Below base w0 w1 → W.grownBy w1 v.ownBlock → (v1.ownBlock = v.ownBlock ∨ ∃ b, v1.ownBlock = some b ∧ W.heap.size ≤ b) → wpList P ops Q rest (a.put o.dst v1) w1) :
    wpList P ops Q (o :: rest) a (W.alloc (.cells ys.toArray e)) := by
  obtain ⟨i0, hi, hzz⟩ := Option.map_eq_some_iff.1 hinfo
  simp only [Prod.mk.injEq] at hzz
  obtain ⟨hz0, hz1, hz2⟩ := hzz
  have hlen : n + 1 ≤ 140737488355328 := Nat.le_trans (Nat.le_mul_of_pos_right _ hb0) hl
  refine wpList_append_own_at (W.alloc (.cells ys.toArray e)) hgd s x t ho base e i0 z size bytes ht hi hz0 hz1 hz2 hz hs0 v n xs hs (HO.alloc _) ⟨W.heap.size, 0, none⟩ 1 1 ys hx (by rw [hys]; simp)
    (by simpa using World.news_of_block (cs := ys.toArray) (t := e) (fr := (0, 0)) (heap_alloc_new W (.cells ys.toArray e))) h1 (by simp only [maxLen]; omega) hl (by simp; omega) ?_
  intro v1 w1 hown hg _ hat
  refine h v1 w1 hown ((HB.alloc hbase _).grown hg (by simp; omega) (own_base HO)) (World.grownBy.trans (World.grownBy_alloc W _ _) hg) ?_
  rcases hat with hat | hat
  · exact .inl hat
  · exact .inr ⟨_, hat, by simp⟩
end
theorem blk_ne {w : World} {g g' : Nat} {t t' : TypeId} {cs cs' : Array Value} (h : w.heap[g]? = some (.cells cs t (0, 0))) (h' : w.heap[g']? = some (.cells cs' t' (0, 0))) (hne : t ≠ t') : g ≠ g' := by
  rintro rfl
  rw [h] at h'
  injection h' with h'
  injection h' with _ ht
  exact hne ht
def KeepBut (w w' : World) (g : Nat) (row : Option Nat) : Prop := w.heap.size ≤ w'.heap.size ∧ ∀ i, i < w.heap.size → i ≠ g → some i ≠ row → w'.heap[i]? = w.heap[i]?
theorem KeepBut.trans {w w1 w2 : World} {g : Nat} {row row1 : Option Nat} (h : KeepBut w w1 g row) (k : KeepBut w1 w2 g row1) (hr : row1 = row ∨ ∃ b, row1 = some b ∧ w.heap.size ≤ b) : KeepBut w w2 g row :=
  ⟨Nat.le_trans h.1 k.1, fun i hi hg hn => by
    refine (k.2 i (Nat.lt_of_lt_of_le hi h.1) hg ?_).trans (h.2 i hi hg hn)
    rcases hr with rfl | ⟨b, rfl, hb⟩
    · exact hn
    · intro e
      injection e with e
      omega⟩
section
variable {P : Program} {ops : Array Oper} {o : Oper} {a : Act} {Q : Exit → Act → World → Prop} {K : Act → World → Prop}
end
theorem own_weaken {w : World} {base base' : Nat} {e : TypeId} {size n : Nat} {v : Value} {xs : List Value} (h : w.ownsRow base e size v n xs) (hb : base' ≤ base) : w.ownsRow base' e size v n xs := by
  obtain ⟨h1, h2⟩ := h
  refine ⟨h1, ?_⟩
  rcases h2 with h2 | ⟨g, cap, cur, rfl, hg, r⟩
  · exact .inl h2
  · exact .inr ⟨g, cap, cur, rfl, Nat.le_trans hb hg, r⟩
section
variable {α : Type} {enc : α → Value} {d : α}
def encs (enc : α → Value) (xs : List α) : List Value := xs.map enc
def rdOf (d : α) (xs : List α) (i : Int) : α := xs.getD i.toNat d
theorem encs_length (xs : List α) : (encs enc xs).length = xs.length := by simp [encs]
theorem encs_append (xs ys : List α) : encs enc (xs ++ ys) = encs enc xs ++ encs enc ys := by simp [encs]
theorem encs_get (xs : List α) (j : Nat) (h : j < xs.length) : (encs enc xs)[j]? = some (enc (xs.getD j d)) := by
  simp [encs, List.getElem?_eq_getElem h, List.getD_eq_getElem?_getD]
def ReadsOf (enc : α → Value) (d : α) (w : World) (A : Option Addr) (n : Nat) (xs : List α) : Prop :=
  xs.length = n ∧ n ≤ 9223372036854775807 ∧ (0 < n → ∃ ad, A = some ad ∧ ∀ j, j < n → w.cell? (ad.add j) = some (enc (xs.getD j d)))
theorem ReadsOf.at_ {w : World} {A : Option Addr} {n : Nat} {xs : List α} (h : ReadsOf enc d w A n xs) (i : Int) (h0 : 0 ≤ i) (h1 : i < n) : ∃ ad, A = some ad ∧ w.cell? (ad.add i.toNat) = some (enc (rdOf d xs i)) := by
  obtain ⟨ad, e, hc⟩ := h.2.2 (by omega)
  exact ⟨ad, e, hc _ (by omega)⟩
end
section
variable {α : Type} {P : Program} {ops : Array Oper} {rest : List Oper} {o : Oper} {a : Act} {Q : Exit → Act → World → Prop}
theorem print_append_row_of {w0 W : World} (enc : α → Value) (d : α) (base : Nat) (hgd : o.guard = none) (s x : Operand) (t e : TypeId) (z : Value) (bytes : Nat)
    (ho : o.op = .call { callee := .builtin .append, args := #[s, x], argTypes := #[t, t] })
    (ht : P.underlying t = some (.slice e)) (hinfo : (P.info? e).map (fun i => (i.zero, i.size, i.bytes)) = some (some z, 1, bytes)) (hz : z.cells.size = 1) (hb0 : 0 < bytes) (h1 : ∀ x : α, (enc x).oneCell' = true)
    (v : Value) (xs ys : List α) (A : Option Addr) (m c : Nat) (hs : a.eval s = v) (hx : a.eval x = .slice A m c)
    (HO : W.ownsRow base e 1 v xs.length (encs enc xs)) (HR : ReadsOf enc d W A m ys) (HB : Below base w0 W) (hbase : base ≤ W.heap.size) (hl : (xs.length + m) * bytes ≤ 140737488355328)
    (h : ∀ v1 w1, w1.ownsRow base e 1 v1 (xs ++ ys).length (encs enc (xs ++ ys)) → Below base w0 w1 → W.grownBy w1 v.ownBlock → (v1.ownBlock = v.ownBlock ∨ ∃ b, v1.ownBlock = some b ∧ W.heap.size ≤ b) → wpList P ops Q rest (a.put o.dst v1) w1) :
    wpList P ops Q (o :: rest) a W := by
  obtain ⟨i0, hi, hzz⟩ := Option.map_eq_some_iff.1 hinfo
  simp only [Prod.mk.injEq] at hzz
  obtain ⟨hz0, hz1, hz2⟩ := hzz
  have hm : ys.length = m := HR.1
  have hlen : xs.length + m ≤ 140737488355328 := Nat.le_trans (Nat.le_mul_of_pos_right _ hb0) hl
  have hrun : ∃ v1 w1, (Builtin.append_ #[t, t] o.type #[v, .slice A m c]).run P W = .ok v1 w1 ∧ w1.ownsRow base e 1 v1 (xs ++ ys).length (encs enc (xs ++ ys)) ∧ W.grownBy w1 v.ownBlock ∧ (v1.ownBlock = v.ownBlock ∨ v1.ownBlock = some W.heap.size) := by
    rcases A with _ | ad
    · have h0 : m = 0 := by
        rcases Nat.eq_zero_or_pos m with h0 | h0
        · exact h0
        · obtain ⟨ad, h, _⟩ := HR.2.2 h0
          cases h
      subst h0
      obtain rfl : ys = [] := List.eq_nil_of_length_eq_zero hm
      refine ⟨v, W, ?_, by simpa using HO, World.grownBy.refl W _, .inl rfl⟩
      rcases HO.2 with ⟨rfl, hn⟩ | ⟨g, cap, cur, rfl, _, _, hnc, _⟩
      · simp [Builtin.append_, run_underlying ht, sizeOf, typeInfo, hi, Builtin.lenOf, Builtin.firstCells]
      · simp [Builtin.append_, run_underlying ht, sizeOf, typeInfo, hi, Builtin.lenOf, Builtin.firstCells, hnc, storeCells]
    · have hcells : ∀ j u, (encs enc ys)[j]? = some u → W.cell? (ad.add j) = some u := by
        intro j u hu
        have hj : j < ys.length := by
          rcases Nat.lt_or_ge j ys.length with h | h
          · exact h
          · simp [encs, List.getElem?_eq_none h] at hu
        obtain ⟨ad', h', hc⟩ := HR.2.2 (by omega)
        injection h' with h'
        subst h'
        rw [encs_get (d := d) ys j hj] at hu
        rw [← hu]
        exact hc j (by omega)
      obtain ⟨v1, w1, hr, h2, h3, _, h5⟩ := run_append_own_at (P := P) W base t o.type e i0 z 1 bytes ht hi hz0 hz1 hz2 hz (by omega) v xs.length (encs enc xs) HO ad m c (encs enc ys) (by simp [encs, hm]) hcells
        (by intro u hu; simp only [encs, List.mem_map] at hu; obtain ⟨q, _, rfl⟩ := hu; exact h1 q) (by simp only [maxLen]; omega) hl hbase
      exact ⟨v1, w1, hr, by simpa [encs, hm] using h2, h3, h5⟩
  obtain ⟨v1, w1, hr, hown, hg, hat⟩ := hrun
  refine wpList_plain hgd fun K hK => ?_
  unfold Oper.wp execOp
  simp only [ho, resolve, invoke, builtin, Sem.run_bind, Sem.run_pure, Result.andThen_ok, List.map_toArray, List.map_cons, List.map_nil, hs, hx, hr]
  refine hK _ _ (h v1 w1 hown (HB.grown hg hbase (own_base HO)) hg ?_)
  rcases hat with hat | hat
  · exact .inl hat
  · exact .inr ⟨_, hat, Nat.le_refl _⟩
end
def NeRow (v v' : Value) : Prop := ∀ k, v.ownBlock = some k → v'.ownBlock ≠ some k
theorem ne_below {W w1 : World} {v1 v' : Value} {base n size n1 size1 : Nat} {e e1 : TypeId} {xs xs1 : List Value} (h1 : w1.ownsRow W.heap.size e1 size1 v1 n1 xs1) (ho : W.ownsRow base e size v' n xs) : NeRow v1 v' := by
  intro k hk hk'
  have h2 := own_base h1 k hk
  have h3 := own_lt ho k hk'
  omega
section
variable {P : Program}
end
theorem own_le {w : World} {base n m c size : Nat} {e : TypeId} {A : Option Addr} {xs : List Value} (h : w.ownsRow base e size (.slice A m c) n xs) : m ≤ c := by
  rcases h.2 with ⟨he, _⟩ | ⟨g, cap, cur, he, _, _, hnc, _⟩
  · injection he with _ h2 h3
    omega
  · injection he with _ h2 h3
    omega
def OwnRow {α : Type} (R : α → List Value → Prop) (e : TypeId) (size : Nat) (w : World) (base : Nat) (v : Value) (ps : List α) : Prop :=
  ∃ inner, w.ownsRow base e size v ps.length inner ∧ Reps R size ps inner
section
variable {α : Type} {R R' : α → List Value → Prop} {e : TypeId} {size : Nat} {w w1 : World} {base : Nat} {v : Value} {ps : List α}
theorem OwnRow.none_ (R : α → List Value → Prop) (e : TypeId) (size : Nat) (w : World) (base : Nat) : OwnRow R e size w base (.slice none 0 0) [] := ⟨[], own_nil _ _ _ _, Reps.none _ _⟩
theorem OwnRow.imp_ (h : OwnRow R e size w base v ps) (hR : ∀ p c, R p c → R' p c) : OwnRow R' e size w base v ps := by
  obtain ⟨inner, ho, hr⟩ := h
  exact ⟨inner, ho, hr.imp_ hR⟩
theorem OwnRow.reads (h : OwnRow R e size w base v ps) : ∃ A c, v = .slice A ps.length c ∧ ps.length ≤ c ∧ ReadsRow R size w A ps.length ps := by
  obtain ⟨inner, ho, hr⟩ := h
  obtain ⟨A, c, rfl, hrow⟩ := own_reads_row ho hr rfl
  exact ⟨A, c, rfl, own_le ho, hrow⟩
end
section
variable {P : Program} {ops : Array Oper} {rest : List Oper} {o : Oper} {a : Act} {Q : Exit → Act → World → Prop} {α : Type} {R : α → List Value → Prop}
end
section
variable {P : Program} {ops : Array Oper} {o : Oper} {a : Act} {Q : Exit → Act → World → Prop} {K : Act → World → Prop} {α : Type} {R : α → List Value → Prop}
end
theorem ReadsRow.inner_ {α : Type} {R : α → List Value → Prop} {size : Nat} {w : World} {ad : Addr} {n : Nat} {ps : List α} (h : ReadsRow R size w (some ad) n ps) :
    ∃ inner, Reps R size ps inner ∧ ∀ j u, inner[j]? = some u → w.cell? (ad.add j) = some u := by
  have key : ∀ m, m ≤ ps.length → ∃ inner, Reps R size (ps.take m) inner ∧ ∀ j u, inner[j]? = some u → w.cell? (ad.add j) = some u := by
    intro m
    induction m with
    | zero => exact fun _ => ⟨[], Reps.none _ _, fun j u hu => by simp at hu⟩
    | succ m ih =>
      intro hm
      obtain ⟨inner, hr, hc⟩ := ih (by omega)
      obtain ⟨ad', he, hcell⟩ := h.2.2 (by have := h.1; omega)
      injection he with he
      subst he
      obtain ⟨c, hcl, hp, hcc⟩ := hcell m _ (List.getElem?_eq_getElem (show m < ps.length by omega))
      refine ⟨inner ++ c, ?_, fun j u hu => ?_⟩
      · rw [List.take_succ_eq_append_getElem (show m < ps.length by omega)]
        exact hr.snoc hp hcl
      · have hil : inner.length = m * size := by rw [hr.1, List.length_take, Nat.min_eq_left (by omega)]
        rcases Nat.lt_or_ge j inner.length with hj | hj
        · rw [List.getElem?_append_left hj] at hu
          exact hc j u hu
        · rw [List.getElem?_append_right hj] at hu
          have := hcc (j - inner.length) u hu
          rwa [hil, Nat.add_sub_cancel' (by omega)] at this
  obtain ⟨inner, hr, hc⟩ := key ps.length (Nat.le_refl _)
  rw [List.take_length] at hr
  exact ⟨inner, hr, hc⟩
section
variable {α : Type} {P : Program}
end
section
variable {P : Program} {ops : Array Oper} {rest : List Oper} {o : Oper} {a : Act} {Q : Exit → Act → World → Prop}
end
structure Kd (α : Type) where
  sz : Nat
  E : List Nat
  K : World → α → List Value → Prop
  M : World → Nat → (Nat → Prop) → α → List Value → Prop
  K_len : ∀ {w x cs}, K w x cs → cs.length = sz
  K_one : ∀ {w x cs}, K w x cs → ∀ u ∈ cs, u.oneCell' = true
  K_below : ∀ {w w1 : World} {x cs}, Below w.heap.size w w1 → K w x cs → K w1 x cs
  K_of_M : ∀ {w base ok x cs}, M w base ok x cs → K w x cs
  M_mono : ∀ {w base ok ok' x cs}, (∀ k, ok k → ok' k) → M w base ok x cs → M w base ok' x cs
  M_bound : ∀ {w : World} {base ok x cs}, M w base ok x cs → M w base (fun k => ok k ∧ base ≤ k ∧ k < w.heap.size ∧ ∃ q, q ∈ E ∧ ∃ cells, w.heap[k]? = some (.cells cells q (0, 0))) x cs
  M_move : ∀ {w w1 : World} {base ok x cs}, (∀ k, ok k → w1.heap[k]? = w.heap[k]?) → M w base ok x cs → M w1 base ok x cs
  M_lower : ∀ {w base base' ok x cs}, base' ≤ base → M w base ok x cs → M w base' ok x cs
theorem own_move {w w1 : World} {base : Nat} {e : TypeId} {size n : Nat} {v : Value} {xs : List Value} (h : w.ownsRow base e size v n xs) (hm : ∀ k, v.ownBlock = some k → w1.heap[k]? = w.heap[k]?) : w1.ownsRow base e size v n xs := by
  obtain ⟨h1, h2⟩ := h
  refine ⟨h1, ?_⟩
  rcases h2 with h2 | ⟨g, cap, cur, rfl, hg, hh, r⟩
  · exact .inl h2
  · exact .inr ⟨g, cap, cur, rfl, hg, (hm g (by simp [Value.ownBlock])).trans hh, r⟩
theorem own_typed {w : World} {base : Nat} {e : TypeId} {size n : Nat} {v : Value} {xs : List Value} (h : w.ownsRow base e size v n xs) (k : Nat) (hk : v.ownBlock = some k) : ∃ cells, w.heap[k]? = some (.cells cells e (0, 0)) := by
  rcases h.2 with ⟨rfl, _⟩ | ⟨g, cap, cur, rfl, hg, hh, r⟩
  · simp [Value.ownBlock] at hk
  · have : g = k := by simpa [Value.ownBlock] using hk
    subst this
    exact ⟨cur, hh⟩
namespace Kd
def C {α : Type} (d : Kd α) (w : World) (A : Option Addr) (n : Nat) (xs : List α) : Prop := ReadsRow (d.K w) d.sz w A n xs
def R {α : Type} (d : Kd α) (e : Nat) (w : World) (base : Nat) (ok : Nat → Prop) (v : Value) (xs : List α) : Prop :=
  (∀ k, v.ownBlock = some k → ok k) ∧ OwnRow (d.M w base (fun k => ok k ∧ some k ≠ v.ownBlock)) e d.sz w base v xs
section
variable {α : Type} {d : Kd α} {e : Nat} {w w1 : World} {base : Nat} {ok ok' : Nat → Prop} {v : Value} {xs : List α}
theorem C_below {A : Option Addr} {n : Nat} (h : d.C w A n xs) (hb : Below w.heap.size w w1) : d.C w1 A n xs := ReadsRow.imp_ h hb (fun _ _ hp => d.K_below hb hp)
theorem R_nil (d : Kd α) (e : Nat) (w : World) (base : Nat) (ok : Nat → Prop) : d.R e w base ok (.slice none 0 0) [] := ⟨fun k hk => by simp [Value.ownBlock] at hk, OwnRow.none_ _ _ _ _ _⟩
theorem R_mono (h : d.R e w base ok v xs) (hok : ∀ k, ok k → ok' k) : d.R e w base ok' v xs := ⟨fun k hk => hok k (h.1 k hk), h.2.imp_ (fun _ _ hp => d.M_mono (fun k hk => ⟨hok k hk.1, hk.2⟩) hp)⟩
theorem R_bound (h : d.R e w base ok v xs) : d.R e w base (fun k => ok k ∧ base ≤ k ∧ k < w.heap.size ∧ ∃ q, q ∈ e :: d.E ∧ ∃ cells, w.heap[k]? = some (.cells cells q (0, 0))) v xs := by
  obtain ⟨h0, inner, ho, hr⟩ := h
  refine ⟨fun k hk => ?_, inner, ho, hr.imp_ (fun _ _ hp => d.M_mono (fun k hk => ?_) (d.M_bound hp))⟩
  · obtain ⟨cells, hc⟩ := own_typed ho k hk
    exact ⟨h0 k hk, own_base ho k hk, own_lt ho k hk, e, List.mem_cons_self, cells, hc⟩
  · obtain ⟨⟨h1, h2⟩, h3, h4, q, hq, hc⟩ := hk
    exact ⟨⟨h1, h3, h4, q, List.mem_cons_of_mem _ hq, hc⟩, h2⟩
theorem R_move (h : d.R e w base ok v xs) (hm : ∀ k, ok k → w1.heap[k]? = w.heap[k]?) : d.R e w1 base ok v xs := by
  obtain ⟨h0, inner, ho, hr⟩ := h
  exact ⟨h0, inner, own_move ho (fun k hk => hm k (h0 k hk)), hr.imp_ (fun _ _ hp => d.M_move (fun k hk => hm k hk.1) hp)⟩
theorem R_lower {base' : Nat} (h : d.R e w base ok v xs) (hb : base' ≤ base) : d.R e w base' ok v xs := by
  obtain ⟨h0, inner, ho, hr⟩ := h
  exact ⟨h0, inner, own_weaken ho hb, hr.imp_ (fun _ _ hp => d.M_lower hb hp)⟩
theorem R_step (h : d.R e w base ok v xs) (hm : ∀ k, ok k → k < w.heap.size → w1.heap[k]? = w.heap[k]?) : d.R e w1 base ok v xs :=
  R_mono (R_move (R_bound h) (fun k hk => hm k hk.1 hk.2.2.1)) (fun _ hk => hk.1)
theorem M_step {x : α} {cs : List Value} (h : d.M w base ok x cs) (hm : ∀ k, ok k → k < w.heap.size → w1.heap[k]? = w.heap[k]?) : d.M w1 base ok x cs :=
  d.M_mono (fun _ hk => hk.1) (d.M_move (fun k hk => hm k hk.1 hk.2.2.1) (d.M_bound h))
theorem R_below (h : d.R e w base ok v xs) (hb : Below w.heap.size w w1) : d.R e w1 base ok v xs := R_step h (fun k _ hk => hb.block k hk)
theorem M_below {x : α} {cs : List Value} (h : d.M w base ok x cs) (hb : Below w.heap.size w w1) : d.M w1 base ok x cs := M_step h (fun k _ hk => hb.block k hk)
theorem R_grown (h : d.R e w base ok v xs) {row : Option Nat} (hg : w.grownBy w1 row) (hok : ∀ k, ok k → some k ≠ row) : d.R e w1 base ok v xs := R_step h (fun k ho hk => hg.block k hk (hok k ho))
theorem R_reads (h : d.R e w base ok v xs) : ∃ A c, v = .slice A xs.length c ∧ xs.length ≤ c ∧ d.C w A xs.length xs := by
  obtain ⟨A, c, he, hl, hr⟩ := OwnRow.reads h.2
  exact ⟨A, c, he, hl, hr.imp_ (Below.refl _ _) (fun _ _ hp => d.K_of_M hp)⟩
theorem R_slice (h : d.R e w base ok v xs) : ∃ A c, v = .slice A xs.length c := by
  obtain ⟨A, c, he, _⟩ := R_reads h
  exact ⟨A, c, he⟩
theorem R_own (h : d.R e w base ok v xs) : ∃ inner, w.ownsRow base e d.sz v xs.length inner := by
  obtain ⟨_, inner, ho, _⟩ := h
  exact ⟨inner, ho⟩
end
def scalar {α : Type} (enc : α → Value) (h1 : ∀ x, (enc x).oneCell' = true) : Kd α where
  sz := 1
  E := []
  K := fun _ x cs => cs = [enc x]
  M := fun _ _ _ x cs => cs = [enc x]
  K_len := fun h => by rw [h]; rfl
  K_one := fun h u hu => by
    rw [h] at hu
    rw [List.mem_singleton.1 hu]
    exact h1 _
  K_below := fun _ h => h
  K_of_M := fun h => h
  M_mono := fun _ h => h
  M_bound := fun h => h
  M_move := fun _ h => h
  M_lower := fun _ h => h
def int (k : IntKind) : Kd Int := scalar (Value.int k) (fun _ => rfl)
def bool : Kd Bool := scalar Value.bool (fun _ => rfl)
def string : Kd ByteArray := scalar Value.string (fun _ => rfl)
def slice {α : Type} (e : Nat) (d : Kd α) : Kd (List α) where
  sz := 1
  E := e :: d.E
  K := fun w xs cs => ∃ A c, cs = [.slice A xs.length c] ∧ xs.length ≤ c ∧ d.C w A xs.length xs
  M := fun w base ok xs cs => ∃ v, cs = [v] ∧ d.R e w base ok v xs
  K_len := by
    rintro w x cs ⟨A, c, rfl, _⟩
    rfl
  K_one := by
    rintro w x cs ⟨A, c, rfl, _⟩ u hu
    rw [List.mem_singleton.1 hu]
    rfl
  K_below := by
    rintro w w1 x cs hb ⟨A, c, rfl, hl, hr⟩
    exact ⟨A, c, rfl, hl, C_below hr hb⟩
  K_of_M := by
    rintro w base ok x cs ⟨v, rfl, h⟩
    obtain ⟨A, c, rfl, hl, hr⟩ := R_reads h
    exact ⟨A, c, rfl, hl, hr⟩
  M_mono := by
    rintro w base ok ok' x cs hok ⟨v, rfl, h⟩
    exact ⟨v, rfl, R_mono h hok⟩
  M_bound := by
    rintro w base ok x cs ⟨v, rfl, h⟩
    exact ⟨v, rfl, R_bound h⟩
  M_move := by
    rintro w w1 base ok x cs hm ⟨v, rfl, h⟩
    exact ⟨v, rfl, R_move h hm⟩
  M_lower := by
    rintro w base base' ok x cs hb ⟨v, rfl, h⟩
    exact ⟨v, rfl, R_lower h hb⟩
def pair {α β : Type} (a : Kd α) (b : Kd β) : Kd (α × β) where
  sz := a.sz + b.sz
  E := a.E ++ b.E
  K := fun w x cs => ∃ c0 c1, cs = c0 ++ c1 ∧ a.K w x.1 c0 ∧ b.K w x.2 c1
  M := fun w base ok x cs => ∃ c0 c1, cs = c0 ++ c1 ∧ a.M w base ok x.1 c0 ∧ b.M w base ok x.2 c1
  K_len := by
    rintro w x cs ⟨c0, c1, rfl, h0, h1⟩
    rw [List.length_append, a.K_len h0, b.K_len h1]
  K_one := by
    rintro w x cs ⟨c0, c1, rfl, h0, h1⟩ u hu
    rcases List.mem_append.1 hu with hu | hu
    · exact a.K_one h0 u hu
    · exact b.K_one h1 u hu
  K_below := by
    rintro w w1 x cs hb ⟨c0, c1, rfl, h0, h1⟩
    exact ⟨c0, c1, rfl, a.K_below hb h0, b.K_below hb h1⟩
  K_of_M := by
    rintro w base ok x cs ⟨c0, c1, rfl, h0, h1⟩
    exact ⟨c0, c1, rfl, a.K_of_M h0, b.K_of_M h1⟩
  M_mono := by
    rintro w base ok ok' x cs hok ⟨c0, c1, rfl, h0, h1⟩
    exact ⟨c0, c1, rfl, a.M_mono hok h0, b.M_mono hok h1⟩
  M_bound := by
    rintro w base ok x cs ⟨c0, c1, rfl, h0, h1⟩
    refine ⟨c0, c1, rfl, a.M_mono ?_ (a.M_bound h0), b.M_mono ?_ (b.M_bound h1)⟩
    · rintro k ⟨h2, h3, h4, q, hq, hc⟩
      exact ⟨h2, h3, h4, q, List.mem_append_left _ hq, hc⟩
    · rintro k ⟨h2, h3, h4, q, hq, hc⟩
      exact ⟨h2, h3, h4, q, List.mem_append_right _ hq, hc⟩
  M_move := by
    rintro w w1 base ok x cs hm ⟨c0, c1, rfl, h0, h1⟩
    exact ⟨c0, c1, rfl, a.M_move hm h0, b.M_move hm h1⟩
  M_lower := by
    rintro w base base' ok x cs hb ⟨c0, c1, rfl, h0, h1⟩
    exact ⟨c0, c1, rfl, a.M_lower hb h0, b.M_lower hb h1⟩
def bot {α : Type} (sz : Nat) (E : List Nat) : Kd α where
  sz := sz
  E := E
  K := fun _ _ _ => False
  M := fun _ _ _ _ _ => False
  K_len := fun h => h.elim
  K_one := fun h => h.elim
  K_below := fun _ h => h
  K_of_M := fun h => h
  M_mono := fun _ h => h
  M_bound := fun h => h
  M_move := fun _ h => h
  M_lower := fun _ h => h
def upto {α : Type} (F : Kd α → Kd α) (sz : Nat) (E : List Nat) : Nat → Kd α
  | 0 => bot sz E
  | n + 1 => F (upto F sz E n)
theorem C_get {α : Type} {d : Kd α} {w : World} {A : Option Addr} {n : Nat} {xs : List α} (h : d.C w A n xs) (z : α) (i : Int) (h0 : 0 ≤ i) (h1 : i < n) :
    ∃ ad c, A = some ad ∧ c.length = d.sz ∧ d.K w (xs.getD i.toNat z) c ∧ ∀ j u, c[j]? = some u → w.cell? (ad.add (i.toNat * d.sz + j)) = some u := ReadsRow.get_ h z i h0 h1
theorem R_appended {α : Type} {d : Kd α} {e base : Nat} {ok okp : Nat → Prop} {W w1 : World} {v v1 : Value} {xs : List α} {p : α} {inner cs : List Value} (h0 : ∀ k, v.ownBlock = some k → ok k) (hr : Reps (d.M W base (fun k => ok k ∧ some k ≠ v.ownBlock)) d.sz xs inner) (hp : d.M W base okp p cs) (hokp : ∀ k, okp k → ok k ∧ some k ≠ v.ownBlock) (hfresh : ∀ k, W.heap.size ≤ k → ok k)
    (hown : w1.ownsRow base e d.sz v1 (xs.length + 1) (inner ++ cs)) (hg : W.grownBy w1 v.ownBlock) (hat : v1.ownBlock = v.ownBlock ∨ ∃ b, v1.ownBlock = some b ∧ W.heap.size ≤ b) : d.R e w1 base ok v1 (xs ++ [p]) := by
  have hne : ∀ k, some k ≠ v.ownBlock → k < W.heap.size → some k ≠ v1.ownBlock := by
    intro k hk hlt
    rcases hat with hat | ⟨b, hb, hle⟩
    · rw [hat]; exact hk
    · rw [hb]
      intro he
      injection he with he
      omega
  have step : ∀ {q : α} {c : List Value} {o : Nat → Prop}, d.M W base o q c → (∀ k, o k → ok k ∧ some k ≠ v.ownBlock) → d.M w1 base (fun k => ok k ∧ some k ≠ v1.ownBlock) q c := by
    intro q c o hq ho
    have h1 := d.M_move (w1 := w1) (fun k hk => hg.block k hk.2.2.1 (ho k hk.1).2) (d.M_bound hq)
    exact d.M_mono (fun k hk => ⟨(ho k hk.1).1, hne k (ho k hk.1).2 hk.2.2.1⟩) h1
  refine ⟨fun k hk => ?_, inner ++ cs, by rw [List.length_append, List.length_singleton]; exact hown, ?_⟩
  · rcases hat with hat | ⟨b, hb, hle⟩
    · exact h0 k (hat ▸ hk)
    · rw [hb] at hk
      injection hk with hk
      exact hfresh k (by omega)
  · exact (hr.imp_ (fun _ _ hq => step hq (fun _ hk => hk))).snoc (step hp hokp) (d.K_len (d.K_of_M hp))
section
variable {P : Program} {ops : Array Oper} {rest : List Oper} {o : Oper} {a : Act} {Q : Exit → Act → World → Prop} {α : Type}
theorem R_append (d : Kd α) {w0 W : World} (base : Nat) (hgd : o.guard = none) (s x : Operand) (t e : TypeId) (z : Value) (bytes : Nat)
    (ho : o.op = .call { callee := .builtin .append, args := #[s, x], argTypes := #[t, t] })
    (ht : P.underlying t = some (.slice e)) (hinfo : (P.info? e).map (fun i => (i.zero, i.size, i.bytes)) = some (some z, d.sz, bytes)) (hz : z.cells.size = d.sz) (hs0 : 0 < d.sz) (hb0 : 0 < bytes)
    (v : Value) (xs : List α) (p : α) (cs : List Value) (ok okp : Nat → Prop) (hs : a.eval s = v) (hx : a.eval x = .slice (some ⟨W.heap.size, 0, none⟩) 1 1) (hp : d.M W base okp p cs) (hokp : ∀ k, okp k → ok k ∧ some k ≠ v.ownBlock) (hfresh : ∀ k, W.heap.size ≤ k → ok k)
    (HO : d.R e W base ok v xs) (HB : Below base w0 W) (hbase : base ≤ W.heap.size) (hl : (xs.length + 1) * bytes ≤ 140737488355328)
    (h : ∀ v1 w1, d.R e w1 base ok v1 (xs ++ [p]) → Below base w0 w1 → W.grownBy w1 v.ownBlock → (v1.ownBlock = v.ownBlock ∨ ∃ b, v1.ownBlock = some b ∧ W.heap.size ≤ b) → wpList P ops Q rest (a.put o.dst v1) w1) :
    wpList P ops Q (o :: rest) a (W.alloc (.cells cs.toArray e)) := by
  obtain ⟨h0, inner, hown, hr⟩ := HO
  refine print_append_cells base hgd s x t e z d.sz bytes ho ht hinfo hz hs0 hb0 v xs.length inner cs hs hx (d.K_len (d.K_of_M hp)) (d.K_one (d.K_of_M hp)) hown HB hbase hl ?_
  intro v1 w1 hown1 hb1 hg1 hat1
  exact h v1 w1 (R_appended h0 hr hp hokp hfresh hown1 hg1 hat1) hb1 hg1 hat1
end
section
variable {P : Program} {ops : Array Oper} {o : Oper} {a : Act} {Q : Exit → Act → World → Prop} {Kc : Act → World → Prop} {α : Type}
end
theorem reps_scalar {α : Type} {enc : α → Value} (xs : List α) : Reps (fun (x : α) (cs : List Value) => cs = [enc x]) 1 xs (encs enc xs) := by
  refine ⟨by simp [encs], fun j p hj => ?_⟩
  obtain ⟨hl, hp⟩ := List.getElem?_eq_some_iff.1 hj
  have hl' : j < (encs enc xs).length := by rw [encs_length]; exact hl
  rw [Nat.mul_one, List.drop_eq_getElem_cons hl']
  simp [encs, hp]
theorem R_of_own {α : Type} {enc : α → Value} {h1 : ∀ x, (enc x).oneCell' = true} {e : Nat} {w : World} {base : Nat} {ok : Nat → Prop} {v : Value} {xs : List α} (ho : w.ownsRow base e 1 v xs.length (encs enc xs)) (hok : ∀ k, v.ownBlock = some k → ok k) : (scalar enc h1).R e w base ok v xs := ⟨hok, encs enc xs, ho, reps_scalar xs⟩
theorem own_of_R {α : Type} {enc : α → Value} {h1 : ∀ x, (enc x).oneCell' = true} {e : Nat} {w : World} {base : Nat} {ok : Nat → Prop} {v : Value} {xs : List α} (h : (scalar enc h1).R e w base ok v xs) : w.ownsRow base e 1 v xs.length (encs enc xs) := by
  obtain ⟨_, inner, ho, hr⟩ := h
  have : inner = encs enc xs := by
    apply List.ext_getElem?
    intro j
    rcases Nat.lt_or_ge j xs.length with hj | hj
    · have h2 := hr.2 j _ (List.getElem?_eq_getElem hj)
      have hl : j < inner.length := by have := hr.1; simp [scalar] at this; omega
      have h3 : (inner.drop (j * 1)).take 1 = [enc xs[j]] := h2
      rw [Nat.mul_one, List.drop_eq_getElem_cons hl] at h3
      have h4 : inner[j] = enc xs[j] := by
        have h5 := congrArg List.head? h3
        rw [List.take_succ_cons] at h5
        exact Option.some.inj h5
      rw [List.getElem?_eq_getElem hl, h4]
      simp [encs, List.getElem?_eq_getElem hj]
    · have h3 : inner.length = xs.length := by have := hr.1; simp [scalar] at this; omega
      rw [List.getElem?_eq_none (by omega), List.getElem?_eq_none (by rw [encs_length]; omega)]
  rw [← this]
  exact ho
theorem reads_of_C {α : Type} {enc : α → Value} {d : α} {h1 : ∀ x, (enc x).oneCell' = true} {w : World} {A : Option Addr} {n : Nat} {xs : List α} (h : (scalar enc h1).C w A n xs) : ReadsOf enc d w A n xs := by
  refine ⟨h.1, h.2.1, fun hn => ?_⟩
  obtain ⟨ad, e, hc⟩ := h.2.2 hn
  refine ⟨ad, e, fun j hj => ?_⟩
  have hl : j < xs.length := by have := h.1; omega
  obtain ⟨c, _, hK, hcell⟩ := hc j _ (List.getElem?_eq_getElem hl)
  have hK' : c = [enc xs[j]] := hK
  subst hK'
  have := hcell 0 _ rfl
  simpa [scalar, List.getD_eq_getElem?_getD, List.getElem?_eq_getElem hl] using this
end Kd
namespace Kd
def Sub {α β : Type} (F : Kd α → Kd β) (E : List Nat) : Prop := ∀ d : Kd α, (∀ q, q ∈ d.E → q ∈ E) → ∀ q, q ∈ (F d).E → q ∈ E
section
variable {α : Type} {F : Kd α → Kd α} {sz : Nat} {E : List Nat} {hs : ∀ n, (upto F sz E n).sz = sz} {hE : ∀ n q, q ∈ (upto F sz E n).E → q ∈ E}
end
end Kd
namespace Kd
theorem R_after {α : Type} {d : Kd α} {e base : Nat} {ok : Nat → Prop} {W w1 : World} {u v v1 : Value} {xs : List α} (h : d.R e W base (fun k => ok k ∧ some k ≠ v.ownBlock) u xs) (hg : W.grownBy w1 v.ownBlock) (hat : v1.ownBlock = v.ownBlock ∨ ∃ b, v1.ownBlock = some b ∧ W.heap.size ≤ b) : d.R e w1 base (fun k => ok k ∧ some k ≠ v1.ownBlock) u xs := by
  refine R_mono (R_move (R_bound h) (fun k hk => hg.block k hk.2.2.1 hk.1.2)) (fun k hk => ⟨hk.1.1, ?_⟩)
  rcases hat with hat | ⟨b, hb, hle⟩
  · rw [hat]; exact hk.1.2
  · rw [hb]
    intro he
    injection he with he
    have := hk.2.2.1
    omega
end Kd
namespace Kd
section
variable {α β : Type} {d : Kd α} {d' : Kd β} {e e' : Nat} {w w1 W : World} {base b b' : Nat} {ok ok' okv oku : Nat → Prop} {v u : Value} {xs : List α} {ys : List β}
theorem R_alloc (h : d.R e w base ok v xs) (o : Obj) : d.R e (w.alloc o) base ok v xs := R_below h (below_alloc (Below.refl _ _) o)
theorem R_drew (h : d.R e w base ok v xs) : d.R e w.drew base ok v xs := R_below h (below_drew (Below.refl _ _))
theorem R_drewN (h : d.R e w base ok v xs) (m : Nat) : d.R e (w.drewN m) base ok v xs := R_below h (pw_below_drewN (Below.refl _ _) m)
theorem C_alloc {A : Option Addr} {n : Nat} (h : d.C w A n xs) (o : Obj) : d.C (w.alloc o) A n xs := C_below h (below_alloc (Below.refl _ _) o)
theorem C_drew {A : Option Addr} {n : Nat} (h : d.C w A n xs) : d.C w.drew A n xs := C_below h (below_drew (Below.refl _ _))
theorem C_drewN {A : Option Addr} {n : Nat} (h : d.C w A n xs) (m : Nat) : d.C (w.drewN m) A n xs := C_below h (pw_below_drewN (Below.refl _ _) m)
theorem C_nil (d : Kd α) (w : World) : d.C w none ([] : List α).length [] := ⟨rfl, by simp, fun h => absurd h (Nat.lt_irrefl 0)⟩
theorem R_reads' {A : Option Addr} {n c : Nat} (h : d.R e w base ok (.slice A n c) xs) : n = xs.length ∧ n ≤ c ∧ d.C w A xs.length xs := by
  obtain ⟨A', c', he, hl, hr⟩ := R_reads h
  injection he with h1 h2 h3
  subst h1
  exact ⟨h2, by omega, hr⟩
theorem R_lt (h : d.R e w base ok v xs) : ∀ k, v.ownBlock = some k → k < w.heap.size := by
  obtain ⟨inner, ho⟩ := R_own h
  exact own_lt ho
theorem R_base (h : d.R e w base ok v xs) : ∀ k, v.ownBlock = some k → base ≤ k := by
  obtain ⟨inner, ho⟩ := R_own h
  exact own_base ho
theorem R_elder (hu : d'.R e' W b oku u ys) (h : d.R e w1 W.heap.size okv v xs) (hb : Below W.heap.size W w1) : d'.R e' w1 b (fun k => oku k ∧ some k ≠ v.ownBlock) u ys := by
  obtain ⟨inner, ho⟩ := R_own h
  exact R_mono (R_move (R_bound hu) (fun k hk => hb.block k hk.2.2.1)) (fun k hk => ⟨hk.1, fun he => by have := own_base ho k he.symm; have := hk.2.2.1; omega⟩)
end
section
variable {w W : World} {A : Option Addr} {n : Nat}
theorem at_int {k : IntKind} {xs : List Int} (h : (Kd.int k).C w A n xs) (i : Int) (h0 : 0 ≤ i) (h1 : i < n) : ∃ ad, A = some ad ∧ w.cell? (ad.add i.toNat) = some (.int k (rd xs i)) :=
  ReadsOf.at_ (reads_of_C (enc := Value.int k) (d := (0 : Int)) (h1 := fun _ => rfl) h) i h0 h1
variable {α : Type} {enc : α → Value} {h1 : ∀ x, (enc x).oneCell' = true} {e base g cap : Nat} {ok : Nat → Prop} {xs : List α}
end
section
variable {P : Program} {ops : Array Oper} {rest : List Oper} {o : Oper} {a : Act} {Q : Exit → Act → World → Prop}
theorem event_run {W w1 : World} {v : Value} (hgd : o.guard = none) (hrun : (execOp a.eval o).run P W = .ok (.value v) w1) (h : wpList P ops Q rest (a.put o.dst v) w1) : wpList P ops Q (o :: rest) a W := by
  refine wpList_plain hgd fun K hK => ?_
  unfold Oper.wp
  rw [hrun]
  exact hK _ _ h
variable {α : Type}
theorem R_lit (d : Kd α) {w0 W : World} (base e : Nat) (hgd : o.guard = none) {N : Tmp} (_hd : o.dst = some N) {xs : List α} {inner : List Value} {ok okp : Nat → Prop}
    (hrun : (execOp a.eval o).run P W = .ok (.value (.slice (some ⟨W.heap.size, 0, none⟩) xs.length xs.length)) (W.alloc (.cells inner.toArray e)))
    (hrep : Reps (d.M W base okp) d.sz xs inner) (hok : ∀ k, okp k → ok k) (hfresh : ok W.heap.size) (HB : Below base w0 W) (hbase : base ≤ W.heap.size) (hm : xs.length ≤ 9223372036854775807)
    (h : ∀ v1 w1, d.R e w1 base ok v1 xs → Below base w0 w1 → W.grownBy w1 none → (∃ b, v1.ownBlock = some b ∧ W.heap.size ≤ b) → wpList P ops Q rest (a.put o.dst v1) w1) : wpList P ops Q (o :: rest) a W := by
  refine event_run hgd hrun (h _ _ ⟨fun k hk => ?_, inner, ?_, ?_⟩ (HB.alloc hbase _) (World.grownBy_alloc W _ none) ⟨W.heap.size, by simp [Value.ownBlock], Nat.le_refl _⟩)
  · have : W.heap.size = k := by simpa [Value.ownBlock] using hk
    subst this
    exact hfresh
  · have h2 := World.ownsRow_lit (base := base) (e := e) (size := d.sz) W inner.toArray xs.length hbase (by simpa [maxLen] using hm) (by simpa using hrep.1)
    simpa using h2
  · refine hrep.imp_ (fun p c hp => d.M_mono (fun k hk => ⟨hok k hk.1, fun he => ?_⟩) (M_below (d.M_bound hp) (below_alloc (Below.refl _ _) _)))
    have h3 : k = W.heap.size := by simpa [Value.ownBlock] using he
    have := hk.2.2.1
    omega
end
end Kd
section
variable {P : Program}
end
def QRow (w : World) (base : Nat) (e : TypeId) (size : Nat) (v : Value) (n : Nat) (xs : List Value) : Prop :=
  xs.length = n * size ∧
  ((n = 0 ∧ ∃ A, v = .slice A 0 0 ∧ ∀ a, A = some a → base ≤ a.block ∧ ∃ cur, w.heap[a.block]? = some (.cells cur e (0, 0))) ∨
   ∃ g off cap cur, v = .slice (some ⟨g, off * size, none⟩) n cap ∧ base ≤ g ∧ w.heap[g]? = some (.cells cur e (0, 0)) ∧ n ≤ cap ∧ off + cap ≤ maxLen ∧ cur.size = (off + cap) * size ∧ (cur.toList.drop (off * size)).take (n * size) = xs)
section
variable {w w1 : World} {base n size : Nat} {e : TypeId} {v : Value} {xs : List Value}
theorem q_of_own (h : w.ownsRow base e size v n xs) : QRow w base e size v n xs := by
  obtain ⟨h1, h2⟩ := h
  refine ⟨h1, ?_⟩
  rcases h2 with ⟨rfl, h0⟩ | ⟨g, cap, cur, rfl, hb, hh, hnc, hcm, hcs, ht⟩
  · exact .inl ⟨h0, none, rfl, fun a ha => by cases ha⟩
  · exact .inr ⟨g, 0, cap, cur, by rw [Nat.zero_mul], hb, hh, hnc, by rw [Nat.zero_add]; exact hcm, by rw [Nat.zero_add]; exact hcs, by rw [Nat.zero_mul, List.drop_zero]; exact ht⟩
end
section
variable {P : Program}
end
namespace Kd
def Q {α : Type} (d : Kd α) (e : Nat) (w : World) (base : Nat) (ok : Nat → Prop) (v : Value) (xs : List α) : Prop :=
  (∀ k, v.ownBlock = some k → ok k) ∧ ∃ inner, QRow w base e d.sz v xs.length inner ∧ Reps (d.M w base (fun k => ok k ∧ some k ≠ v.ownBlock)) d.sz xs inner
section
variable {α : Type} {d : Kd α} {e : Nat} {w w1 W : World} {base : Nat} {ok ok' : Nat → Prop} {v : Value} {xs : List α}
theorem Q_of_R (h : d.R e w base ok v xs) : d.Q e w base ok v xs := by
  obtain ⟨h0, inner, ho, hr⟩ := h
  exact ⟨h0, inner, q_of_own ho, hr⟩
theorem Q_nil (d : Kd α) (e : Nat) (w : World) (base : Nat) (ok : Nat → Prop) : d.Q e w base ok (.slice none 0 0) [] := Q_of_R (R_nil d e w base ok)
end
section
variable {P : Program} {ops : Array Oper} {rest : List Oper} {o : Oper} {a : Act} {Q' : Exit → Act → World → Prop} {Kc : Act → World → Prop} {α : Type}
end
end Kd
namespace Kd
section
variable {α : Type} {d : Kd α} {e e' : Nat} {w w1 W : World} {base : Nat} {ok : Nat → Prop} {u v : Value} {xs : List α}
theorem R_typed (h : d.R e w base ok v xs) : ∀ k, v.ownBlock = some k → ∃ cells, w.heap[k]? = some (.cells cells e (0, 0)) := by
  obtain ⟨inner, ho⟩ := R_own h
  exact fun k hk => own_typed ho k hk
theorem R_elder' (hu : d.R e W base ok u xs) (hbase : ∀ k, v.ownBlock = some k → W.heap.size ≤ k) (hb : Below W.heap.size W w1) : d.R e w1 base (fun k => ok k ∧ some k ≠ v.ownBlock) u xs :=
  R_mono (R_move (R_bound hu) (fun k hk => hb.block k hk.2.2.1)) (fun k hk => ⟨hk.1, fun he => by have := hbase k he.symm; have := hk.2.2.1; omega⟩)
theorem R_new' (h : d.R e w1 W.heap.size ok v xs) (hlt : ∀ k, u.ownBlock = some k → k < W.heap.size) : d.R e w1 W.heap.size (fun k => ok k ∧ some k ≠ u.ownBlock) v xs :=
  R_mono (R_bound h) (fun k hk => ⟨hk.1, fun he => by have := hlt k he.symm; have := hk.2.1; omega⟩)
theorem fresh' (hlt : ∀ k, u.ownBlock = some k → k < W.heap.size) : ∀ k, W.heap.size ≤ k → some k ≠ u.ownBlock := fun k hk he => by have := hlt k he.symm; omega
end
end Kd
namespace Kd
section
variable {α : Type} {d : Kd α} {e base g n cap : Nat} {ok okp : Nat → Prop} {W : World} {xs : List α}
end
end Kd
namespace Kd
section
variable {α : Type} {F : Kd α → Kd α} {sz : Nat} {E : List Nat} {hs : ∀ n, (upto F sz E n).sz = sz} {hE : ∀ n q, q ∈ (upto F sz E n).E → q ∈ E}
end
end Kd
namespace Kd
theorem reps_append {α : Type} {R : α → List Value → Prop} {size : Nat} {ps qs : List α} {cs ds : List Value} (h : Reps R size ps cs) (h' : Reps R size qs ds) : Reps R size (ps ++ qs) (cs ++ ds) := by
  refine ⟨by rw [List.length_append, List.length_append, h.1, h'.1, Nat.add_mul], fun j p hj => ?_⟩
  rcases Nat.lt_or_ge j ps.length with hlt | hge
  · rw [List.getElem?_append_left hlt] at hj
    have hle : j * size + size ≤ cs.length := by rw [h.1, ← Nat.succ_mul]; exact Nat.mul_le_mul_right _ hlt
    rw [List.drop_append_of_le_length (by omega), List.take_append_of_le_length (by rw [List.length_drop]; omega)]
    exact h.2 j p hj
  · rw [List.getElem?_append_right hge] at hj
    have h2 := h'.2 (j - ps.length) p hj
    have hle : ps.length * size ≤ j * size := Nat.mul_le_mul_right _ hge
    rw [List.drop_append, List.drop_eq_nil_of_le (by rw [h.1]; exact hle), List.nil_append, h.1, ← Nat.sub_mul]
    exact h2
section
variable {P : Program} {ops : Array Oper} {rest : List Oper} {o : Oper} {a : Act} {Q : Exit → Act → World → Prop} {α : Type}
theorem R_append_rows (d : Kd α) {Rr : α → List Value → Prop} {w0 W : World} (base : Nat) (hgd : o.guard = none) (s x : Operand) (t e : TypeId) (z : Value) (bytes : Nat)
    (ho : o.op = .call { callee := .builtin .append, args := #[s, x], argTypes := #[t, t] })
    (ht : P.underlying t = some (.slice e)) (hinfo : (P.info? e).map (fun i => (i.zero, i.size, i.bytes)) = some (some z, d.sz, bytes)) (hz : z.cells.size = d.sz) (hs0 : 0 < d.sz) (hb0 : 0 < bytes)
    (v : Value) (xs ys : List α) (A : Option Addr) (m c : Nat) (ok okp : Nat → Prop) (hs : a.eval s = v) (hx : a.eval x = .slice A m c)
    (HO : d.R e W base ok v xs) (HR : ReadsRow Rr d.sz W A m ys) (hKM : ∀ x cs, Rr x cs → d.M W base okp x cs) (hokp : ∀ k, okp k → ok k ∧ some k ≠ v.ownBlock) (hfresh : ∀ k, W.heap.size ≤ k → ok k)
    (HB : Below base w0 W) (hbase : base ≤ W.heap.size) (hl : (xs.length + m) * bytes ≤ 140737488355328)
    (h : ∀ v1 w1, d.R e w1 base ok v1 (xs ++ ys) → Below base w0 w1 → W.grownBy w1 v.ownBlock → (v1.ownBlock = v.ownBlock ∨ ∃ b, v1.ownBlock = some b ∧ W.heap.size ≤ b) → wpList P ops Q rest (a.put o.dst v1) w1) :
    wpList P ops Q (o :: rest) a W := by
  obtain ⟨i0, hi, hzz⟩ := Option.map_eq_some_iff.1 hinfo
  simp only [Prod.mk.injEq] at hzz
  obtain ⟨hz0, hz1, hz2⟩ := hzz
  have hm : ys.length = m := HR.1
  have hlen : xs.length + m ≤ 140737488355328 := Nat.le_trans (Nat.le_mul_of_pos_right _ hb0) hl
  obtain ⟨hok, inner, hown, hr⟩ := HO
  have hrun : ∃ v1 w1, (Builtin.append_ #[t, t] o.type #[v, .slice A m c]).run P W = .ok v1 w1 ∧ d.R e w1 base ok v1 (xs ++ ys) ∧ W.grownBy w1 v.ownBlock ∧ (v1.ownBlock = v.ownBlock ∨ ∃ b, v1.ownBlock = some b ∧ W.heap.size ≤ b) := by
    rcases A with _ | ad
    · have h0 : m = 0 := by
        rcases Nat.eq_zero_or_pos m with h0 | h0
        · exact h0
        · obtain ⟨ad, h, _⟩ := HR.2.2 h0
          cases h
      subst h0
      obtain rfl : ys = [] := List.eq_nil_of_length_eq_zero hm
      refine ⟨v, W, ?_, by rw [List.append_nil]; exact ⟨hok, inner, hown, hr⟩, World.grownBy.refl W _, .inl rfl⟩
      rcases hown.2 with ⟨rfl, hn⟩ | ⟨g, cap, cur, rfl, _, _, hnc, _⟩
      · simp [Builtin.append_, run_underlying ht, sizeOf, typeInfo, hi, Builtin.lenOf, Builtin.firstCells]
      · simp [Builtin.append_, run_underlying ht, sizeOf, typeInfo, hi, Builtin.lenOf, Builtin.firstCells, hnc, storeCells]
    · obtain ⟨news, hnr, hnc⟩ := ReadsRow.inner_ HR
      have hnM : Reps (d.M W base okp) d.sz ys news := hnr.imp_ (fun p c hp => hKM p c hp)
      have hone : ∀ u ∈ news, u.oneCell' = true := by
        intro u hu
        obtain ⟨q, hq, rfl⟩ := List.mem_iff_getElem.1 hu
        have hql : q / d.sz < ys.length := by
          rw [Nat.div_lt_iff_lt_mul hs0]
          rw [← hnM.1]
          exact hq
        have hc := hnM.2 (q / d.sz) _ (List.getElem?_eq_getElem hql)
        refine d.K_one (d.K_of_M hc) _ ?_
        rw [List.mem_iff_getElem?]
        refine ⟨q % d.sz, ?_⟩
        rw [List.getElem?_take, if_pos (Nat.mod_lt _ hs0), List.getElem?_drop, Nat.mul_comm, Nat.div_add_mod, List.getElem?_eq_getElem hq]
      obtain ⟨v1, w1, hrun, h2, hg, _, hat⟩ := run_append_own_at (P := P) W base t o.type e i0 z d.sz bytes ht hi hz0 hz1 hz2 hz hs0 v xs.length inner hown ad m c news (by rw [hnM.1, hm]) hnc hone (by simp only [maxLen]; omega) hl hbase
      have hat' : v1.ownBlock = v.ownBlock ∨ ∃ b, v1.ownBlock = some b ∧ W.heap.size ≤ b := by
        rcases hat with hat | hat
        · exact .inl hat
        · exact .inr ⟨_, hat, Nat.le_refl _⟩
      have hne : ∀ k, some k ≠ v.ownBlock → k < W.heap.size → some k ≠ v1.ownBlock := by
        intro k hk hlt
        rcases hat' with hat | ⟨b, hb, hle⟩
        · rw [hat]; exact hk
        · rw [hb]
          intro he
          injection he with he
          omega
      have step : ∀ {q : α} {c : List Value} {o : Nat → Prop}, d.M W base o q c → (∀ k, o k → ok k ∧ some k ≠ v.ownBlock) → d.M w1 base (fun k => ok k ∧ some k ≠ v1.ownBlock) q c := by
        intro q c o hq ho
        have h1 := d.M_move (w1 := w1) (fun k hk => hg.block k hk.2.2.1 (ho k hk.1).2) (d.M_bound hq)
        exact d.M_mono (fun k hk => ⟨(ho k hk.1).1, hne k (ho k hk.1).2 hk.2.2.1⟩) h1
      refine ⟨v1, w1, hrun, ⟨fun k hk => ?_, inner ++ news, by rw [List.length_append, hm]; exact h2, reps_append (hr.imp_ (fun _ _ hq => step hq (fun _ hk => hk))) (hnM.imp_ (fun _ _ hq => step hq hokp))⟩, hg, hat'⟩
      rcases hat' with hat | ⟨b, hb, hle⟩
      · exact hok k (hat ▸ hk)
      · rw [hb] at hk
        injection hk with hk
        exact hfresh k (by omega)
  obtain ⟨v1, w1, hr1, h1, hg, hat⟩ := hrun
  refine wpList_plain hgd fun K hK => ?_
  unfold Oper.wp execOp
  simp only [ho, resolve, invoke, builtin, Sem.run_bind, Sem.run_pure, Result.andThen_ok, List.map_toArray, List.map_cons, List.map_nil, hs, hx, hr1]
  exact hK _ _ (h v1 w1 h1 (HB.grown hg hbase (own_base hown)) hg hat)
end
end Kd
namespace Kd
section
variable {P : Program} {ops : Array Oper} {rest : List Oper} {o : Oper} {a : Act} {Q : Exit → Act → World → Prop} {α : Type}
end
end Kd
theorem add_add (a : Addr) (i j : Nat) : (a.add i).add j = a.add (i + j) := by
  unfold Addr.add
  by_cases h1 : i = 0 <;> by_cases h2 : j = 0 <;> simp [h1, h2, Nat.add_assoc]
namespace Kd
section
variable {α : Type} {k : Kd α} {w : World} {A : Option Addr} {xs : List α} {m c : Nat}
theorem C_take (h : k.C w A xs.length xs) (hm : m ≤ xs.length) : k.C w A (xs.take m).length (xs.take m) := by
  have hl : (xs.take m).length = m := by rw [List.length_take]; omega
  refine ⟨rfl, by rw [hl]; have := h.2.1; omega, fun hp => ?_⟩
  obtain ⟨ad, e, hc⟩ := h.2.2 (by omega)
  refine ⟨ad, e, fun j p hj => hc j p ?_⟩
  rw [List.getElem?_take] at hj
  split at hj
  · exact hj
  · cases hj
theorem C_drop (h : k.C w A xs.length xs) (hm : m ≤ xs.length) (hc : xs.length ≤ c) : k.C w (if c = m then A else A.map (·.add (m * k.sz))) (xs.drop m).length (xs.drop m) := by
  have hl : (xs.drop m).length = xs.length - m := List.length_drop
  refine ⟨rfl, by rw [hl]; have := h.2.1; omega, fun hp => ?_⟩
  rw [hl] at hp
  obtain ⟨ad, rfl, hcell⟩ := h.2.2 (by omega)
  rw [if_neg (by omega)]
  refine ⟨ad.add (m * k.sz), rfl, fun j p hj => ?_⟩
  rw [List.getElem?_drop] at hj
  obtain ⟨cs, h1, h2, h3⟩ := hcell (m + j) p hj
  refine ⟨cs, h1, h2, fun i u hu => ?_⟩
  rw [add_add, show m * k.sz + (j * k.sz + i) = (m + j) * k.sz + i by rw [Nat.add_mul]; omega]
  exact h3 i u hu
theorem C_mid {lo hi : Nat} (h : k.C w A xs.length xs) (h1 : lo ≤ hi) (h2 : hi ≤ xs.length) (hc : xs.length ≤ c) : k.C w (if c = lo then A else A.map (·.add (lo * k.sz))) ((xs.take hi).drop lo).length ((xs.take hi).drop lo) := by
  have hl : (xs.take hi).length = hi := by rw [List.length_take]; omega
  exact C_drop (C_take h h2) (by omega) (by omega)
end
end Kd
section
variable {P : Program}
end
theorem string_of_reads {P : Program} {w : World} {src dst e : TypeId} {A : Option Addr} {n c : Nat} {xs : List Int} (hs : P.underlying src = some (.slice e)) (he : P.underlying e = some (.int .u8)) (hd : P.underlying dst = some .string)
    (h : ReadsInt w .u8 A n xs) : (convert src dst (.slice A n c)).run P w = .ok (.string (strOfNums xs)) w := by
  have hn : xs.length = n := h.1
  rcases A with _ | ad
  · have h0 : n = 0 := by
      rcases Nat.eq_zero_or_pos n with h0 | h0
      · exact h0
      · obtain ⟨ad, h', _⟩ := h.2.2 h0
        cases h'
    subst h0
    obtain rfl : xs = [] := List.eq_nil_of_length_eq_zero hn
    exact run_convert_bytes_nil w src e hs he 0 c dst hd
  · have hl : (loadCells ad n).run P w = .ok (xs.map (Value.int .u8)).toArray w := by
      have := run_loadCells_list (P := P) w ad (xs.map (Value.int .u8)) (fun j v hj => by
        have hjl : j < xs.length := by
          rcases Nat.lt_or_ge j xs.length with h' | h'
          · exact h'
          · rw [List.getElem?_eq_none (by rw [List.length_map]; exact h')] at hj
            cases hj
        obtain ⟨ad', he', hc⟩ := h.2.2 (by omega)
        injection he' with he'
        subst he'
        rw [hc j (by omega)]
        rw [List.getElem?_map, List.getElem?_eq_getElem hjl] at hj
        simp at hj
        subst hj
        simp [List.getD_eq_getElem?_getD, List.getElem?_eq_getElem hjl])
      simpa [hn] using this
    rw [run_convert_bytes_string w src dst e _ n c hs he hd, run_bytesToString w ad n c xs hl, foldl_push_bytes]
    simp [strOfNums, ByteArray.empty, ByteArray.emptyWithCapacity]
    rfl
theorem below_size {w W : World} (h : Below w.heap.size w W) : w.heap.size ≤ W.heap.size := h.size
theorem below_step {w W w2 : World} (h : Below w.heap.size w W) (k : Below W.heap.size W w2) : Below w.heap.size w w2 := below_then h h.size k
theorem own_blk {W : World} {base n c : Nat} {e : TypeId} {size g : Nat} {ad : Addr} {xs : List Value} (_ : W.ownsRow base e size (.slice (some ad) n c) n xs) (hne : some g ≠ (Value.slice (some ad) n c).ownBlock) : ad.block ≠ g := by
  rintro rfl
  exact hne (by simp [Value.ownBlock])
theorem below_drew1 {base : Nat} {w W : World} (h : Below base w W) : Below base w W.drew := h.drew
namespace Kd
section
variable {α β : Type} {d : Kd α} {d' : Kd β} {e e' base base' n : Nat} {ok ok' : Nat → Prop} {w W w1 W1 : World} {v u : Value} {xs : List α} {ys : List β} {A : Option Addr} {c : Nat}
theorem own_blk {ad : Addr} {g : Nat} (hne : some g ≠ (Value.slice (some ad) n c).ownBlock) : ad.block ≠ g := by
  rintro rfl
  exact hne (by simp [Value.ownBlock])
end
section
variable {α : Type} {enc : α → Value} {h1 : ∀ x, (enc x).oneCell' = true} {w W : World} {A : Option Addr} {n g : Nat} {xs : List α}
end
end Kd
namespace Kd
section
variable {α : Type} {d : Kd α} {e base g : Nat} {ok : Nat → Prop} {w w1 : World} {v : Value} {xs : List α} {o : Obj}
end
end Kd
section
variable {P : Program} {ops : Array Oper} {rest : List Oper} {o : Oper} {a : Act} {Q : Exit → Act → World → Prop}
theorem Kd.R_append_row {α : Type} (enc : α → Value) (d : α) {h1 : ∀ x : α, (enc x).oneCell' = true} {w0 W : World} (base : Nat) (hgd : o.guard = none) (s x : Operand) (t e : TypeId) (z : Value) (bytes : Nat)
    (ho : o.op = .call { callee := .builtin .append, args := #[s, x], argTypes := #[t, t] })
    (ht : P.underlying t = some (.slice e)) (hinfo : (P.info? e).map (fun i => (i.zero, i.size, i.bytes)) = some (some z, 1, bytes)) (hz : z.cells.size = 1) (hb0 : 0 < bytes)
    (v : Value) (xs ys : List α) (A : Option Addr) (m c : Nat) (ok : Nat → Prop) (hs : a.eval s = v) (hx : a.eval x = .slice A m c) (hfresh : ∀ k, W.heap.size ≤ k → ok k)
    (HO : (Kd.scalar enc h1).R e W base ok v xs) (HR : (Kd.scalar enc h1).C W A m ys) (HB : Below base w0 W) (hbase : base ≤ W.heap.size) (hl : (xs.length + m) * bytes ≤ 140737488355328)
    (h : ∀ v1 w1, (Kd.scalar enc h1).R e w1 base ok v1 (xs ++ ys) → Below base w0 w1 → W.grownBy w1 v.ownBlock → (v1.ownBlock = v.ownBlock ∨ ∃ b, v1.ownBlock = some b ∧ W.heap.size ≤ b) → wpList P ops Q rest (a.put o.dst v1) w1) :
    wpList P ops Q (o :: rest) a W := by
  refine print_append_row_of (w0 := w0) enc d base hgd s x t e z bytes ho ht hinfo hz hb0 h1 v xs ys A m c hs hx (Kd.own_of_R HO) (Kd.reads_of_C (d := d) HR) HB hbase hl ?_
  intro v1 w1 hown hb hg hat
  refine h v1 w1 (Kd.R_of_own hown (fun k hk => ?_)) hb hg hat
  rcases hat with e1 | ⟨b, e1, hbb⟩
  · exact HO.1 k (by rw [← e1]; exact hk)
  · rw [e1] at hk
    injection hk with hk
    subst hk
    exact hfresh _ hbb
end
namespace Kd
section
variable {α : Type} {enc : α → Value} {h1 : ∀ x, (enc x).oneCell' = true} {e base g n cap : Nat} {ok : Nat → Prop} {W : World} {xs : List α}
end
end Kd
section
variable {P : Program} {ops : Array Oper} {rest : List Oper} {o : Oper} {a : Act} {Q : Exit → Act → World → Prop}
end
namespace Kd
section
variable {α : Type} {enc : α → Value} {h1 : ∀ x, (enc x).oneCell' = true} {e base g n cap : Nat} {ok : Nat → Prop} {W : World} {xs : List α}
end
end Kd
section
variable {P : Program} {ops : Array Oper} {rest : List Oper} {o : Oper} {a : Act} {Q : Exit → Act → World → Prop} {W : World}
theorem gate_dst {N : Tmp} (_hN : o.dst = some N) (h : wpList P ops Q (o :: rest) a W) : wpList P ops Q (o :: rest) a W := h
end
section
variable {P : Program} {ops : Array Oper} {o : Oper} {a : Act} {Q : Exit → Act → World → Prop} {Kc : Act → World → Prop}
namespace Kd
variable {α : Type}
end Kd
end
section
variable {P : Program} {tmps : Array Value} {w : World}
end
namespace Kd
section
variable {P : Program} {α : Type}
end
section
variable {P : Program} {ops : Array Oper} {rest : List Oper} {o : Oper} {a : Act} {Q : Exit → Act → World → Prop} {Kc : Act → World → Prop} {α : Type}
end
end Kd
end Go.Proofs.YtiiljpaedelhlaaW.PrintWords
end
section
namespace Go.Proofs.YtiiljpaedelhlaaW.PrintLast
section
variable {P : Program} {ops : Array Oper} {Q : Exit → Act → World → Prop} {md : Region.Mode} {S : World → Prop} {ds : List Nat}
end
section
variable {P : Program} {ops : Array Oper} {Q : Exit → Act → World → Prop} {md : Region.Mode} {S : World → Prop} {ds : List Nat}
theorem enters_ {f : FuncId} {fn : Func} (hf : P.funcs[f]? = some fn) (hname : (fn.name == "runtime.NumGoroutine") = false) (hb : fn.body.isSome = true) (args : Array Value) (w : World) : (callFunc f args).run P w = .ok (.enter f args) w := by
  have h1 : fn.name ≠ "runtime.NumGoroutine" := by simpa using hname
  obtain ⟨c, hc⟩ := Option.isSome_iff_exists.1 hb
  simp [callFunc, hf, h1, hc]
theorem goesL_ {rest : List Oper} {oi : Oper} {a : Act} {w : World} (N : Option Tmp) (hd : oi.dst = N) (hg : oi.guard = none) {f : FuncId} {fn : Func} {as_ : Array Operand} {ts : Array TypeId} (hf : P.funcs[f]? = some fn) (hname : (fn.name == "runtime.NumGoroutine") = false) (hb : fn.body.isSome = true) (args : Array Value)
    (hop : oi.op = .call { callee := .value (.func f), args := as_, argTypes := ts }) (hargs : as_.map a.eval = args)
    (h : Calls P f args w fun e w' => ∃ v, e = .returned v ∧ wpList P ops Q rest (a.put N v) w') : wpList P ops Q (oi :: rest) a w := by
  refine wpList_plain hg fun K hK => ?_
  have he := enters_ hf hname hb args w
  have hrun : (execOp a.eval oi).run P w = .ok (.enter f args) w := by
    unfold execOp
    simp [hop, resolve, Deferred.ofValue, invoke, Act.eval, hargs, he]
  unfold Oper.wp
  rw [hrun, Oper.upon_enter]
  refine h.mono fun e w'' hh => ?_
  obtain ⟨v, rfl, hk⟩ := hh
  subst hd
  exact hK _ _ hk
theorem i64_w (n : Int) : IntKind.i64.wrap n = Go.RowKit.wrap64 n := by unfold Go.RowKit.wrap64; exact IntKind.wrap_i64 n
end
end Go.Proofs.YtiiljpaedelhlaaW.PrintLast
end
section
namespace Go.Proofs.YtiiljpaedelhlaaW.PrintWords
open Go.RowKit
namespace Kd
def tag {α : Type} (f : Nat → Nat) (d : Kd α) : Kd (α × Nat) where
  sz := d.sz
  E := d.E
  K := fun w x cs => d.K w x.1 cs
  M := fun w base ok x cs => d.M w base (fun k => ok k ∧ f k = x.2) x.1 cs
  K_len := fun h => d.K_len h
  K_one := fun h => d.K_one h
  K_below := fun hb h => d.K_below hb h
  K_of_M := fun h => d.K_of_M h
  M_mono := fun hok h => d.M_mono (fun k hk => ⟨hok k hk.1, hk.2⟩) h
  M_bound := fun h => d.M_mono (fun _ hk => ⟨⟨hk.1.1, hk.2⟩, hk.1.2⟩) (d.M_bound h)
  M_move := fun hm h => d.M_move (fun k hk => hm k hk.1) h
  M_lower := fun hb h => d.M_lower hb h
def raw (sz : Nat) : Kd (List Value) where
  sz := sz
  E := []
  K := fun _ x cs => cs = x ∧ cs.length = sz ∧ ∀ u ∈ cs, u.oneCell' = true
  M := fun _ _ _ x cs => cs = x ∧ cs.length = sz ∧ ∀ u ∈ cs, u.oneCell' = true
  K_len := fun h => h.2.1
  K_one := fun h => h.2.2
  K_below := fun _ h => h
  K_of_M := fun h => h
  M_mono := fun _ h => h
  M_bound := fun h => h
  M_move := fun _ h => h
  M_lower := fun _ h => h
def S {α : Type} (d : Kd α) (e : Nat) (w : World) (base : Nat) (ok : Nat → Prop) (v : Value) (xs : List α) : Prop := ∃ f, (tag f d).R e w base ok v xs.zipIdx
section
variable {α β : Type} {d : Kd α} {d' : Kd β} {e e' : Nat} {w w1 W : World} {base b : Nat} {ok ok' okv oku : Nat → Prop} {u v : Value} {xs : List α} {ys : List β}
theorem zip_at {xs : List α} {j : Nat} {p : α} (h : xs[j]? = some p) : xs.zipIdx[j]? = some (p, j) := by rw [List.getElem?_zipIdx, h, Nat.zero_add]; rfl
theorem S_R (h : S d e w base ok v xs) : d.R e w base ok v xs := by
  obtain ⟨f, h0, inner, ho, hr⟩ := h
  rw [List.length_zipIdx] at ho
  exact ⟨h0, inner, ho, by have := hr.1; rw [List.length_zipIdx] at this; exact this, fun j p hj => d.M_mono (fun _ hk => hk.1) (hr.2 j (p, j) (zip_at hj))⟩
theorem R_tight (hE : d.E = []) (h : d.R e w base ok v xs) : d.R e w base (fun k => some k = v.ownBlock) v xs := by
  obtain ⟨h0, inner, ho, hr⟩ := h
  refine ⟨fun k hk => hk.symm, inner, ho, hr.imp_ (fun p c hp => d.M_mono (fun k hk => ?_) (d.M_bound hp))⟩
  obtain ⟨_, _, _, q, hq, _⟩ := hk
  rw [hE] at hq
  cases hq
theorem S_nil (d : Kd α) (e : Nat) (w : World) (base : Nat) (ok : Nat → Prop) : S d e w base ok (.slice none 0 0) [] := ⟨fun _ => 0, R_nil _ _ _ _ _⟩
theorem S_mono (h : S d e w base ok v xs) (hok : ∀ k, ok k → ok' k) : S d e w base ok' v xs := by
  obtain ⟨f, h⟩ := h
  exact ⟨f, R_mono h hok⟩
theorem S_bound (h : S d e w base ok v xs) : S d e w base (fun k => ok k ∧ base ≤ k ∧ k < w.heap.size ∧ ∃ q, q ∈ e :: d.E ∧ ∃ cells, w.heap[k]? = some (.cells cells q (0, 0))) v xs := by
  obtain ⟨f, h⟩ := h
  exact ⟨f, R_bound h⟩
theorem S_move (h : S d e w base ok v xs) (hm : ∀ k, ok k → w1.heap[k]? = w.heap[k]?) : S d e w1 base ok v xs := by
  obtain ⟨f, h⟩ := h
  exact ⟨f, R_move h hm⟩
theorem S_lower {base' : Nat} (h : S d e w base ok v xs) (hb : base' ≤ base) : S d e w base' ok v xs := by
  obtain ⟨f, h⟩ := h
  exact ⟨f, R_lower h hb⟩
theorem S_step (h : S d e w base ok v xs) (hm : ∀ k, ok k → k < w.heap.size → w1.heap[k]? = w.heap[k]?) : S d e w1 base ok v xs :=
  S_mono (S_move (S_bound h) (fun k hk => hm k hk.1 hk.2.2.1)) (fun _ hk => hk.1)
theorem S_below (h : S d e w base ok v xs) (hb : Below w.heap.size w w1) : S d e w1 base ok v xs := S_step h (fun k _ hk => hb.block k hk)
theorem R_tag {f f' : Nat → Nat} {zs : List (α × Nat)} (h : (tag f d).R e w base ok v zs) (hf : ∀ k, ok k → k < w.heap.size → f' k = f k) : (tag f' d).R e w base ok v zs := by
  obtain ⟨h0, inner, ho, hr⟩ := R_bound h
  exact ⟨fun k hk => (h0 k hk).1, inner, ho, hr.1, fun j p hj => d.M_mono (fun k hk => ⟨⟨hk.1.1.1, hk.1.2⟩, (hf k hk.1.1.1 hk.1.1.2.2.1).trans hk.2⟩) (hr.2 j p hj)⟩
end
section
variable {α β : Type} {d : Kd α} {d' : Kd β} {e e' g : Nat} {w w1 W : World} {base b : Nat} {ok ok' okv oku : Nat → Prop} {u v : Value} {xs : List α} {ys : List β}
theorem zip_snoc (xs : List α) (p : α) : (xs ++ [p]).zipIdx = xs.zipIdx ++ [(p, xs.length)] := by rw [List.zipIdx_append]; simp
end
section
open Classical in
theorem S_tag {α : Type} {d : Kd α} {e base : Nat} {okv : Nat → Prop} {w : World} {v : Value} {xs : List α} (h : S d e w base okv v xs) (m : Nat) (okp : Nat → Prop) (hap : ∀ k, okp k → ¬ okv k) : ∃ f, (∀ k, okp k → f k = m) ∧ (tag f d).R e w base okv v xs.zipIdx := by
  obtain ⟨f, h⟩ := h
  exact ⟨fun k => if okp k then m else f k, fun k hk => if_pos hk, R_tag h (fun k hk _ => if_neg (fun h2 => hap k h2 hk))⟩
variable {P : Program} {ops : Array Oper} {rest : List Oper} {o : Oper} {a : Act} {Q : Exit → Act → World → Prop} {Kc : Act → World → Prop} {α : Type}
end
def gap {α : Type} (f : Nat → Nat) (d : Kd α) (i : Nat) (c : List Value) : Kd (α × Nat) where
  sz := d.sz
  E := d.E
  K := fun w x cs => (x.2 = i → cs = c ∧ cs.length = d.sz ∧ ∀ u ∈ cs, u.oneCell' = true) ∧ (x.2 ≠ i → d.K w x.1 cs)
  M := fun w base ok x cs => (x.2 = i → cs = c ∧ cs.length = d.sz ∧ ∀ u ∈ cs, u.oneCell' = true) ∧ (x.2 ≠ i → d.M w base (fun k => ok k ∧ f k = x.2) x.1 cs)
  K_len := fun {w x cs} h => by
    by_cases hx : x.2 = i
    · exact (h.1 hx).2.1
    · exact d.K_len (h.2 hx)
  K_one := fun {w x cs} h => by
    by_cases hx : x.2 = i
    · exact (h.1 hx).2.2
    · exact d.K_one (h.2 hx)
  K_below := fun hb h => ⟨h.1, fun hx => d.K_below hb (h.2 hx)⟩
  K_of_M := fun h => ⟨h.1, fun hx => d.K_of_M (h.2 hx)⟩
  M_mono := fun hok h => ⟨h.1, fun hx => d.M_mono (fun k hk => ⟨hok k hk.1, hk.2⟩) (h.2 hx)⟩
  M_bound := fun h => ⟨h.1, fun hx => d.M_mono (fun _ hk => ⟨⟨hk.1.1, hk.2⟩, hk.1.2⟩) (d.M_bound (h.2 hx))⟩
  M_move := fun hm h => ⟨h.1, fun hx => d.M_move (fun k hk => hm k hk.1) (h.2 hx)⟩
  M_lower := fun hb h => ⟨h.1, fun hx => d.M_lower hb (h.2 hx)⟩
def H {α : Type} (d : Kd α) (e : Nat) (w : World) (base : Nat) (ok : Nat → Prop) (v : Value) (xs : List α) (i : Int) (oki : Nat → Prop) (c : List Value) : Prop :=
  (∀ k, oki k → ok k) ∧ ∃ f, (gap f d i.toNat c).R e w base (fun k => ok k ∧ ¬ oki k) v xs.zipIdx
section
variable {α β : Type} {d : Kd α} {e e' g n cap : Nat} {w w1 W : World} {base : Nat} {ok ok' oki okp : Nat → Prop} {u v : Value} {xs : List α} {i : Int} {c : List Value}
end
section
variable {P : Program} {ops : Array Oper} {rest : List Oper} {o : Oper} {a : Act} {Q : Exit → Act → World → Prop} {α : Type}
end
end Kd
end Go.Proofs.YtiiljpaedelhlaaW.PrintWords
end
section
namespace Go.Proofs.YtiiljpaedelhlaaW.PrintWords
open Go.RowKit
def Kept (w W : World) (S : Nat → Prop) : Prop := w.heap.size ≤ W.heap.size ∧ ∀ i, i < w.heap.size → ¬ S i → W.heap[i]? = w.heap[i]?
section
variable {w W W2 : World} {S S2 S' : Nat → Prop}
theorem Kept.refl (w : World) (S : Nat → Prop) : Kept w w S := ⟨Nat.le_refl _, fun _ _ _ => rfl⟩
theorem Kept.of_below (h : Below w.heap.size w W) (S : Nat → Prop) : Kept w W S := ⟨h.size, fun i hi _ => h.block i hi⟩
theorem Kept.mono (h : Kept w W S) (hs : ∀ k, S k → S' k) : Kept w W S' := ⟨h.1, fun i hi hn => h.2 i hi (fun hk => hn (hs i hk))⟩
theorem Kept.then_ (h : Kept w W S) (k : Kept W W2 S2) (hs : ∀ k, S2 k → S k ∨ w.heap.size ≤ k) : Kept w W2 S :=
  ⟨Nat.le_trans h.1 k.1, fun i hi hn => (k.2 i (Nat.lt_of_lt_of_le hi h.1) (fun h2 => (hs i h2).elim hn (fun h3 => by omega))).trans (h.2 i hi hn)⟩
theorem Kept.of_grown {row : Option Nat} (hg : W.grownBy W2 row) (h : Kept w W S) (hr : ∀ k, row = some k → S k ∨ w.heap.size ≤ k) : Kept w W2 S :=
  h.then_ (S2 := fun k => row = some k) ⟨hg.size, fun i hi hn => hg.block i hi (fun he => hn he.symm)⟩ hr
theorem Kept.below (h : Kept w W S) (hb : Below W.heap.size W W2) : Kept w W2 S := h.then_ (Kept.of_below hb (fun _ => False)) (fun _ hk => hk.elim)
theorem Kept.alloc (h : Kept w W S) (o : Obj) : Kept w (W.alloc o) S := h.below (below_alloc (Below.refl _ _) o)
theorem Kept.drew (h : Kept w W S) : Kept w W.drew S := h
theorem Kept.drewN (h : Kept w W S) (m : Nat) : Kept w (W.drewN m) S := h
end
namespace Kd
section
variable {α : Type} {d : Kd α} {e base n c : Nat} {ok oki S S2 : Nat → Prop} {w w0 W W1 W2 : World} {v : Value} {A : Option Addr} {xs : List α} {i : Int} {cs : List Value}
end
end Kd
end Go.Proofs.YtiiljpaedelhlaaW.PrintWords
end
section
namespace Go.Proofs.YtiiljpaedelhlaaW.PrintWords
open Go.RowKit
def Foot (P : World → Prop) (W : World) (ok : Nat → Prop) : Prop := ∀ W' : World, (∀ k, ok k → k < W.heap.size → W'.heap[k]? = W.heap[k]?) → P W'
theorem heap_lt {W W1 : World} {k : Nat} (h : W1.heap[k]? = W.heap[k]?) (hlt : k < W.heap.size) : k < W1.heap.size := by
  rw [Array.getElem?_eq_getElem hlt] at h
  exact (Array.getElem?_eq_some_iff.1 h).1
namespace Foot
variable {P Q : World → Prop} {W W1 : World} {ok ok' : Nat → Prop}
theorem mono (h : Foot P W ok) (hok : ∀ k, ok k → ok' k) : Foot P W ok' := fun W' hW => h W' (fun k hk hlt => hW k (hok k hk) hlt)
theorem bound (h : Foot P W ok) : Foot P W (fun k => ok k ∧ k < W.heap.size) := fun W' hW => h W' (fun k hk hlt => hW k ⟨hk, hlt⟩ hlt)
theorem step (h : Foot P W ok) (hm : ∀ k, ok k → k < W.heap.size → W1.heap[k]? = W.heap[k]?) : Foot P W1 ok := fun W' hW => h W' (fun k hk hlt => (hW k hk (heap_lt (hm k hk hlt) hlt)).trans (hm k hk hlt))
theorem imp (h : Foot P W ok) (hi : ∀ W', P W' → Q W') : Foot Q W ok := fun W' hW => hi W' (h W' hW)
theorem old (h : Foot P W ok) (hb : Below W.heap.size W W1) : Foot P W1 (fun k => ok k ∧ k < W.heap.size) := (h.bound).step (fun k _ hlt => hb.block k hlt)
end Foot
namespace Kd
def F {α : Type} (d : Kd α) (W : World) (ok : Nat → Prop) (A : Option Addr) (n : Nat) (xs : List α) : Prop := Foot (fun W => d.C W A n xs) W ok
def FK {α : Type} (d : Kd α) (W : World) (ok : Nat → Prop) (x : α) (c : List Value) : Prop := Foot (fun W => d.K W x c) W ok
section
variable {α β : Type} {d : Kd α} {e base n n' cc g N : Nat} {ok ok' okp S : Nat → Prop} {w w0 w1 W W1 : World} {A A' : Option Addr} {u v v1 : Value} {xs : List α} {xs' : List β} {d' : Kd β} {x : α} {c : List Value}
theorem F_nil (d : Kd α) (W : World) (ok : Nat → Prop) : F d W ok none ([] : List α).length [] := fun W' _ => C_nil d W'
theorem FK_of_M (h : d.M W base ok x c) : FK d W ok x c := fun _ hW => d.K_of_M (M_step h hW)
end
end Kd
end Go.Proofs.YtiiljpaedelhlaaW.PrintWords
end
section
namespace Go.Proofs.YtiiljpaedelhlaaW.PrintWords
open Go.RowKit
namespace Kd
def chunks (sz : Nat) (n : Nat) (inner : List Value) : List (List Value) := (List.range n).map fun j => (inner.drop (j * sz)).take sz
theorem chunks_length (sz n : Nat) (inner : List Value) : (chunks sz n inner).length = n := by simp [chunks]
theorem chunks_at {sz n : Nat} {inner : List Value} {j : Nat} (hj : j < n) : (chunks sz n inner)[j]? = some ((inner.drop (j * sz)).take sz) := by simp [chunks, hj]
theorem chunks_get {sz n : Nat} {inner : List Value} {j : Nat} {c : List Value} (h : (chunks sz n inner)[j]? = some c) : c = (inner.drop (j * sz)).take sz := by
  have hj : j < n := by have := (List.getElem?_eq_some_iff.1 h).1; rwa [chunks_length] at this
  rw [chunks_at hj] at h
  injection h with h
  exact h.symm
theorem reps_raw {α : Type} {Rr : α → List Value → Prop} {sz : Nat} {xs : List α} {inner : List Value} (h : Reps Rr sz xs inner) (hR : ∀ x c, Rr x c → c.length = sz ∧ ∀ u ∈ c, u.oneCell' = true) : Reps (fun x cs => cs = x ∧ cs.length = sz ∧ ∀ u ∈ cs, u.oneCell' = true) sz (chunks sz xs.length inner) inner := by
  refine ⟨by rw [chunks_length]; exact h.1, fun j p hj => ?_⟩
  have hjl : j < xs.length := by have := (List.getElem?_eq_some_iff.1 hj).1; rwa [chunks_length] at this
  have hp := chunks_get hj
  exact ⟨hp.symm, hR _ _ (h.2 j _ (List.getElem?_eq_getElem hjl))⟩
section
variable {α : Type} {d : Kd α} {e base n cc g : Nat} {ok ok' okp S : Nat → Prop} {w w1 W W1 : World} {A : Option Addr} {u v v1 : Value} {xs : List α} {x : α} {c : List Value}
def N {α : Type} (d : Kd α) (e : Nat) (w : World) (base : Nat) (ok : Nat → Prop) (v : Value) (xs : List α) : Prop :=
  (∀ k, v.ownBlock = some k → ok k) ∧ ∃ rows : List (List Value), rows.length = xs.length ∧ (raw d.sz).R e w base (fun k => some k = v.ownBlock) v rows ∧ ∀ (j : Nat) (x : α) (c : List Value), xs[j]? = some x → rows[j]? = some c → FK d w (fun k => ok k ∧ some k ≠ v.ownBlock) x c
theorem R_N (h : d.R e w base ok v xs) : N d e w base ok v xs := by
  obtain ⟨h0, inner, ho, hr⟩ := h
  refine ⟨h0, chunks d.sz xs.length inner, chunks_length _ _ _, ⟨fun k hk => hk.symm, inner, by rw [chunks_length]; exact ho, reps_raw hr (fun x c hp => ⟨d.K_len (d.K_of_M hp), d.K_one (d.K_of_M hp)⟩)⟩, fun j x c hx hc => ?_⟩
  rw [chunks_get hc]
  exact FK_of_M (hr.2 j x hx)
theorem N_nil (d : Kd α) (e : Nat) (w : World) (base : Nat) (ok : Nat → Prop) : N d e w base ok (.slice none 0 0) [] := R_N (R_nil _ _ _ _ _)
end
end Kd
end Go.Proofs.YtiiljpaedelhlaaW.PrintWords
end
section
namespace Go.Proofs.YtiiljpaedelhlaaW.PrintMore
open Go.RowKit Go.Proofs.YtiiljpaedelhlaaW.PrintWords
namespace Kd
open Go.Proofs.YtiiljpaedelhlaaW.PrintWords.Kd
end Kd
namespace Kd
open Go.Proofs.YtiiljpaedelhlaaW.PrintWords.Kd
section
variable {α : Type} {d : Kd α} {e base g N : Nat} {ok : Nat → Prop} {W w1 : World} {u v : Value} {xs : List α}
end
end Kd
theorem max2_int (k k' : IntKind) (x y : Int) : Builtin.max2 (.int k x) (.int k' y) = pure (.int k (if x < y then y else x)) := by simp only [Builtin.max2, gt_iff_lt]
theorem min2_int (k k' : IntKind) (x y : Int) : Builtin.min2 (.int k x) (.int k' y) = pure (.int k (if y < x then y else x)) := by simp only [Builtin.min2]
theorem max_two (ats : Array TypeId) (ty : TypeId) (a b : Value) : Builtin.max_ ats ty #[a, b] = (Builtin.max2 a b >>= fun s => pure s) := by simp only [Builtin.max_, List.foldlM_cons, List.foldlM_nil]
theorem min_two (ats : Array TypeId) (ty : TypeId) (a b : Value) : Builtin.min_ ats ty #[a, b] = (Builtin.min2 a b >>= fun s => pure s) := by simp only [Builtin.min_, List.foldlM_cons, List.foldlM_nil]
end Go.Proofs.YtiiljpaedelhlaaW.PrintMore
namespace Go.Proofs.YtiiljpaedelhlaaW.PrintWords
open Go.RowKit
section
variable {P : Program} {ops : Array Oper} {rest : List Oper} {o : Oper} {a : Act} {Q : Exit → Act → World → Prop} {W : World}
theorem gate_callee {f : FuncId} {as_ : Array Operand} {ts : Array TypeId} (_ho : o.op = .call { callee := .value (.func f), args := as_, argTypes := ts }) (h : wpList P ops Q (o :: rest) a W) : wpList P ops Q (o :: rest) a W := h
theorem gate_builtin {b : Builtin} {xs : Array Operand} {ts : Array TypeId} (_ho : o.op = .call { callee := .builtin b, args := xs, argTypes := ts }) (h : wpList P ops Q (o :: rest) a W) : wpList P ops Q (o :: rest) a W := h
end
def shl (k : IntKind) (x y : Int) : Int := k.wrap (x * 2 ^ min y.toNat k.bits)
def shr (k : IntKind) (x y : Int) : Int := x / 2 ^ min y.toNat k.bits
theorem shl_small {k : IntKind} {x y j : Int} (h : shl k x y = j) (hy : y ≤ k.bits) : k.wrap (x * 2 ^ y.toNat) = j := by rw [← h]; unfold shl; rw [Nat.min_eq_left (by omega)]
theorem shr_small {k : IntKind} {x y j : Int} (h : shr k x y = j) (hy : y ≤ k.bits) : x / 2 ^ y.toNat = j := by rw [← h]; unfold shr; rw [Nat.min_eq_left (by omega)]
namespace Kd
section
variable {α : Type} {d : Kd α} {e base : Nat} {ok : Nat → Prop} {W w1 : World} {v : Value} {xs : List α}
theorem R_grown2 (h : d.R e W base ok v xs) (hE : d.E = []) {row : Option Nat} (hg : W.grownBy w1 row) (hne : ∀ k, row = some k → some k ≠ v.ownBlock) : d.R e w1 base ok v xs :=
  R_mono (R_grown (R_tight hE h) hg (fun k hk e_ => hne k e_.symm hk)) (fun k hk => h.1 k hk.symm)
end
section
variable {α : Type} {d : Kd α} {e base g n cap : Nat} {ok oki okp : Nat → Prop} {W : World} {xs : List α} {i : Int} {c : List Value}
end
section
variable {α : Type} {d : Kd α} {e base b b' g N : Nat} {ok ok1 : Nat → Prop} {W W2 w1 : World} {u v : Value} {xs ys : List α} {S : Nat → Prop}
end
end Kd
end Go.Proofs.YtiiljpaedelhlaaW.PrintWords
namespace Go.Proofs.YtiiljpaedelhlaaW.PrintWords
open Go.RowKit
namespace Kd
def V {α : Type} (d : Kd α) (_e : Nat) (W : World) (_base : Nat) (ok : Nat → Prop) (v : Value) (xs : List α) : Prop := ∃ A c, v = .slice A xs.length c ∧ xs.length ≤ c ∧ F d W ok A xs.length xs
section
variable {α β : Type} {d : Kd α} {e base base' n m c g N' lo hi : Nat} {ok ok' S : Nat → Prop} {w W w1 : World} {A : Option Addr} {ad : Addr} {u v v1 : Value} {xs : List α}
theorem V_nil (d : Kd α) (e : Nat) (W : World) (base : Nat) (ok : Nat → Prop) : V d e W base ok (.slice none 0 0) [] := ⟨none, 0, rfl, Nat.le_refl _, F_nil d W ok⟩
end
end Kd
end Go.Proofs.YtiiljpaedelhlaaW.PrintWords
end
section
namespace Go.Proofs.Ytiiljpaedelhlaa.Flow
open Go.RowKit Go.Proofs.YtiiljpaedelhlaaW.PrintWords Go.Proofs.YtiiljpaedelhlaaW.PrintLast Go.Proofs.YtiiljpaedelhlaaW.PrintMore
set_option linter.unusedVariables false
set_option linter.unusedSimpArgs false
set_option linter.unusedSectionVars false
theorem nbeq (a b : Nat) : Nat.beq a b = decide (a = b) := by
  by_cases h : a = b
  · subst h; simp
  · rw [decide_eq_false h]
    cases hb : Nat.beq a b
    · rfl
    · exact absurd (Nat.eq_of_beq_eq_true hb) h
theorem not_true {b : Bool} (h : (!b) = true) : b = false := by simpa using h
theorem not_false {b : Bool} (h : (!b) = false) : b = true := by simpa using h
theorem bcase (b : Bool) : b = false ∨ b = true := by cases b <;> simp
def Blk (w : World) (g : Nat) (t : TypeId) (cs : Array Value) : Prop := w.heap[g]? = some (.cells cs t (0, 0))
section
variable {w w' : World} {g : Nat} {t : TypeId} {cs : Array Value}
theorem Blk.lt (h : Blk w g t cs) : g < w.heap.size := by
  rcases Nat.lt_or_ge g w.heap.size with hlt | hge
  · exact hlt
  · unfold Blk at h; rw [Array.getElem?_eq_none hge] at h; cases h
theorem Blk.cell (h : Blk w g t cs) (i : Nat) : w.cell? ⟨g, i, none⟩ = cs[i]? := by
  unfold Blk at h
  simp [World.cell?, h]
theorem Blk.cellv (h : Blk w g t cs) {i : Nat} {v : Value} (hv : cs[i]? = some v) : w.cell? ⟨g, i, none⟩ = some v := (h.cell i).trans hv
theorem Blk.frozen (h : Blk w g t cs) (i : Nat) : w.frozen? ⟨g, i, none⟩ = false := by
  unfold Blk at h
  simp [World.frozen?, h]
theorem Blk.below {B : Nat} (h : Blk w g t cs) (hb : Below B w w') (hB : w.heap.size ≤ B) : Blk w' g t cs := (hb.block g (Nat.lt_of_lt_of_le h.lt hB)).trans h
theorem Blk.on (h : Blk w g t cs) (hb : Below w.heap.size w w') : Blk w' g t cs := h.below hb (Nat.le_refl _)
theorem Blk.alloc_new (w : World) (t : TypeId) (cs : Array Value) : Blk (w.alloc (.cells cs t)) w.heap.size t cs := by
  exact heap_alloc_new w _
theorem cellOn {v : Value} {a : Addr} (h : w.cell? a = some v) (hb : Below w.heap.size w w') : w'.cell? a = some v := pw_cell_below hb h
end
theorem below_of_drew {w w' : World} (h : Below w.drew.heap.size w.drew w') : Below w.heap.size w w' := ⟨h.os, h.tape, h.output, h.size, h.block⟩
theorem chain {w w1 w2 : World} (h : Below w.heap.size w w1) (k : Below w1.heap.size w1 w2) : Below w.heap.size w w2 := h.trans (k.mono h.size)
section
variable {P : Program} {cx : Cx} {n : Nat} {Q : Exit → Act → World → Prop} {st : List Itm} {G : Env} {w : World} {ops : Array Oper} {o : Oper} {rest : List Oper}
theorem rw_new {d : Nat} {cs : Array Value} {t : TypeId} (v : Nat → Value) (hg : o.guard = none) (hd : o.dst = some d) (hdn : Nat.blt d n = true) (hk : known G o = true)
    (hrun : (execOp (sEv G) o).run P w = .ok (.value (v w.heap.size)) (w.alloc (.cells cs t)))
    (k : ∀ (g : Nat) (w' : World), g = w.heap.size → w'.heap.size = g + 1 → Below w.heap.size w w' → Blk w' g t cs → RW P ops cx n Q rest ((d, v g) :: G) w') : RW P ops cx n Q (o :: rest) G w :=
  rw_val hg hd hdn hk hrun (k _ _ rfl (by simp) (below_alloc (Below.refl _ _) _) (Blk.alloc_new _ _ _))
end
structure Keep (g : Nat) (w w' : World) : Prop where
  os : w'.os = w.os
  tape : w'.tape = w.tape
  output : w'.output = w.output
  size : w'.heap.size = w.heap.size
  block : ∀ k, k ≠ g → w'.heap[k]? = w.heap[k]?
section
variable {w w' w0 : World} {g : Nat}
theorem Keep.refl (g : Nat) (w : World) : Keep g w w := ⟨rfl, rfl, rfl, rfl, fun _ _ => rfl⟩
theorem Keep.trans {w'' : World} (h : Keep g w w') (k : Keep g w' w'') : Keep g w w'' := ⟨k.os.trans h.os, k.tape.trans h.tape, k.output.trans h.output, k.size.trans h.size, fun i hi => (k.block i hi).trans (h.block i hi)⟩
theorem Keep.below (h : Keep g w w') (hg : w0.heap.size ≤ g) (hb : Below w0.heap.size w0 w) : Below w0.heap.size w0 w' :=
  ⟨h.os.trans hb.os, h.tape.trans hb.tape, h.output.trans hb.output, by rw [h.size]; exact hb.size, fun k hk => (h.block k (by omega)).trans (hb.block k hk)⟩
theorem Keep.set (w : World) (g i : Nat) (v : Value) : Keep g w (w.setCell ⟨g, i, none⟩ v) :=
  ⟨rfl, rfl, rfl, by simp [World.setCell], fun k hk => by simp [World.setCell, Array.getElem?_modify, Ne.symm hk]⟩
theorem Blk.keep {g2 : Nat} {t : TypeId} {cs : Array Value} (h : Blk w g2 t cs) (k : Keep g w w') (hne : g2 ≠ g) : Blk w' g2 t cs := (k.block g2 hne).trans h
theorem Blk.set {t : TypeId} {cs : Array Value} (h : Blk w g t cs) (i : Nat) (v : Value) : Blk (w.setCell ⟨g, i, none⟩ v) g t (cs.setIfInBounds i v) := by
  unfold Blk at h ⊢
  simp [World.setCell, Array.getElem?_modify, h]
theorem Keep.grown (k : Keep g w w') : w.grownBy w' (some g) := ⟨k.os, k.tape, k.output, by rw [k.size]; exact Nat.le_refl _, fun i hi hne => k.block i (fun e => hne (by rw [e]))⟩
def putCells (w : World) (g : Nat) : Nat → List Value → World
  | _, [] => w
  | i, v :: r => putCells (w.setCell ⟨g, i, none⟩ v) g (i + 1) r
def putArr (cs : Array Value) : Nat → List Value → Array Value
  | _, [] => cs
  | i, v :: r => putArr (cs.setIfInBounds i v) (i + 1) r
theorem putCells_keep : ∀ (l : List Value) (w : World) (i : Nat), Keep g w (putCells w g i l)
  | [], w, i => Keep.refl g w
  | v :: r, w, i => (Keep.set w g i v).trans (putCells_keep r _ _)
theorem putCells_blk {t : TypeId} : ∀ (l : List Value) {w : World} {cs : Array Value} (i : Nat), Blk w g t cs → Blk (putCells w g i l) g t (putArr cs i l)
  | [], _, _, _, h => h
  | v :: r, _, _, i, h => putCells_blk r (i + 1) (h.set i v)
end
section
variable {P : Program} {cx : Cx} {n : Nat} {Q : Exit → Act → World → Prop} {st : List Itm} {G : Env} {w : World} {ops : Array Oper} {o : Oper} {rest : List Oper}
theorem rw_store {g i : Nat} {t : TypeId} {cs cs' : Array Value} {l : List Value} (hg : o.guard = none) (hd : o.dst = none) (hk : known G o = true) (hb : Blk w g t cs) (hcs : putArr cs i l = cs')
    (hrun : (execOp (sEv G) o).run P w = .ok .skip (putCells w g i l))
    (k : ∀ w', Keep g w w' → Blk w' g t cs' → RW P ops cx n Q rest G w') : RW P ops cx n Q (o :: rest) G w :=
  rw_skip hg hd hk hrun (k _ (putCells_keep l w i) (hcs ▸ putCells_blk l i hb))
end
theorem add_zero (ad : Addr) : ad.add 0 = ad := by simp [Addr.add]
theorem add_pos (ad : Addr) (j : Nat) : ad.add (j + 1) = ⟨ad.block, ad.off + (j + 1), none⟩ := by simp [Addr.add]
end Go.Proofs.Ytiiljpaedelhlaa.Flow
end
section
namespace Go.Proofs.Ytiiljpaedelhlaa.Flow
open Go.RowKit Go.Proofs.YtiiljpaedelhlaaW.PrintWords Go.Proofs.YtiiljpaedelhlaaW.PrintLast Go.Proofs.YtiiljpaedelhlaaW.PrintMore
set_option linter.unusedVariables false
set_option linter.unusedSimpArgs false
def Nums (k : IntKind) (cur : Array Value) (xs : List Int) : Prop := ∀ j, j < xs.length → cur[j]? = some (.int k (xs.getD j 0))
theorem row_block {k : IntKind} {e : TypeId} {w : World} {base : Nat} {ok : Nat → Prop} {v : Value} {xs : List Int} (h : (Kd.int k).R e w base ok v xs) (hne : xs ≠ []) :
    ∃ g cap cur, v = .slice (some ⟨g, 0, none⟩) xs.length cap ∧ base ≤ g ∧ Blk w g e cur ∧ xs.length ≤ cap ∧ cur.size = cap ∧ Nums k cur xs := by
  have ho := Kd.own_of_R h
  rcases ho.2 with ⟨_, hn⟩ | ⟨g, cap, cur, hv, hb, hg, hn, hc, hsz, ht⟩
  · exact absurd (List.eq_nil_of_length_eq_zero hn) hne
  · refine ⟨g, cap, cur, hv, hb, hg, hn, by omega, fun j hj => ?_⟩
    have h1 : (cur.toList.take (xs.length * 1))[j]? = some (.int k (xs.getD j 0)) := by
      rw [ht]
      simp [encs, List.getElem?_eq_getElem hj]
    rw [List.getElem?_take_of_lt (by omega)] at h1
    simpa using h1
theorem Nums.set {k : IntKind} {cur : Array Value} {xs : List Int} (h : Nums k cur xs) (hl : xs.length ≤ cur.size) (i : Nat) (x : Int) : Nums k (cur.setIfInBounds i (.int k x)) (xs.set i x) := fun j hj => by
  have hj' : j < xs.length := by simpa using hj
  by_cases hij : i = j
  · subst hij
    simp [Array.getElem?_setIfInBounds, hj', show i < cur.size by omega]
  · have := h j hj'
    simpa [Array.getElem?_setIfInBounds, hij, List.getElem?_set] using this
theorem Nums.C {k : IntKind} {w : World} {g e : Nat} {cur : Array Value} {xs : List Int} (h : Nums k cur xs) (hb : Blk w g e cur) (hm : xs.length ≤ 9223372036854775807) : Kd.C (Kd.int k) w (some ⟨g, 0, none⟩) xs.length xs := by
  refine ⟨rfl, hm, fun hn => ⟨_, rfl, fun j p hj => ⟨[.int k p], rfl, rfl, fun i u hu => ?_⟩⟩⟩
  obtain ⟨hl, hp⟩ := List.getElem?_eq_some_iff.1 hj
  have h2 := h j hl
  have hi : i = 0 := by
    rcases i with _ | i
    · rfl
    · simp at hu
  subst hi
  have hu' : u = .int k p := by simpa using hu.symm
  subst hu'
  have e : (⟨g, 0, none⟩ : Addr).add (j * 1 + 0) = ⟨g, j, none⟩ := by rw [add_plain]; simp
  show w.cell? ((⟨g, 0, none⟩ : Addr).add (j * 1 + 0)) = _
  rw [e, hb.cell, h2]
  simp [List.getD_eq_getElem?_getD, hj]
end Go.Proofs.Ytiiljpaedelhlaa.Flow
end
section
namespace Go.Proofs.Ytiiljpaedelhlaa.Flow
open Go.RowKit Go.Proofs.YtiiljpaedelhlaaW.PrintWords Go.Proofs.YtiiljpaedelhlaaW.PrintLast Go.Proofs.YtiiljpaedelhlaaW.PrintMore
set_option linter.unusedVariables false
set_option linter.unusedSimpArgs false
theorem run_as {P : Program} {s : Sem Value} {v : Value} {w w' : World} (h : s.run P w = .ok v w') : (do pure (Next.value (← s)) : Sem Next).run P w = .ok (.value v) w' := by simp [h]
theorem toList_inj {s t : ByteArray} (h : s.toList = t.toList) : s = t := by
  apply ByteArray.ext
  rw [ByteArray.toList_eq, ByteArray.toList_eq] at h
  exact Array.toList_inj.1 h
theorem beq_toList (s t : ByteArray) : (s.toList == t.toList) = decide (s = t) := by
  by_cases h : s = t
  · subst h
    simp
  · rw [decide_eq_false h]
    exact beq_eq_false_iff_ne.2 (fun h2 => h (toList_inj h2))
theorem run_str_eql {P : Program} (t : TypeId) (a b : ByteArray) (w : World) : (binOp .eql t (.string a) (.string b)).run P w = .ok (.bool (decide (a = b))) w := by
  rw [binOp_string_eql, beq_toList]
  rfl
theorem run_str_neq {P : Program} (t : TypeId) (a b : ByteArray) (w : World) : (binOp .neq t (.string a) (.string b)).run P w = .ok (.bool (!decide (a = b))) w := by
  rw [binOp_string_neq, beq_toList]
  rfl
theorem bt_tail (s : ByteArray) (i : Nat) (h : i + 1 < s.size) : bt (s.extract 1 s.size) (i : Int) = bt s ((1 + i : Nat) : Int) := by
  unfold bt
  rw [dif_pos (by rw [ByteArray.size_extract]; omega), dif_pos (by omega)]
  congr 2
  have e1 : ((i : Int)).toNat = i := by omega
  have e2 : (((1 + i : Nat) : Int)).toNat = 1 + i := by omega
  simp only [e1, e2]
  show (s.extract 1 s.size).data[i]'_ = s.data[1 + i]'_
  simp
theorem conv_bytes {P : Program} (src dst e : TypeId) (hs : P.underlying src = some .string) (hd : P.underlying dst = some (.slice e)) (he : P.underlying e = some (.int .u8)) (w : World) (s : ByteArray) :
    ∃ (g cap : Nat) (w' : World), (convert src dst (.string s)).run P w = .ok (.slice (some ⟨g, 0, none⟩) s.size cap) w' ∧ Below w.heap.size w w' ∧ w.heap.size = g ∧ w'.heap.size = g + 1 ∧ ∀ i, i < s.size → w'.cell? ⟨g, i, none⟩ = some (.int .u8 (bt s (i : Int))) := by
  refine ⟨w.heap.size, Go.grownCap w s.size 0 e, Go.Lib.bytesWorld w e s, Go.Lib.run_convert_string_bytes w src dst e s hs hd he, ⟨rfl, rfl, rfl, ?_, fun k hk => Go.Lib.bytesWorld_at_old w e s k hk⟩, rfl, Go.Lib.bytesWorld_size w e s, fun i hi => ?_⟩
  · rw [Go.Lib.bytesWorld_size]
    omega
  · rw [Go.Lib.bytesWorld_cell w e s i hi]
    unfold bt
    rw [dif_pos (by omega)]
    congr 2
    rw [List.getD_eq_getElem?_getD, List.getElem?_eq_getElem (by simpa using hi)]
    have e1 : ((i : Int)).toNat = i := by omega
    simp only [e1]
    rfl
theorem run_bool {P : Program} {s : Sem Next} {w : World} {a b : Bool} (h : s.run P w = .ok (.value (.bool a)) w) (e : a = b) : s.run P w = .ok (.value (.bool b)) w := by rw [h, e]
end Go.Proofs.Ytiiljpaedelhlaa.Flow
end
section
namespace Go.Proofs.Ytiiljpaedelhlaa.Flow
open Go.RowKit Go.Proofs.YtiiljpaedelhlaaW.PrintWords Go.Proofs.YtiiljpaedelhlaaW.PrintLast Go.Proofs.YtiiljpaedelhlaaW.PrintMore
set_option linter.unusedVariables false
set_option linter.unusedSimpArgs false
set_option linter.unusedSectionVars false
def Own (k : IntKind) (e : TypeId) (w : World) (base b : Nat) (A : Option Addr) (n c : Nat) (xs : List Int) : Prop := (Kd.int k).R e w base (fun q => b ≤ q) (.slice A n c) xs
section
variable {k : IntKind} {e : TypeId} {w w' : World} {base b : Nat} {A : Option Addr} {n c : Nat} {xs : List Int}
theorem Own.len (h : Own k e w base b A n c xs) : n = xs.length := (Kd.R_reads' h).1
theorem Own.cap (h : Own k e w base b A n c xs) : n ≤ c := (Kd.R_reads' h).2.1
theorem Own.C (h : Own k e w base b A n c xs) : (Kd.int k).C w A xs.length xs := (Kd.R_reads' h).2.2
theorem Own.on (h : Own k e w base b A n c xs) (hb : Below w.heap.size w w') : Own k e w' base b A n c xs := Kd.R_below h hb
theorem Own.mono {b' : Nat} (h : Own k e w base b A n c xs) (hb : b' ≤ b) : Own k e w base b' A n c xs := Kd.R_mono h (fun q hq => Nat.le_trans hb hq)
theorem Own.lower {base' : Nat} (h : Own k e w base b A n c xs) (hb : base' ≤ base) : Own k e w base' b A n c xs := Kd.R_lower h hb
theorem Own.born {ok : Nat → Prop} {base' : Nat} (h : (Kd.int k).R e w base ok (.slice A n c) xs) (hb : base' ≤ base) : Own k e w base' base A n c xs :=
  Kd.R_lower (Kd.R_mono (Kd.R_bound h) (fun q hq => hq.2.1)) hb
theorem Own.nil (k : IntKind) (e : TypeId) (w : World) (base b : Nat) : Own k e w base b none 0 0 [] := Kd.R_nil _ _ _ _ _
theorem R_shape {ok : Nat → Prop} {v : Value} (h : (Kd.int k).R e w base ok v xs) : ∃ A c, v = .slice A xs.length c ∧ xs.length ≤ c ∧ (Kd.int k).R e w base ok (.slice A xs.length c) xs := by
  obtain ⟨A, c, rfl, h1, h2⟩ := Kd.R_reads h
  exact ⟨A, c, rfl, h1, h⟩
end
theorem own_blk {k : IntKind} {e : TypeId} {w : World} {g cap : Nat} {cur : Array Value} {xs : List Int} (base : Nat) (hb : Blk w g e cur) (hbase : base ≤ g) (hcap : cur.size = cap) (hn : xs.length ≤ cap) (hm : cap ≤ 9223372036854775807) (h : Nums k cur xs) : Own k e w base g (some ⟨g, 0, none⟩) xs.length cap xs := by
  refine Kd.R_of_own ⟨by simp [encs], Or.inr ⟨g, cap, cur, rfl, hbase, hb, hn, hm, by omega, ?_⟩⟩ (fun q hq => ?_)
  · apply List.ext_getElem?
    intro j
    by_cases hj : j < xs.length
    · rw [List.getElem?_take_of_lt (by omega)]
      have := h j hj
      simp only [Array.getElem?_toList, this, encs, List.getElem?_map, List.getD_eq_getElem?_getD, List.getElem?_eq_getElem hj, Option.map_some, Option.getD_some]
    · rw [List.getElem?_eq_none (by simp; omega), List.getElem?_eq_none (by simp [encs]; omega)]
  · simp only [Value.ownBlock, Option.some.injEq] at hq
    omega
theorem Nums.nil (k : IntKind) (cur : Array Value) : Nums k cur [] := fun j h => by simp at h
section
variable {P : Program} {cx : Cx} {n : Nat} {Q : Exit → Act → World → Prop} {st : List Itm} {G : Env} {w : World} {ops : Array Oper} {o : Oper} {rest : List Oper}
theorem rw_append_row {dst : Nat} (k : IntKind) {w0 : World} (base : Nat) (hg : o.guard = none) (hd : o.dst = some dst) (hdn : Nat.blt dst n = true) (s x : Operand) (hks : knownO G s = true) (hkx : knownO G x = true) (t e : TypeId) (bytes : Nat)
    (ho : o.op = .call { callee := .builtin .append, args := #[s, x], argTypes := #[t, t] }) (ht : P.underlying t = some (.slice e)) (hinfo : (P.info? e).map (fun i => (i.zero, i.size, i.bytes)) = some (some (.int k 0), 1, bytes)) (hb0 : 0 < bytes)
    {xs ys : List Int} {A A2 : Option Addr} {m c m2 c2 b : Nat} (hs : sEv G s = .slice A m c) (hx : sEv G x = .slice A2 m2 c2) (hb : b ≤ w.heap.size)
    (HO : Own k e w base b A m c xs) (HR : (Kd.int k).C w A2 m2 ys) (HB : Below base w0 w) (hbase : base ≤ w.heap.size) (hl : (xs.length + m2) * bytes ≤ 140737488355328)
    (kk : ∀ A' n' c' w', n' = (xs ++ ys).length → Own k e w' base b A' n' c' (xs ++ ys) → Below base w0 w' → w.grownBy w' (Value.slice A m c).ownBlock → RW P ops cx n Q rest ((dst, .slice A' n' c') :: G) w') : RW P ops cx n Q (o :: rest) G w := fun a ha =>
  Kd.R_append_row (enc := Value.int k) 0 base hg s x t e (.int k 0) bytes ho ht hinfo rfl hb0 _ xs ys A2 m2 c2 (fun q => b ≤ q) ((eval_known ha hks).trans hs) ((eval_known ha hkx).trans hx) (fun q hq => Nat.le_trans hb hq) HO HR HB hbase hl
    (fun v1 w1 h1 h2 h3 _ => by
      obtain ⟨A', c', rfl, _, h4⟩ := R_shape h1
      rw [hd]
      exact kk A' _ c' w1 rfl h4 h2 h3 _ (ha.put hdn _))
end
theorem nil_step {P : Program} {t e : TypeId} (ht : P.underlying t = some (.slice e)) (d : Nat) (A : Option Addr) (m c : Nat) (w : World) : (Op.equalIn (d + 1) t (.slice A m c) (.slice none 0 0)).run P w = .ok A.isNone w := by
  cases A with
  | none => simp [Op.equalIn, run_underlying ht]
  | some a => simp [Op.equalIn, run_underlying ht]
theorem run_nil_eql {P : Program} {t e : TypeId} (ht : P.underlying t = some (.slice e)) (A : Option Addr) (m c : Nat) (w : World) : (binOp .eql t (.slice A m c) (.slice none 0 0)).run P w = .ok (.bool A.isNone) w := by
  have h2 : (Op.equalIn Op.maxDepth t (.slice A m c) (.slice none 0 0)).run P w = .ok A.isNone w := nil_step ht 9999 A m c w
  simp [binOp, Op.equal, h2]
theorem run_str_of {P : Program} {src dst e : TypeId} (hs : P.underlying src = some (.slice e)) (he : P.underlying e = some (.int .u8)) (hd : P.underlying dst = some .string) {w : World} {A : Option Addr} {m c : Nat} {xs : List Int} (h : (Kd.int .u8).C w A m xs) :
    (convert src dst (.slice A m c)).run P w = .ok (.string (strOfNums xs)) w := string_of_reads hs he hd (Kd.reads_of_C (d := (0 : Int)) h)
theorem rows_C {k : IntKind} {e t : TypeId} {w : World} {g : Nat} {cs : Array Value} {xss : List (List Int)} (hb : Blk w g t cs) (hl : xss.length ≤ 9223372036854775807) (h : ∀ (j : Nat) (xs : List Int), xss[j]? = some xs → ∃ A c, cs[j]? = some (Value.slice A xs.length c) ∧ xs.length ≤ c ∧ (Kd.int k).C w A xs.length xs) : (Kd.slice e (Kd.int k)).C w (some ⟨g, 0, none⟩) xss.length xss := by
  refine ⟨rfl, hl, fun hn => ⟨_, rfl, fun j p hj => ?_⟩⟩
  obtain ⟨A, c, h1, h2, h3⟩ := h j p hj
  refine ⟨[Value.slice A p.length c], rfl, ⟨A, c, rfl, h2, h3⟩, fun i u hu => ?_⟩
  rcases i with _ | i
  · have hu' : u = Value.slice A p.length c := by simpa using hu.symm
    subst hu'
    have e1 : (⟨g, 0, none⟩ : Addr).add (j * 1 + 0) = ⟨g, j, none⟩ := by rw [add_plain]; simp
    show w.cell? ((⟨g, 0, none⟩ : Addr).add (j * 1 + 0)) = _
    rw [e1, hb.cell, h1]
  · simp at hu
end Go.Proofs.Ytiiljpaedelhlaa.Flow
end
section
namespace Go.Proofs.Ytiiljpaedelhlaa.Flow
open Go.RowKit Go.Proofs.YtiiljpaedelhlaaW.PrintWords Go.Proofs.YtiiljpaedelhlaaW.PrintLast Go.Proofs.YtiiljpaedelhlaaW.PrintMore
open Go.ChangeShapes Go.WideShapes Go.ChangeAt
set_option linter.unusedVariables false
set_option linter.unusedSimpArgs false
section
variable {k : IntKind} {e t : TypeId} {w : World} {g : Nat} {A1 A2 A3 : Option Addr} {c1 c2 c3 : Nat} {x1 x2 x3 : List Int}
theorem rows1 (hb : Blk w g t #[.slice A1 x1.length c1]) (h1 : x1.length ≤ c1) (f1 : (Kd.int k).C w A1 x1.length x1) : (Kd.slice e (Kd.int k)).C w (some ⟨g, 0, none⟩) [x1].length [x1] :=
  rows_C hb (by simp) (fun j xs hj => by
    match j, hj with
    | 0, hj => obtain rfl := Option.some.inj hj; exact ⟨A1, c1, rfl, h1, f1⟩
    | j + 1, hj => simp at hj)
end
end Go.Proofs.Ytiiljpaedelhlaa.Flow
end
section
namespace Go.Proofs.Ytiiljpaedelhlaa.Flow
open Go.RowKit Go.Proofs.YtiiljpaedelhlaaW.PrintWords Go.Proofs.YtiiljpaedelhlaaW.PrintLast Go.Proofs.YtiiljpaedelhlaaW.PrintMore
set_option linter.unusedVariables false
set_option linter.unusedSimpArgs false
section
variable {k : IntKind} {e t : TypeId} {w w' : World} {base b g : Nat} {A : Option Addr} {n c : Nat} {xs : List Int} {cs : Array Value}
theorem Blk.kept {S : Nat → Prop} (h : Blk w g t cs) (hk : Kept w w' S) (hS : ¬ S g) : Blk w' g t cs := (hk.2 g h.lt hS).trans h
end
theorem Keep.kept {g : Nat} {w w' : World} (h : Keep g w w') : Kept w w' (fun q => q = g) := ⟨by rw [h.size]; exact Nat.le_refl _, fun i _ hn => h.block i hn⟩
section
variable {P : Program} {cx : Cx} {n : Nat} {Q : Exit → Act → World → Prop} {st : List Itm} {G : Env} {w : World} {ops : Array Oper} {o : Oper} {rest : List Oper}
theorem rw_append_R {dst : Nat} (k : IntKind) {w0 : World} (base : Nat) (hg : o.guard = none) (hd : o.dst = some dst) (hdn : Nat.blt dst n = true) (s x : Operand) (hks : knownO G s = true) (hkx : knownO G x = true) (t e : TypeId) (bytes : Nat)
    (ho : o.op = .call { callee := .builtin .append, args := #[s, x], argTypes := #[t, t] }) (ht : P.underlying t = some (.slice e)) (hinfo : (P.info? e).map (fun i => (i.zero, i.size, i.bytes)) = some (some (.int k 0), 1, bytes)) (hb0 : 0 < bytes)
    {xs ys : List Int} {A A2 : Option Addr} {m c m2 c2 : Nat} {ok : Nat → Prop} (hs : sEv G s = .slice A m c) (hx : sEv G x = .slice A2 m2 c2) (hfresh : ∀ q, w.heap.size ≤ q → ok q)
    (HO : (Kd.int k).R e w base ok (.slice A m c) xs) (HR : (Kd.int k).C w A2 m2 ys) (HB : Below base w0 w) (hbase : base ≤ w.heap.size) (hl : (xs.length + m2) * bytes ≤ 140737488355328)
    (kk : ∀ A' c' w', (Kd.int k).R e w' base ok (.slice A' (xs ++ ys).length c') (xs ++ ys) → Below base w0 w' → w.grownBy w' (Value.slice A m c).ownBlock → RW P ops cx n Q rest ((dst, .slice A' (xs ++ ys).length c') :: G) w') : RW P ops cx n Q (o :: rest) G w := fun a ha =>
  Kd.R_append_row (enc := Value.int k) 0 base hg s x t e (.int k 0) bytes ho ht hinfo rfl hb0 _ xs ys A2 m2 c2 ok ((eval_known ha hks).trans hs) ((eval_known ha hkx).trans hx) hfresh HO HR HB hbase hl
    (fun v1 w1 h1 h2 h3 _ => by
      obtain ⟨A', c', rfl, _, h4⟩ := R_shape h1
      rw [hd]
      exact kk A' c' w1 h4 h2 h3 _ (ha.put hdn _))
end
end Go.Proofs.Ytiiljpaedelhlaa.Flow
end
section
namespace Go.Proofs.Ytiiljpaedelhlaa.Flow
open Go.RowKit Go.Proofs.YtiiljpaedelhlaaW.PrintWords Go.Proofs.YtiiljpaedelhlaaW.PrintLast Go.Proofs.YtiiljpaedelhlaaW.PrintMore
set_option linter.unusedVariables false
set_option linter.unusedSimpArgs false
def BR (k : IntKind) (e : TypeId) (w : World) (base : Nat) (ok : Nat → Prop) (A : Option Addr) (n c : Nat) (xs : List Int) : Prop :=
  (Kd.int k).R e w base ok (.slice A n c) xs ∨ ∃ g cur, A = some ⟨g, 0, none⟩ ∧ Blk w g e cur ∧ base ≤ g ∧ ok g ∧ n = xs.length ∧ c = n ∧ n ≤ cur.size ∧ cur.size ≤ 9223372036854775807 ∧ Nums k cur xs
section
variable {k : IntKind} {e : TypeId} {w w' : World} {base : Nat} {ok : Nat → Prop} {A : Option Addr} {n c : Nat} {xs : List Int}
theorem blk_C {g : Nat} {cur : Array Value} (hb : Blk w g e cur) (hn : xs.length ≤ cur.size) (hm : cur.size ≤ 9223372036854775807) (h : Nums k cur xs) : (Kd.int k).C w (some ⟨g, 0, none⟩) xs.length xs :=
  Own.C (own_blk (k := k) (e := e) g hb (Nat.le_refl _) rfl hn hm h)
theorem BR.of_R (h : (Kd.int k).R e w base ok (.slice A n c) xs) : BR k e w base ok A n c xs := .inl h
theorem BR.reads' (h : BR k e w base ok A n c xs) : n = xs.length ∧ n ≤ c ∧ (Kd.int k).C w A xs.length xs := by
  rcases h with h | ⟨g, cur, rfl, hb, h1, h2, h3, h4, h5, h6, h7⟩
  · exact Kd.R_reads' h
  · exact ⟨h3, by omega, blk_C hb (by omega) h6 h7⟩
theorem BR.own (h : BR k e w base ok A n c xs) : ∀ q, (Value.slice A n c).ownBlock = some q → ok q := by
  rcases h with h | ⟨g, cur, rfl, hb, h1, h2, h3, h4, h5, h6, h7⟩
  · exact h.1
  · intro q hq
    simp only [Value.ownBlock, Option.some.injEq] at hq
    subst hq
    exact h2
theorem BR.mono {ok' : Nat → Prop} (h : BR k e w base ok A n c xs) (hok : ∀ q, ok q → ok' q) : BR k e w base ok' A n c xs := by
  rcases h with h | ⟨g, cur, rfl, hb, h1, h2, h3⟩
  · exact .inl (Kd.R_mono h hok)
  · exact .inr ⟨g, cur, rfl, hb, h1, hok _ h2, h3⟩
theorem BR.bound (h : BR k e w base ok A n c xs) : BR k e w base (fun q => ok q ∧ base ≤ q ∧ q < w.heap.size) A n c xs := by
  rcases h with h | ⟨g, cur, rfl, hb, h1, h2, h3⟩
  · exact .inl (Kd.R_mono (Kd.R_bound h) (fun q hq => ⟨hq.1, hq.2.1, hq.2.2.1⟩))
  · exact .inr ⟨g, cur, rfl, hb, h1, ⟨h2, h1, hb.lt⟩, h3⟩
theorem BR.lower {base' : Nat} (h : BR k e w base ok A n c xs) (hb : base' ≤ base) : BR k e w base' ok A n c xs := by
  rcases h with h | ⟨g, cur, rfl, hb2, h1, h3⟩
  · exact .inl (Kd.R_lower h hb)
  · exact .inr ⟨g, cur, rfl, hb2, Nat.le_trans hb h1, h3⟩
theorem BR.step (h : BR k e w base ok A n c xs) (hm : ∀ q, ok q → q < w.heap.size → w'.heap[q]? = w.heap[q]?) : BR k e w' base ok A n c xs := by
  rcases h with h | ⟨g, cur, rfl, hb, h1, h2, h3⟩
  · exact .inl (Kd.R_step h hm)
  · exact .inr ⟨g, cur, rfl, (hm g h2 hb.lt).trans hb, h1, h2, h3⟩
theorem BR.below (h : BR k e w base ok A n c xs) (hb : Below w.heap.size w w') : BR k e w' base ok A n c xs := h.step (fun q _ hq => hb.block q hq)
theorem BR.nil (k : IntKind) (e : TypeId) (w : World) (base : Nat) (ok : Nat → Prop) : BR k e w base ok none 0 0 [] := .inl (Kd.R_nil _ _ _ _ _)
theorem nums_take {cur : Array Value} (h : Nums k cur xs) (m : Nat) : Nums k cur (xs.take m) := fun j hj => by
  have hj1 : j < m ∧ j < xs.length := by simp at hj; omega
  rw [h j hj1.2]
  simp [List.getD_eq_getElem?_getD, List.getElem?_take, hj1.1]
theorem BR.cut (h : BR k e w base ok A n c xs) (m : Nat) (hm : m ≤ xs.length) : BR k e w base ok A m m (xs.take m) := by
  have hl : (xs.take m).length = m := by simp; omega
  rcases h with h | ⟨g, cur, rfl, hb, h1, h2, h3, h4, h5, h6, h7⟩
  · obtain ⟨hn0, hnc, _⟩ := Kd.R_reads' h
    subst hn0
    by_cases h0 : xs = []
    · subst h0
      simp only [List.length_nil, Nat.le_zero] at hm
      subst hm
      have ho := Kd.own_of_R h
      rcases ho.2 with ⟨hv, hn⟩ | ⟨g, cap, cur, hv, hb, hg, hn, hc3, hsz, ht⟩
      · injection hv with q1 q2 q3
        subst q1 q3
        exact .inl h
      · injection hv with q1 q2 q3
        subst q1 q3
        refine .inr ⟨g, cur, rfl, hg, hb, h.1 g rfl, rfl, rfl, by omega, ?_, fun j hj => by simp at hj⟩
        simp [maxLen] at hc3
        omega
    · obtain ⟨g, cap, cur, hv, hb, hg, hn, hsz, hN⟩ := row_block h h0
      have hown := Kd.own_of_R h
      injection hv with q1 q2 q3
      subst q1 q3
      have hmx : c ≤ 9223372036854775807 := by
        rcases hown.2 with ⟨hv, _⟩ | ⟨g', cap', cur', hv, _, _, _, hc3, _, _⟩
        · cases hv
        · injection hv with _ _ q4
          subst q4
          simp [maxLen] at hc3
          omega
      exact .inr ⟨g, cur, rfl, hg, hb, h.1 g rfl, hl.symm, rfl, by omega, by omega, nums_take hN m⟩
  · exact .inr ⟨g, cur, rfl, hb, h1, h2, hl.symm, rfl, by omega, h6, nums_take h7 m⟩
end
theorem C_cells {k : IntKind} {w : World} {ad : Addr} {m : Nat} {ys : List Int} (h : (Kd.int k).C w (some ad) m ys) (hn : 0 < m) : ∀ j u, (encs (Value.int k) ys)[j]? = some u → w.cell? (ad.add j) = some u := fun j u hu => by
  obtain ⟨ad', hA, hc⟩ := h.2.2 hn
  obtain rfl := Option.some.inj hA
  simp only [encs, List.getElem?_map, Option.map_eq_some_iff] at hu
  obtain ⟨p, hp, rfl⟩ := hu
  obtain ⟨c, hl, hK, hcell⟩ := hc j p hp
  have hK' : c = [Value.int k p] := hK
  subst hK'
  have := hcell 0 _ rfl
  have e1 : j * 1 + 0 = j := by omega
  rw [show (Kd.int k).sz = 1 from rfl, e1] at this
  exact this
section
variable {P : Program} {cx : Cx} {n : Nat} {Q : Exit → Act → World → Prop} {st : List Itm} {G : Env} {w : World} {ops : Array Oper} {o : Oper} {rest : List Oper}
theorem rw_append_BR {dst : Nat} (k : IntKind) {w0 : World} (base : Nat) (hg : o.guard = none) (hd : o.dst = some dst) (hdn : Nat.blt dst n = true) (s x : Operand) (hks : knownO G s = true) (hkx : knownO G x = true) (t e : TypeId) (bytes : Nat)
    (ho : o.op = .call { callee := .builtin .append, args := #[s, x], argTypes := #[t, t] }) (ht : P.underlying t = some (.slice e)) (hinfo : (P.info? e).map (fun i => (i.zero, i.size, i.bytes)) = some (some (.int k 0), 1, bytes)) (hb0 : 0 < bytes)
    {xs ys : List Int} {A A2 : Option Addr} {m c m2 c2 : Nat} {ok : Nat → Prop} (hs : sEv G s = .slice A m c) (hx : sEv G x = .slice A2 m2 c2) (hfresh : ∀ q, w.heap.size ≤ q → ok q)
    (HO : BR k e w base ok A m c xs) (HR : (Kd.int k).C w A2 m2 ys) (HB : Below base w0 w) (hbase : base ≤ w.heap.size) (hl : (xs.length + m2) * bytes ≤ 140737488355328)
    (kk : ∀ A' c' w', BR k e w' base ok A' (xs ++ ys).length c' (xs ++ ys) → Below base w0 w' → w.grownBy w' (Value.slice A m c).ownBlock → RW P ops cx n Q rest ((dst, .slice A' (xs ++ ys).length c') :: G) w') : RW P ops cx n Q (o :: rest) G w := by
  rcases HO with HO | HC
  · exact rw_append_R k base hg hd hdn s x hks hkx t e bytes ho ht hinfo hb0 hs hx hfresh HO HR HB hbase hl (fun A' c' w' h1 h2 h3 => kk A' c' w' (.inl h1) h2 h3)
  · intro a ha
    have HC' := HC
    obtain ⟨g, cur, rfl, hb, h1, h2, h3, h4, h5, h6, h7⟩ := HC
    obtain ⟨i0, hi, hzz⟩ := Option.map_eq_some_iff.1 hinfo
    simp only [Prod.mk.injEq] at hzz
    obtain ⟨hz0, hz1, hz2⟩ := hzz
    have hys : ys.length = m2 := HR.1
    have hlen : xs.length + m2 ≤ 140737488355328 := Nat.le_trans (Nat.le_mul_of_pos_right _ hb0) hl
    have hCx := blk_C (k := k) hb (by omega) h6 h7
    rcases Nat.eq_zero_or_pos m2 with h0 | h0
    · subst h0
      obtain rfl : ys = [] := List.eq_nil_of_length_eq_zero hys
      have hk := kk (some ⟨g, 0, none⟩) c w (by rw [List.append_nil, ← h3]; exact .inr HC') HB (World.grownBy.refl _ _)
      have hrun : (Builtin.append_ #[t, t] o.type #[.slice (some ⟨g, 0, none⟩) m c, .slice A2 0 c2]).run P w = .ok (.slice (some ⟨g, 0, none⟩) m c) w := by
        have hmc : m ≤ c := by omega
        cases A2 with
        | none => simp [Builtin.append_, run_underlying ht, sizeOf, typeInfo, hi, Builtin.lenOf, Builtin.firstCells, hmc, storeCells]
        | some ad =>
          have hfc := run_firstCells_some (P := P) w i0.size 0 ad 0 c2 [] (by simp) (by simp)
          simp [Builtin.append_, run_underlying ht, sizeOf, typeInfo, hi, Builtin.lenOf, hmc, hfc, storeCells]
      rw [List.append_nil, ← h3] at hk
      refine wpList_plain hg fun K hK' => ?_
      have es : a.eval s = .slice (some ⟨g, 0, none⟩) m c := (eval_known ha hks).trans hs
      have ex : a.eval x = .slice A2 0 c2 := (eval_known ha hkx).trans hx
      unfold Oper.wp
      simp [execOp, ho, resolve, invoke, builtin, es, ex, hrun, Result.andThen]
      exact hK' _ _ (by rw [hd]; exact hk _ (ha.put hdn _))
    · obtain ⟨ad, hA, _⟩ := HR.2.2 h0
      subst hA
      have hxl : (encs (Value.int k) xs).length = xs.length := encs_length _
      refine wpList_append_grows w hg s x t ho e i0 (.int k 0) 1 bytes ht hi hz0 hz1 hz2 rfl (by omega) (some ⟨g, 0, none⟩) m c (encs (Value.int k) xs) ((eval_known ha hks).trans hs) (fun h => by cases h) (by rw [hxl]; omega)
        (fun b hb2 j u hu => by
          obtain rfl := Option.some.inj hb2
          have hx0 : 0 < xs.length := by
            have := (List.getElem?_eq_some_iff.1 hu).1
            rw [hxl] at this
            omega
          exact C_cells hCx hx0 j u hu) ad m2 c2 (encs (Value.int k) ys) ((eval_known ha hkx).trans hx) (by rw [encs_length]; omega) (C_cells HR h0) (fun u hu => ?_) (by omega) (by simp [maxLen]; omega) (by rw [h3]; exact hl) ?_
      · simp only [encs, List.mem_map] at hu
        obtain ⟨q, _, rfl⟩ := hu
        rfl
      · intro v' w' hown hgr
        have hownl : m + m2 = (xs ++ ys).length := by simp; omega
        rw [hownl, ← encs_append] at hown
        have hR : (Kd.int k).R e w' base ok v' (xs ++ ys) := by
          refine Kd.R_lower (Kd.R_of_own hown (fun q hq => ?_)) hbase
          rcases hown.2 with ⟨hv, _⟩ | ⟨g', cap', cur', hv, hge, _⟩
          · rw [hv] at hq
            cases hq
          · rw [hv] at hq
            simp only [Value.ownBlock, Option.some.injEq] at hq
            subst hq
            exact hfresh _ hge
        obtain ⟨A', c', rfl, _, h4'⟩ := R_shape hR
        have hBl : Below w.heap.size w w' := ⟨hgr.os, hgr.tape, hgr.output, hgr.size, fun q hq => hgr.block q hq (by simp)⟩
        rw [hd]
        exact kk A' c' w' (.inl h4') (HB.trans (hBl.mono hbase)) ⟨hgr.os, hgr.tape, hgr.output, hgr.size, fun q hq _ => hgr.block q hq (by simp)⟩ _ (ha.put hdn _)
end
end Go.Proofs.Ytiiljpaedelhlaa.Flow
end
section
namespace Go.Proofs.Ytiiljpaedelhlaa.Tp
open Go.RowKit Go.Proofs.YtiiljpaedelhlaaW.PrintWords Go.Proofs.YtiiljpaedelhlaaW.PrintLast Go.Proofs.YtiiljpaedelhlaaW.PrintMore
open Go.Proofs.Ytiiljpaedelhlaa.Flow
set_option linter.unusedVariables false
set_option linter.unusedSimpArgs false
theorem u64_wrap (x : Int) : IntKind.u64.wrap x = x % 18446744073709551616 := by simp [IntKind.wrap, IntKind.bits, IntKind.signed] <;> omega
theorem wrap_id {x : Int} (h1 : -9223372036854775808 ≤ x) (h2 : x ≤ 9223372036854775807) : wrap64 x = x := by unfold wrap64; omega
theorem info5 : (Try.prog.info? 5).map (fun i => (i.zero, i.size, i.bytes)) = some (some (.int .u8 0), 1, 1) := by kernel_rfl
def errT : Option Int → Value
  | none => .nilIface
  | some c => .iface 50 (.int .i64 c)
theorem run_err_neq (o : Option Int) (w : World) : (binOp .neq 29 (errT o) .nilIface).run Try.prog w = .ok (.bool o.isSome) w := by
  cases o with
  | none => kernel_rfl
  | some c => kernel_rfl
theorem int_step (d : Nat) (a b : Int) (w : World) : (Op.equalIn (d + 1) 50 (.int .i64 a) (.int .i64 b)).run Try.prog w = .ok (a == b) w := by
  simp [Op.equalIn, run_underlying Try.underlying50]
theorem guard_err_neq (t : Nat) (o : Option Int) (w : World) : (do eqGuard .neq 29 (.tmp t) (.const .nilIface) (errT o) .nilIface; binOp .neq 29 (errT o) .nilIface : Sem Value).run Try.prog w = .ok (.bool o.isSome) w := by
  have h := run_err_neq o w
  cases o with
  | none => simpa [eqGuard, errT] using h
  | some c => simpa [eqGuard, errT] using h
theorem ptr_step {t e : TypeId} (ht : Try.prog.underlying t = some (.pointer e)) (d : Nat) (a : Option Addr) (w : World) : (Op.equalIn (d + 1) t (.pointer a) (.pointer none)).run Try.prog w = .ok a.isNone w := by
  cases a with
  | none => simp [Op.equalIn, run_underlying ht]
  | some a => simp [Op.equalIn, run_underlying ht]
theorem run_ptr_eql {t e : TypeId} (ht : Try.prog.underlying t = some (.pointer e)) (a : Option Addr) (w : World) : (binOp .eql t (.pointer a) (.pointer none)).run Try.prog w = .ok (.bool a.isNone) w := by
  have h2 : (Op.equalIn Op.maxDepth t (.pointer a) (.pointer none)).run Try.prog w = .ok a.isNone w := ptr_step ht 9999 a w
  simp [binOp, Op.equal, h2]
theorem run_ptr_neq {t e : TypeId} (ht : Try.prog.underlying t = some (.pointer e)) (a : Option Addr) (w : World) : (binOp .neq t (.pointer a) (.pointer none)).run Try.prog w = .ok (.bool (!a.isNone)) w := by
  have h2 : (Op.equalIn Op.maxDepth t (.pointer a) (.pointer none)).run Try.prog w = .ok a.isNone w := ptr_step ht 9999 a w
  simp [binOp, Op.equal, h2]
structure TS where
  xs : List Int
  sure : Int
  steps : Int
  ps : Bool
  pl : Int
  fs : Bool
  fl : Int
  dn : Bool
def TS.start : TS := ⟨[], 0, 0, false, 0, false, 0, false⟩
def duel (s : Bool) (l : Int) : Int := if s && !(l == 0) then l - 1 else l
def TS.err (s : TS) : Option Int := if s.dn then some 5 else if s.ps && (s.pl == 0) then some 5 else if s.fs && (s.fl == 0) then some 6 else none
def TS.next (s : TS) : TS :=
  if s.dn then s else if s.ps && (s.pl == 0) then { s with dn := true }
  else if s.fs && (s.fl == 0) then { s with pl := duel s.ps s.pl, steps := s.steps + 1, fs := false, fl := 0 }
  else { s with pl := duel s.ps s.pl, steps := s.steps + 1, fl := duel s.fs s.fl }
structure TS.Ok (s : TS) : Prop where
  steps : 0 ≤ s.steps ∧ s.steps ≤ 1000000000000000
  pl : 0 ≤ s.pl ∧ s.pl ≤ 9223372036854775807
  fl : 0 ≤ s.fl ∧ s.fl ≤ 9223372036854775807
  sure : 0 ≤ s.sure ∧ s.sure ≤ s.xs.length
  len : s.xs.length ≤ 1048576
def tcells (A : Option Addr) (n c : Nat) (s : TS) : Array Value := #[.slice A n c, .int .i64 s.sure, .int .i64 s.steps, .bool s.ps, .int .i64 s.pl, .bool s.fs, .int .i64 s.fl, .bool s.dn]
def TapeAt (w0 w : World) (g m : Nat) (x : Nat → Prop) (s : TS) : Prop :=
  Below w0.heap.size w0 w ∧ w0.heap.size ≤ g ∧ (g < m ∧ m ≤ w.heap.size) ∧ ∃ A n c, Blk w g 76 (tcells A n c s) ∧ BR .u8 5 w w0.heap.size (fun q => g < q ∧ q < m ∧ ¬ x q) A n c s.xs
theorem TapeAt.mk {w0 w : World} {g : Nat} {x : Nat → Prop} {s : TS} {A : Option Addr} {n c : Nat} {ok : Nat → Prop} (hB : Below w0.heap.size w0 w) (hg : w0.heap.size ≤ g) (hb : Blk w g 76 (tcells A n c s)) (hR : BR .u8 5 w w0.heap.size ok A n c s.xs) (hok : ∀ q, ok q → g < q ∧ ¬ x q) : TapeAt w0 w g w.heap.size x s :=
  ⟨hB, hg, ⟨hb.lt, Nat.le_refl _⟩, A, n, c, hb, BR.mono (BR.bound hR) (fun q hq => ⟨(hok q hq.1).1, hq.2.2, (hok q hq.1).2⟩)⟩
theorem TapeAt.mkm {w0 w : World} {g m : Nat} {x : Nat → Prop} {s : TS} {A : Option Addr} {n c : Nat} {ok : Nat → Prop} (hB : Below w0.heap.size w0 w) (hg : w0.heap.size ≤ g) (hb : Blk w g 76 (tcells A n c s)) (hR : BR .u8 5 w w0.heap.size ok A n c s.xs) (hok : ∀ q, ok q → g < q ∧ q < m ∧ ¬ x q) (hm : g < m ∧ m ≤ w.heap.size) : TapeAt w0 w g m x s :=
  ⟨hB, hg, hm, A, n, c, hb, BR.mono hR (fun q hq => hok q hq)⟩
theorem TapeAt.on {w0 w w' : World} {g m : Nat} {x : Nat → Prop} {s : TS} (h : TapeAt w0 w g m x s) (hb : Below w.heap.size w w') : TapeAt w0 w' g m x s := by
  obtain ⟨h1, h2, h3, A, n, c, h4, h5⟩ := h
  exact ⟨h1.trans (hb.mono h1.size), h2, ⟨h3.1, Nat.le_trans h3.2 hb.size⟩, A, n, c, h4.on hb, BR.below h5 hb⟩
theorem duel_ok (s : Bool) (l : Int) (h : 0 ≤ l ∧ l ≤ 9223372036854775807) : 0 ≤ duel s l ∧ duel s l ≤ 9223372036854775807 := by
  unfold duel
  split
  · rename_i h2
    simp at h2
    omega
  · exact h
theorem TS.next_xs (s : TS) : s.next.xs = s.xs := by
  unfold TS.next
  split
  · rfl
  · split
    · rfl
    · split <;> rfl
theorem TS.next_sure (s : TS) : s.next.sure = s.sure := by
  unfold TS.next
  split
  · rfl
  · split
    · rfl
    · split <;> rfl
def TS.repE (s : TS) (ys : List Int) : Option Int := if 1048576 < ys.length then some 7 else s.err
def TS.rep (s : TS) (ys : List Int) : TS := if 1048576 < ys.length then s else if s.err.isSome then s.next else { s.next with xs := ys, sure := (ys.length : Int) }
def TS.appE (s : TS) (ys : List Int) : Option Int := if 1048576 < s.xs.length + ys.length then some 7 else s.err
def TS.app (s : TS) (ys : List Int) : TS := if 1048576 < s.xs.length + ys.length then s else if s.err.isSome then s.next else { s.next with xs := s.xs ++ ys }
def TS.left (s : TS) (k : Int) : Int := min (max k 0) ((s.xs.length : Int) - s.sure)
def TS.crash (s : TS) (k : Int) : TS := ⟨s.xs.take (s.sure + s.left k).toNat, ((s.xs.take (s.sure + s.left k).toNat).length : Int), s.steps, false, 0, false, 0, false⟩
def rd_L2 (xs : List (List Int)) (i : Int) : (List Int) := xs.getD i.toNat ([] : List Int)
theorem at_L2 {w : World} {A : Option Addr} {n : Nat} {xs : List (List Int)} (h : Kd.C (Kd.slice 5 (Kd.int .u8)) w A n xs) (i : Int) (h0 : 0 ≤ i) (h1 : i < n) : ∃ ad A0 c0, A = some ad ∧ w.cell? (ad.add i.toNat) = some (.slice A0 (rd_L2 xs i).length c0) ∧ (rd_L2 xs i).length ≤ c0 ∧ (Kd.int .u8).C w A0 (rd_L2 xs i).length (rd_L2 xs i) := by
  obtain ⟨ad, c, e, _, hK, hc0⟩ := Kd.C_get h ([] : List Int) i h0 h1
  have hc : ∀ j u, c[j]? = some u → w.cell? (ad.add (i.toNat * 1 + j)) = some u := hc0
  obtain ⟨A0, c0, rfl, l0, g0⟩ := hK
  exact ⟨ad, A0, c0, e, by have hq := hc 0 _ rfl; rwa [Nat.mul_one, Nat.add_zero] at hq, l0, g0⟩
theorem rd_L2_at (ps : List (List Int)) (j : Nat) (h : j < ps.length) : rd_L2 ps (j : Int) = ps[j] := by
  unfold rd_L2
  rw [List.getD_eq_getElem?_getD, show ((j : Int)).toNat = j by omega, List.getElem?_eq_getElem h]
  rfl
theorem take_flat (ps : List (List Int)) (i : Nat) (h : i < ps.length) : (ps.take (i + 1)).flatten = (ps.take i).flatten ++ rd_L2 ps (i : Int) := by
  rw [List.take_succ_eq_append_getElem h, rd_L2_at ps i h, List.flatten_append]
  simp only [List.flatten_cons, List.flatten_nil, List.append_nil]
theorem take_len (ps : List (List Int)) (i : Nat) (h : i < ps.length) : ((ps.take (i + 1)).flatten).length = ((ps.take i).flatten).length + (rd_L2 ps (i : Int)).length := by
  rw [take_flat ps i h, List.length_append]
theorem take_le (ps : List (List Int)) (i : Nat) : ((ps.take i).flatten).length ≤ ps.flatten.length := by
  have h : ps.flatten = (ps.take i).flatten ++ (ps.drop i).flatten := by rw [← List.flatten_append, List.take_append_drop]
  rw [h]
  simp
theorem rd_L2_mem (ps : List (List Int)) (i : Nat) (h : i < ps.length) : rd_L2 ps (i : Int) ∈ ps := by
  rw [rd_L2_at ps i h]
  exact List.getElem_mem h
end Go.Proofs.Ytiiljpaedelhlaa.Tp
end
section
namespace Go.Proofs.Ytiiljpaedelhlaa.Tp
open Go.RowKit Go.Proofs.YtiiljpaedelhlaaW.PrintWords Go.Proofs.YtiiljpaedelhlaaW.PrintLast Go.Proofs.YtiiljpaedelhlaaW.PrintMore
open Go.Proofs.Ytiiljpaedelhlaa.Flow
set_option linter.unusedVariables false
set_option linter.unusedSimpArgs false
set_option maxHeartbeats 4000000 in
theorem clone_calls (w : World) (A : Option Addr) (n c : Nat) (xs : List Int) (hC : (Kd.int .u8).C w A n xs) (hl : n ≤ 140737488355328) :
    Calls Try.prog 42 #[.slice A n c] w fun e w' => ∃ A' n' c', e = .returned (.slice A' n' c') ∧ Own .u8 5 w' w.heap.size w.heap.size A' n' c' xs ∧ Below w.heap.size w w' := by
  refine calls_flow Try.func42 rfl 8 rfl (Nat.le_of_ble_eq_true rfl) [(0, .slice A n c)] ?_ ?_
  · intro t v h; exact args_look rfl t v h
  refine w_seq ?_
  refine w_region ?_
  refine rw_val (v := .slice none 0 0) (w' := w) rfl rfl rfl rfl rfl ?_
  refine rw_end ?_
  refine w_seq ?_
  refine w_seq ?_
  refine w_region ?_
  refine rw_val (v := .slice A n c) (w' := w) rfl rfl rfl rfl rfl ?_
  refine rw_val (v := .bool A.isNone) (w' := w) rfl rfl rfl rfl (run_as (run_nil_eql (P := Try.prog) (e := 5) (by kernel_rfl) _ _ _ _)) ?_
  refine rw_end ?_
  refine w_cond rfl rfl (fun cN => ?_) (fun cN => ?_)
  · refine w_seq ?_
    refine w_region ?_
    refine rw_val (v := .slice none 0 0) (w' := w) rfl rfl rfl rfl rfl ?_
    refine rw_end ?_
    refine w_ret (post_ret1 rfl rfl ?_)
    have hn_ : xs = [] := by
      have h1_ := hC.1
      have h2_ := hC.2.2
      rcases n with _ | n
      · exact List.eq_nil_of_length_eq_zero h1_
      · obtain ⟨ad, h3_, _⟩ := h2_ (by omega)
        rw [h3_] at cN
        exact absurd cN (by simp)
    subst hn_
    exact ⟨_, _, _, rfl, Own.nil _ _ _ _ _, (Below.refl _ _)⟩
  · refine w_skip ?_
    refine w_seq ?_
    refine w_region ?_
    refine rw_new (cs := #[]) (t := 5) (fun g => .slice (some ⟨g, 0, none⟩) 0 0) rfl rfl rfl rfl (by kernel_rfl) ?_
    intro g1 w2 hg6 hz5 hb3 hk4
    have hs_w2 := hb3.size
    have hO7 : Own .u8 5 w2 w.heap.size g1 (some ⟨g1, 0, none⟩) 0 0 [] := own_blk w.heap.size hk4 (by omega) rfl (by simp) (by omega) (Nums.nil _ _)
    refine rw_val (v := .slice A n c) (w' := w2) rfl rfl rfl rfl rfl ?_
    refine rw_append_row .u8 w.heap.size rfl rfl rfl (.tmp 5) (.tmp 6) rfl rfl 32 5 1 rfl (by kernel_rfl) info5 (by decide) (b := g1) rfl rfl (by omega) (hO7.on (Below.refl _ _)) (Kd.C_below hC hb3) hb3 (by omega) (by simp; omega) ?_
    intro A8 n9 c10 w11 hn12 hO13 hB14 hG15
    have hs_w11 := hB14.size
    have hgs_w11 := hG15.size
    refine rw_val (v := .slice A8 n9 c10) (w' := w11) rfl rfl rfl rfl rfl ?_
    refine rw_end ?_
    refine w_weaken (G' := [(2, .slice A8 n9 c10)]) ⟨rfl, trivial⟩ ?_
    refine w_ret (post_ret1 rfl rfl ?_)
    exact ⟨_, _, _, rfl, by simpa using ((hO13.on (Below.refl _ _)).mono (by omega) : Own .u8 5 w11 w.heap.size w.heap.size _ _ _ _), hB14⟩
set_option maxHeartbeats 4000000 in
theorem due3_calls (w : World) (g : Nat) (s : TS) (A : Option Addr) (n c : Nat) (hb : Blk w g 76 (tcells A n c s)) (hl : 0 ≤ s.pl ∧ s.pl ≤ 9223372036854775807) :
    Calls Try.prog 58 #[.pointer (some ⟨g, 3, none⟩)] w fun e w' => e = .returned (.bool (s.ps && (s.pl == 0))) ∧ Keep g w w' ∧ Blk w' g 76 #[.slice A n c, .int .i64 s.sure, .int .i64 s.steps, .bool s.ps, .int .i64 (duel s.ps s.pl), .bool s.fs, .int .i64 s.fl, .bool s.dn] := by
  refine calls_flow Try.func58 rfl 25 rfl (Nat.le_of_ble_eq_true rfl) [(0, .pointer (some ⟨g, 3, none⟩))] ?_ ?_
  · intro t v h; exact args_look rfl t v h
  refine w_seq ?_
  refine w_region ?_
  refine rw_val (v := .bool false) (w' := w) rfl rfl rfl rfl rfl ?_
  refine rw_end ?_
  refine w_seq ?_
  refine w_seq ?_
  refine w_region ?_
  refine rw_val (v := .pointer (some ⟨g, 3, none⟩)) (w' := w) rfl rfl rfl rfl rfl ?_
  refine rw_val (v := .pointer (some ⟨g, 3, none⟩)) (w' := w) rfl rfl rfl rfl (by simp [go_sem, sEv, sLook, nbeq, i64_w]) ?_
  refine rw_val (v := .pointer (some ⟨g, 3, none⟩)) (w' := w) rfl rfl rfl rfl (by simp [go_sem, sEv, sLook, nbeq, i64_w, Try.underlying74]) ?_
  refine rw_val (v := .bool s.ps) (w' := w) rfl rfl rfl rfl (by have eb_ := hb; have e0_ := eb_.cellv (i := 3) (v := (.bool s.ps : Value)) rfl; simp [go_sem, sEv, sLook, nbeq, i64_w, e0_]) ?_
  refine rw_val (v := .bool s.ps) (w' := w) rfl rfl rfl rfl rfl ?_
  rcases bcase s.ps with cS | cS
  · refine rw_off (c := s.ps) rfl rfl rfl (by simp [cS]) rfl rfl ?_
    refine rw_off (c := s.ps) rfl rfl rfl (by simp [cS]) rfl rfl ?_
    refine rw_off (c := s.ps) rfl rfl rfl (by simp [cS]) rfl rfl ?_
    refine rw_off (c := s.ps) rfl rfl rfl (by simp [cS]) rfl rfl ?_
    refine rw_off (c := s.ps) rfl rfl rfl (by simp [cS]) rfl rfl ?_
    refine rw_val (v := .bool false) (w' := w) rfl rfl rfl rfl (by simp [go_sem, sEv, sLook, nbeq, i64_w, cS]) ?_
    refine rw_end ?_
    refine w_weaken (G' := [(0, .pointer (some ⟨g, 3, none⟩)), (2, .bool false), (13, .bool false)]) ⟨rfl, rfl, rfl, trivial⟩ ?_
    refine w_cond_f rfl rfl rfl ?_
    refine w_skip ?_
    refine w_seq ?_
    refine w_seq ?_
    refine w_region ?_
    refine rw_val (v := .pointer (some ⟨g, 3, none⟩)) (w' := w) rfl rfl rfl rfl rfl ?_
    refine rw_val (v := .pointer (some ⟨g, 3, none⟩)) (w' := w) rfl rfl rfl rfl (by simp [go_sem, sEv, sLook, nbeq, i64_w]) ?_
    refine rw_val (v := .pointer (some ⟨g, 3, none⟩)) (w' := w) rfl rfl rfl rfl (by simp [go_sem, sEv, sLook, nbeq, i64_w, Try.underlying74]) ?_
    refine rw_val (v := .bool s.ps) (w' := w) rfl rfl rfl rfl (by have eb_ := hb; have e0_ := eb_.cellv (i := 3) (v := (.bool s.ps : Value)) rfl; simp [go_sem, sEv, sLook, nbeq, i64_w, e0_]) ?_
    refine rw_end ?_
    refine w_weaken (G' := [(0, .pointer (some ⟨g, 3, none⟩)), (2, .bool false), (17, .bool s.ps)]) ⟨rfl, rfl, rfl, trivial⟩ ?_
    refine w_cond_f rfl rfl cS ?_
    refine w_skip ?_
    refine w_seq ?_
    refine w_region ?_
    refine rw_val (v := .bool false) (w' := w) rfl rfl rfl rfl rfl ?_
    refine rw_end ?_
    refine w_ret (post_ret1 rfl rfl ?_)
    have d_ : duel s.ps s.pl = s.pl := by unfold duel; simp [cS]
    have b_ : (s.ps && (s.pl == 0)) = false := by simp [cS]
    rw [d_, b_]
    exact ⟨rfl, Keep.refl _ _, hb⟩
  · refine rw_gval (c := s.ps) (v := .pointer (some ⟨g, 3, none⟩)) (w' := w) rfl rfl rfl (by simp [cS]) rfl rfl rfl (by rfl) ?_
    refine rw_gval (c := s.ps) (v := .pointer (some ⟨g, 3, none⟩)) (w' := w) rfl rfl rfl (by simp [cS]) rfl rfl rfl (by simp [go_sem, sEv, sLook, nbeq, i64_w]) ?_
    refine rw_gval (c := s.ps) (v := .pointer (some ⟨g, 4, none⟩)) (w' := w) rfl rfl rfl (by simp [cS]) rfl rfl rfl (by simp [go_sem, sEv, sLook, nbeq, i64_w, Try.underlying74]) ?_
    refine rw_gval (c := s.ps) (v := .int .i64 s.pl) (w' := w) rfl rfl rfl (by simp [cS]) rfl rfl rfl (by have eb_ := hb; have e0_ := eb_.cellv (i := 4) (v := (.int .i64 s.pl : Value)) rfl; simp [go_sem, sEv, sLook, nbeq, i64_w, e0_]) ?_
    refine rw_gval (c := s.ps) (v := .bool (s.pl == 0)) (w' := w) rfl rfl rfl (by simp [cS]) rfl rfl rfl (by simp [go_sem, sEv, sLook, nbeq, i64_w]) ?_
    refine rw_val (v := .bool (s.pl == 0)) (w' := w) rfl rfl rfl rfl (by simp [go_sem, sEv, sLook, nbeq, i64_w, cS]) ?_
    refine rw_end ?_
    refine w_weaken (G' := [(0, .pointer (some ⟨g, 3, none⟩)), (2, .bool false), (13, .bool (s.pl == 0))]) ⟨rfl, rfl, rfl, trivial⟩ ?_
    refine w_cond rfl rfl (fun cL => ?_) (fun cL => ?_)
    · refine w_seq ?_
      refine w_region ?_
      refine rw_val (v := .bool true) (w' := w) rfl rfl rfl rfl rfl ?_
      refine rw_end ?_
      refine w_ret (post_ret1 rfl rfl ?_)
      have d_ : duel s.ps s.pl = s.pl := by unfold duel; simp [cS, cL]
      have b_ : (s.ps && (s.pl == 0)) = true := by simp [cS, cL]
      rw [d_, b_]
      exact ⟨rfl, Keep.refl _ _, hb⟩
    · refine w_skip ?_
      refine w_seq ?_
      refine w_seq ?_
      refine w_region ?_
      refine rw_val (v := .pointer (some ⟨g, 3, none⟩)) (w' := w) rfl rfl rfl rfl rfl ?_
      refine rw_val (v := .pointer (some ⟨g, 3, none⟩)) (w' := w) rfl rfl rfl rfl (by simp [go_sem, sEv, sLook, nbeq, i64_w]) ?_
      refine rw_val (v := .pointer (some ⟨g, 3, none⟩)) (w' := w) rfl rfl rfl rfl (by simp [go_sem, sEv, sLook, nbeq, i64_w, Try.underlying74]) ?_
      refine rw_val (v := .bool s.ps) (w' := w) rfl rfl rfl rfl (by have eb_ := hb; have e0_ := eb_.cellv (i := 3) (v := (.bool s.ps : Value)) rfl; simp [go_sem, sEv, sLook, nbeq, i64_w, e0_]) ?_
      refine rw_end ?_
      refine w_weaken (G' := [(0, .pointer (some ⟨g, 3, none⟩)), (2, .bool false), (17, .bool s.ps)]) ⟨rfl, rfl, rfl, trivial⟩ ?_
      refine w_cond_t rfl rfl cS ?_
      refine w_region ?_
      refine rw_val (v := .pointer (some ⟨g, 3, none⟩)) (w' := w) rfl rfl rfl rfl rfl ?_
      refine rw_val (v := .pointer (some ⟨g, 3, none⟩)) (w' := w) rfl rfl rfl rfl (by simp [go_sem, sEv, sLook, nbeq, i64_w]) ?_
      refine rw_val (v := .pointer (some ⟨g, 4, none⟩)) (w' := w) rfl rfl rfl rfl (by simp [go_sem, sEv, sLook, nbeq, i64_w, Try.underlying74]) ?_
      refine rw_val (v := .int .i64 s.pl) (w' := w) rfl rfl rfl rfl (by have eb_ := hb; have e0_ := eb_.cellv (i := 4) (v := (.int .i64 s.pl : Value)) rfl; simp [go_sem, sEv, sLook, nbeq, i64_w, e0_]) ?_
      refine rw_val (v := .int .i64 (s.pl - 1)) (w' := w) rfl rfl rfl rfl (by simp [go_sem, sEv, sLook, nbeq, i64_w]; have := hl.1; have : ¬ s.pl = 0 := (by simpa using cL); exact wrap_id (by omega) (by omega)) ?_
      refine rw_val (v := .pointer (some ⟨g, 3, none⟩)) (w' := w) rfl rfl rfl rfl (by simp [go_sem, sEv, sLook, nbeq, i64_w]) ?_
      refine rw_val (v := .pointer (some ⟨g, 4, none⟩)) (w' := w) rfl rfl rfl rfl (by simp [go_sem, sEv, sLook, nbeq, i64_w, Try.underlying74]) ?_
      have hb4 := hb
      refine rw_store (g := g) (i := 4) (l := [.int .i64 (s.pl - 1)]) (cs' := #[.slice A n c, .int .i64 s.sure, .int .i64 s.steps, .bool s.ps, .int .i64 (s.pl - 1), .bool s.fs, .int .i64 s.fl, .bool s.dn]) rfl rfl rfl hb4 rfl (by have e0_ := hb4.cellv (i := 4) (v := (.int .i64 s.pl : Value)) rfl; have f0_ := hb4.frozen 4; simp [go_sem, sEv, sLook, nbeq, i64_w, putCells, e0_, f0_]) ?_
      intro w1 hk2 hk3
      have hs_w1 := hk2.size
      refine rw_end ?_
      refine w_weaken (G' := [(2, .bool false)]) ⟨rfl, trivial⟩ ?_
      refine w_seq ?_
      refine w_region ?_
      refine rw_val (v := .bool false) (w' := w1) rfl rfl rfl rfl rfl ?_
      refine rw_end ?_
      refine w_ret (post_ret1 rfl rfl ?_)
      have d_ : duel s.ps s.pl = s.pl - 1 := by unfold duel; simp [cS, cL]
      have b_ : (s.ps && (s.pl == 0)) = false := by simp [cS, cL]
      rw [d_, b_]
      exact ⟨rfl, hk2, hk3⟩
set_option maxHeartbeats 4000000 in
theorem due5_calls (w : World) (g : Nat) (s : TS) (A : Option Addr) (n c : Nat) (hb : Blk w g 76 (tcells A n c s)) (hl : 0 ≤ s.fl ∧ s.fl ≤ 9223372036854775807) :
    Calls Try.prog 58 #[.pointer (some ⟨g, 5, none⟩)] w fun e w' => e = .returned (.bool (s.fs && (s.fl == 0))) ∧ Keep g w w' ∧ Blk w' g 76 #[.slice A n c, .int .i64 s.sure, .int .i64 s.steps, .bool s.ps, .int .i64 s.pl, .bool s.fs, .int .i64 (duel s.fs s.fl), .bool s.dn] := by
  refine calls_flow Try.func58 rfl 25 rfl (Nat.le_of_ble_eq_true rfl) [(0, .pointer (some ⟨g, 5, none⟩))] ?_ ?_
  · intro t v h; exact args_look rfl t v h
  refine w_seq ?_
  refine w_region ?_
  refine rw_val (v := .bool false) (w' := w) rfl rfl rfl rfl rfl ?_
  refine rw_end ?_
  refine w_seq ?_
  refine w_seq ?_
  refine w_region ?_
  refine rw_val (v := .pointer (some ⟨g, 5, none⟩)) (w' := w) rfl rfl rfl rfl rfl ?_
  refine rw_val (v := .pointer (some ⟨g, 5, none⟩)) (w' := w) rfl rfl rfl rfl (by simp [go_sem, sEv, sLook, nbeq, i64_w]) ?_
  refine rw_val (v := .pointer (some ⟨g, 5, none⟩)) (w' := w) rfl rfl rfl rfl (by simp [go_sem, sEv, sLook, nbeq, i64_w, Try.underlying74]) ?_
  refine rw_val (v := .bool s.fs) (w' := w) rfl rfl rfl rfl (by have eb_ := hb; have e0_ := eb_.cellv (i := 5) (v := (.bool s.fs : Value)) rfl; simp [go_sem, sEv, sLook, nbeq, i64_w, e0_]) ?_
  refine rw_val (v := .bool s.fs) (w' := w) rfl rfl rfl rfl rfl ?_
  rcases bcase s.fs with cS | cS
  · refine rw_off (c := s.fs) rfl rfl rfl (by simp [cS]) rfl rfl ?_
    refine rw_off (c := s.fs) rfl rfl rfl (by simp [cS]) rfl rfl ?_
    refine rw_off (c := s.fs) rfl rfl rfl (by simp [cS]) rfl rfl ?_
    refine rw_off (c := s.fs) rfl rfl rfl (by simp [cS]) rfl rfl ?_
    refine rw_off (c := s.fs) rfl rfl rfl (by simp [cS]) rfl rfl ?_
    refine rw_val (v := .bool false) (w' := w) rfl rfl rfl rfl (by simp [go_sem, sEv, sLook, nbeq, i64_w, cS]) ?_
    refine rw_end ?_
    refine w_weaken (G' := [(0, .pointer (some ⟨g, 5, none⟩)), (2, .bool false), (13, .bool false)]) ⟨rfl, rfl, rfl, trivial⟩ ?_
    refine w_cond_f rfl rfl rfl ?_
    refine w_skip ?_
    refine w_seq ?_
    refine w_seq ?_
    refine w_region ?_
    refine rw_val (v := .pointer (some ⟨g, 5, none⟩)) (w' := w) rfl rfl rfl rfl rfl ?_
    refine rw_val (v := .pointer (some ⟨g, 5, none⟩)) (w' := w) rfl rfl rfl rfl (by simp [go_sem, sEv, sLook, nbeq, i64_w]) ?_
    refine rw_val (v := .pointer (some ⟨g, 5, none⟩)) (w' := w) rfl rfl rfl rfl (by simp [go_sem, sEv, sLook, nbeq, i64_w, Try.underlying74]) ?_
    refine rw_val (v := .bool s.fs) (w' := w) rfl rfl rfl rfl (by have eb_ := hb; have e0_ := eb_.cellv (i := 5) (v := (.bool s.fs : Value)) rfl; simp [go_sem, sEv, sLook, nbeq, i64_w, e0_]) ?_
    refine rw_end ?_
    refine w_weaken (G' := [(0, .pointer (some ⟨g, 5, none⟩)), (2, .bool false), (17, .bool s.fs)]) ⟨rfl, rfl, rfl, trivial⟩ ?_
    refine w_cond_f rfl rfl cS ?_
    refine w_skip ?_
    refine w_seq ?_
    refine w_region ?_
    refine rw_val (v := .bool false) (w' := w) rfl rfl rfl rfl rfl ?_
    refine rw_end ?_
    refine w_ret (post_ret1 rfl rfl ?_)
    have d_ : duel s.fs s.fl = s.fl := by unfold duel; simp [cS]
    have b_ : (s.fs && (s.fl == 0)) = false := by simp [cS]
    rw [d_, b_]
    exact ⟨rfl, Keep.refl _ _, hb⟩
  · refine rw_gval (c := s.fs) (v := .pointer (some ⟨g, 5, none⟩)) (w' := w) rfl rfl rfl (by simp [cS]) rfl rfl rfl (by rfl) ?_
    refine rw_gval (c := s.fs) (v := .pointer (some ⟨g, 5, none⟩)) (w' := w) rfl rfl rfl (by simp [cS]) rfl rfl rfl (by simp [go_sem, sEv, sLook, nbeq, i64_w]) ?_
    refine rw_gval (c := s.fs) (v := .pointer (some ⟨g, 6, none⟩)) (w' := w) rfl rfl rfl (by simp [cS]) rfl rfl rfl (by simp [go_sem, sEv, sLook, nbeq, i64_w, Try.underlying74]) ?_
    refine rw_gval (c := s.fs) (v := .int .i64 s.fl) (w' := w) rfl rfl rfl (by simp [cS]) rfl rfl rfl (by have eb_ := hb; have e0_ := eb_.cellv (i := 6) (v := (.int .i64 s.fl : Value)) rfl; simp [go_sem, sEv, sLook, nbeq, i64_w, e0_]) ?_
    refine rw_gval (c := s.fs) (v := .bool (s.fl == 0)) (w' := w) rfl rfl rfl (by simp [cS]) rfl rfl rfl (by simp [go_sem, sEv, sLook, nbeq, i64_w]) ?_
    refine rw_val (v := .bool (s.fl == 0)) (w' := w) rfl rfl rfl rfl (by simp [go_sem, sEv, sLook, nbeq, i64_w, cS]) ?_
    refine rw_end ?_
    refine w_weaken (G' := [(0, .pointer (some ⟨g, 5, none⟩)), (2, .bool false), (13, .bool (s.fl == 0))]) ⟨rfl, rfl, rfl, trivial⟩ ?_
    refine w_cond rfl rfl (fun cL => ?_) (fun cL => ?_)
    · refine w_seq ?_
      refine w_region ?_
      refine rw_val (v := .bool true) (w' := w) rfl rfl rfl rfl rfl ?_
      refine rw_end ?_
      refine w_ret (post_ret1 rfl rfl ?_)
      have d_ : duel s.fs s.fl = s.fl := by unfold duel; simp [cS, cL]
      have b_ : (s.fs && (s.fl == 0)) = true := by simp [cS, cL]
      rw [d_, b_]
      exact ⟨rfl, Keep.refl _ _, hb⟩
    · refine w_skip ?_
      refine w_seq ?_
      refine w_seq ?_
      refine w_region ?_
      refine rw_val (v := .pointer (some ⟨g, 5, none⟩)) (w' := w) rfl rfl rfl rfl rfl ?_
      refine rw_val (v := .pointer (some ⟨g, 5, none⟩)) (w' := w) rfl rfl rfl rfl (by simp [go_sem, sEv, sLook, nbeq, i64_w]) ?_
      refine rw_val (v := .pointer (some ⟨g, 5, none⟩)) (w' := w) rfl rfl rfl rfl (by simp [go_sem, sEv, sLook, nbeq, i64_w, Try.underlying74]) ?_
      refine rw_val (v := .bool s.fs) (w' := w) rfl rfl rfl rfl (by have eb_ := hb; have e0_ := eb_.cellv (i := 5) (v := (.bool s.fs : Value)) rfl; simp [go_sem, sEv, sLook, nbeq, i64_w, e0_]) ?_
      refine rw_end ?_
      refine w_weaken (G' := [(0, .pointer (some ⟨g, 5, none⟩)), (2, .bool false), (17, .bool s.fs)]) ⟨rfl, rfl, rfl, trivial⟩ ?_
      refine w_cond_t rfl rfl cS ?_
      refine w_region ?_
      refine rw_val (v := .pointer (some ⟨g, 5, none⟩)) (w' := w) rfl rfl rfl rfl rfl ?_
      refine rw_val (v := .pointer (some ⟨g, 5, none⟩)) (w' := w) rfl rfl rfl rfl (by simp [go_sem, sEv, sLook, nbeq, i64_w]) ?_
      refine rw_val (v := .pointer (some ⟨g, 6, none⟩)) (w' := w) rfl rfl rfl rfl (by simp [go_sem, sEv, sLook, nbeq, i64_w, Try.underlying74]) ?_
      refine rw_val (v := .int .i64 s.fl) (w' := w) rfl rfl rfl rfl (by have eb_ := hb; have e0_ := eb_.cellv (i := 6) (v := (.int .i64 s.fl : Value)) rfl; simp [go_sem, sEv, sLook, nbeq, i64_w, e0_]) ?_
      refine rw_val (v := .int .i64 (s.fl - 1)) (w' := w) rfl rfl rfl rfl (by simp [go_sem, sEv, sLook, nbeq, i64_w]; have := hl.1; have : ¬ s.fl = 0 := (by simpa using cL); exact wrap_id (by omega) (by omega)) ?_
      refine rw_val (v := .pointer (some ⟨g, 5, none⟩)) (w' := w) rfl rfl rfl rfl (by simp [go_sem, sEv, sLook, nbeq, i64_w]) ?_
      refine rw_val (v := .pointer (some ⟨g, 6, none⟩)) (w' := w) rfl rfl rfl rfl (by simp [go_sem, sEv, sLook, nbeq, i64_w, Try.underlying74]) ?_
      have hb4 := hb
      refine rw_store (g := g) (i := 6) (l := [.int .i64 (s.fl - 1)]) (cs' := #[.slice A n c, .int .i64 s.sure, .int .i64 s.steps, .bool s.ps, .int .i64 s.pl, .bool s.fs, .int .i64 (s.fl - 1), .bool s.dn]) rfl rfl rfl hb4 rfl (by have e0_ := hb4.cellv (i := 6) (v := (.int .i64 s.fl : Value)) rfl; have f0_ := hb4.frozen 6; simp [go_sem, sEv, sLook, nbeq, i64_w, putCells, e0_, f0_]) ?_
      intro w1 hk2 hk3
      have hs_w1 := hk2.size
      refine rw_end ?_
      refine w_weaken (G' := [(2, .bool false)]) ⟨rfl, trivial⟩ ?_
      refine w_seq ?_
      refine w_region ?_
      refine rw_val (v := .bool false) (w' := w1) rfl rfl rfl rfl rfl ?_
      refine rw_end ?_
      refine w_ret (post_ret1 rfl rfl ?_)
      have d_ : duel s.fs s.fl = s.fl - 1 := by unfold duel; simp [cS, cL]
      have b_ : (s.fs && (s.fl == 0)) = false := by simp [cS, cL]
      rw [d_, b_]
      exact ⟨rfl, hk2, hk3⟩
end Go.Proofs.Ytiiljpaedelhlaa.Tp
namespace Go.Proofs.Ytiiljpaedelhlaa.Tp
open Go.RowKit Go.Proofs.YtiiljpaedelhlaaW.PrintWords Go.Proofs.YtiiljpaedelhlaaW.PrintLast Go.Proofs.YtiiljpaedelhlaaW.PrintMore
open Go.Proofs.Ytiiljpaedelhlaa.Flow
set_option linter.unusedVariables false
set_option linter.unusedSimpArgs false
set_option maxHeartbeats 4000000 in
theorem step_raw (w0 w : World) (g m : Nat) (x : Nat → Prop) (hx : ∀ q, x q → q < w.heap.size) (s : TS) (A : Option Addr) (n c : Nat) (hB : Below w0.heap.size w0 w) (hg0 : w0.heap.size ≤ g) (hm : g < m ∧ m ≤ w.heap.size) (hb : Blk w g 76 (tcells A n c s)) (hR : BR .u8 5 w w0.heap.size (fun q => g < q ∧ q < m ∧ ¬ x q) A n c s.xs) (hok : s.Ok)  :
    Calls Try.prog 50 #[.pointer (some ⟨g, 0, none⟩)] w fun e w' => e = .returned (errT s.err) ∧ TapeAt w0 w' g m x s.next ∧ w.heap.size ≤ w'.heap.size ∧ (∀ q, x q → q ≠ g → w'.heap[q]? = w.heap[q]?) ∧ Keep g w w' := by
  refine calls_flow Try.func50 rfl 39 rfl (Nat.le_of_ble_eq_true rfl) [(0, .pointer (some ⟨g, 0, none⟩))] ?_ ?_
  · intro t v h; exact args_look rfl t v h
  refine w_seq ?_
  refine w_region ?_
  refine rw_val (v := .nilIface) (w' := w) rfl rfl rfl rfl rfl ?_
  refine rw_end ?_
  refine w_seq ?_
  refine w_seq ?_
  refine w_region ?_
  refine rw_val (v := .pointer (some ⟨g, 0, none⟩)) (w' := w) rfl rfl rfl rfl rfl ?_
  refine rw_val (v := .bool false) (w' := w) rfl rfl rfl rfl (run_as (run_ptr_eql (e := 76) (by kernel_rfl) _ _)) ?_
  refine rw_val (v := .bool false) (w' := w) rfl rfl rfl rfl rfl ?_
  refine rw_gval (c := false) (v := .pointer (some ⟨g, 0, none⟩)) (w' := w) rfl rfl rfl rfl rfl rfl rfl (by rfl) ?_
  refine rw_gval (c := false) (v := .pointer (some ⟨g, 0, none⟩)) (w' := w) rfl rfl rfl rfl rfl rfl rfl (by simp [go_sem, sEv, sLook, nbeq, i64_w]) ?_
  refine rw_gval (c := false) (v := .pointer (some ⟨g, 7, none⟩)) (w' := w) rfl rfl rfl rfl rfl rfl rfl (by simp [go_sem, sEv, sLook, nbeq, i64_w, Try.underlying76]) ?_
  refine rw_gval (c := false) (v := .bool s.dn) (w' := w) rfl rfl rfl rfl rfl rfl rfl (by have eb_ := hb; have e0_ := eb_.cellv (i := 7) (v := (.bool s.dn : Value)) rfl; simp [go_sem, sEv, sLook, nbeq, i64_w, e0_]) ?_
  refine rw_val (v := .bool s.dn) (w' := w) rfl rfl rfl rfl (by simp [go_sem, sEv, sLook, nbeq, i64_w]) ?_
  refine rw_val (v := .bool s.dn) (w' := w) rfl rfl rfl rfl rfl ?_
  rcases bcase s.dn with cDn | cDn
  · refine rw_gval (c := s.dn) (v := .pointer (some ⟨g, 0, none⟩)) (w' := w) rfl rfl rfl (by simp [cDn]) rfl rfl rfl (by rfl) ?_
    refine rw_gval (c := s.dn) (v := .pointer (some ⟨g, 0, none⟩)) (w' := w) rfl rfl rfl (by simp [cDn]) rfl rfl rfl (by simp [go_sem, sEv, sLook, nbeq, i64_w]) ?_
    refine rw_gval (c := s.dn) (v := .pointer (some ⟨g, 3, none⟩)) (w' := w) rfl rfl rfl (by simp [cDn]) rfl rfl rfl (by simp [go_sem, sEv, sLook, nbeq, i64_w, Try.underlying76]) ?_
    refine rw_gcall (c := s.dn) rfl rfl rfl (by simp [cDn]) rfl rfl rfl (f := 58) (args := #[.pointer (some ⟨g, 3, none⟩)]) (by simp [go_sem, sEv, sLook, nbeq, i64_w]) (due3_calls w g ⟨s.xs, s.sure, s.steps, s.ps, s.pl, s.fs, s.fl, s.dn⟩ A n c hb hok.pl) ?_
    rintro e_ w1 ⟨rfl, hk2, hb3⟩
    refine ⟨.bool (s.ps && (s.pl == 0)), rfl, ?_⟩
    have hs_w1 := hk2.size
    refine rw_val (v := .bool (s.ps && (s.pl == 0))) (w' := w1) rfl rfl rfl rfl (by simp [go_sem, sEv, sLook, nbeq, i64_w, cDn]) ?_
    refine rw_end ?_
    refine w_weaken (G' := [(0, .pointer (some ⟨g, 0, none⟩)), (2, .nilIface), (16, .bool (s.ps && (s.pl == 0)))]) ⟨rfl, rfl, rfl, trivial⟩ ?_
    refine w_cond rfl rfl (fun cP => ?_) (fun cP => ?_)
    · refine w_seq ?_
      refine w_seq ?_
      refine w_region ?_
      refine rw_val (v := .pointer (some ⟨g, 0, none⟩)) (w' := w1) rfl rfl rfl rfl rfl ?_
      refine rw_val (v := .bool true) (w' := w1) rfl rfl rfl rfl (run_as (run_ptr_neq (e := 76) (by kernel_rfl) _ _)) ?_
      refine rw_end ?_
      refine w_cond_t rfl rfl rfl ?_
      refine w_region ?_
      refine rw_val (v := .pointer (some ⟨g, 0, none⟩)) (w' := w1) rfl rfl rfl rfl rfl ?_
      refine rw_val (v := .pointer (some ⟨g, 0, none⟩)) (w' := w1) rfl rfl rfl rfl (by simp [go_sem, sEv, sLook, nbeq, i64_w]) ?_
      refine rw_val (v := .pointer (some ⟨g, 7, none⟩)) (w' := w1) rfl rfl rfl rfl (by simp [go_sem, sEv, sLook, nbeq, i64_w, Try.underlying76]) ?_
      have hb7 := hb3
      refine rw_store (g := g) (i := 7) (l := [.bool true]) (cs' := #[.slice A n c, .int .i64 s.sure, .int .i64 s.steps, .bool s.ps, .int .i64 (duel s.ps s.pl), .bool s.fs, .int .i64 s.fl, .bool true]) rfl rfl rfl hb7 rfl (by have e0_ := hb7.cellv (i := 7) (v := (.bool s.dn : Value)) rfl; have f0_ := hb7.frozen 7; simp [go_sem, sEv, sLook, nbeq, i64_w, putCells, e0_, f0_]) ?_
      intro w4 hk5 hk6
      have hs_w4 := hk5.size
      refine rw_end ?_
      refine w_weaken (G' := [(0, .pointer (some ⟨g, 0, none⟩)), (2, .nilIface)]) ⟨rfl, rfl, trivial⟩ ?_
      refine w_seq ?_
      refine w_region ?_
      refine rw_val (v := errT (some 5)) (w' := w4) rfl rfl rfl rfl (by simp [go_sem, sEv, sLook, nbeq, i64_w, errT]) ?_
      refine rw_val (v := errT (some 5)) (w' := w4) rfl rfl rfl rfl rfl ?_
      refine rw_end ?_
      refine w_ret (post_ret1 rfl rfl ?_)
      have e1_ : s.err = some 5 := by unfold TS.err; simp [cDn, cP]
      rw [e1_]
      have e2_ : s.next = ⟨s.xs, s.sure, s.steps, s.ps, duel s.ps s.pl, s.fs, s.fl, true⟩ := by have d_ : duel s.ps s.pl = s.pl := (by unfold duel; simp at cP; simp [cP]); rw [TS.next, if_neg (by simp [cDn]), if_pos cP, d_]
      rw [e2_]
      refine ⟨rfl, TapeAt.mkm (s := ⟨s.xs, s.sure, s.steps, s.ps, duel s.ps s.pl, s.fs, s.fl, true⟩) (hk5.below (by omega) (hk2.below (by omega) hB)) hg0 hk6 (BR.step (BR.step hR (fun q hq _ => hk2.block q (by have := hq.1; omega))) (fun q hq _ => hk5.block q (by have := hq.1; omega))) (fun q hq => hq) ⟨by omega, by omega⟩, by omega, (fun q hxq hxg => ((hk5.block q hxg).trans (hk2.block q hxg))), (hk2.trans hk5)⟩
    · refine w_skip ?_
      refine w_seq ?_
      refine w_region ?_
      refine rw_val (v := .pointer (some ⟨g, 0, none⟩)) (w' := w1) rfl rfl rfl rfl rfl ?_
      refine rw_val (v := .pointer (some ⟨g, 0, none⟩)) (w' := w1) rfl rfl rfl rfl (by simp [go_sem, sEv, sLook, nbeq, i64_w]) ?_
      refine rw_val (v := .pointer (some ⟨g, 2, none⟩)) (w' := w1) rfl rfl rfl rfl (by simp [go_sem, sEv, sLook, nbeq, i64_w, Try.underlying76]) ?_
      refine rw_val (v := .int .i64 s.steps) (w' := w1) rfl rfl rfl rfl (by have eb_ := hb3; have e0_ := eb_.cellv (i := 2) (v := (.int .i64 s.steps : Value)) rfl; simp [go_sem, sEv, sLook, nbeq, i64_w, e0_]) ?_
      refine rw_val (v := .int .i64 (s.steps + 1)) (w' := w1) rfl rfl rfl rfl (by simp [go_sem, sEv, sLook, nbeq, i64_w]; have := hok.steps; exact wrap_id (by omega) (by omega)) ?_
      refine rw_val (v := .pointer (some ⟨g, 0, none⟩)) (w' := w1) rfl rfl rfl rfl (by simp [go_sem, sEv, sLook, nbeq, i64_w]) ?_
      refine rw_val (v := .pointer (some ⟨g, 2, none⟩)) (w' := w1) rfl rfl rfl rfl (by simp [go_sem, sEv, sLook, nbeq, i64_w, Try.underlying76]) ?_
      have hb11 := hb3
      refine rw_store (g := g) (i := 2) (l := [.int .i64 (s.steps + 1)]) (cs' := #[.slice A n c, .int .i64 s.sure, .int .i64 (s.steps + 1), .bool s.ps, .int .i64 (duel s.ps s.pl), .bool s.fs, .int .i64 s.fl, .bool s.dn]) rfl rfl rfl hb11 rfl (by have e0_ := hb11.cellv (i := 2) (v := (.int .i64 s.steps : Value)) rfl; have f0_ := hb11.frozen 2; simp [go_sem, sEv, sLook, nbeq, i64_w, putCells, e0_, f0_]) ?_
      intro w8 hk9 hk10
      have hs_w8 := hk9.size
      refine rw_end ?_
      refine w_weaken (G' := [(0, .pointer (some ⟨g, 0, none⟩)), (2, .nilIface)]) ⟨rfl, rfl, trivial⟩ ?_
      refine w_seq ?_
      refine w_seq ?_
      refine w_region ?_
      refine rw_val (v := .pointer (some ⟨g, 0, none⟩)) (w' := w8) rfl rfl rfl rfl rfl ?_
      refine rw_val (v := .pointer (some ⟨g, 0, none⟩)) (w' := w8) rfl rfl rfl rfl (by simp [go_sem, sEv, sLook, nbeq, i64_w]) ?_
      refine rw_val (v := .pointer (some ⟨g, 5, none⟩)) (w' := w8) rfl rfl rfl rfl (by simp [go_sem, sEv, sLook, nbeq, i64_w, Try.underlying76]) ?_
      refine rw_call rfl rfl rfl rfl (f := 58) (args := #[.pointer (some ⟨g, 5, none⟩)]) (by simp [go_sem, sEv, sLook, nbeq, i64_w]) (due5_calls w8 g ⟨s.xs, s.sure, s.steps + 1, s.ps, duel s.ps s.pl, s.fs, s.fl, s.dn⟩ A n c hk10 hok.fl) ?_
      rintro e_ w12 ⟨rfl, hk13, hb14⟩
      refine ⟨.bool (s.fs && (s.fl == 0)), rfl, ?_⟩
      have hs_w12 := hk13.size
      refine rw_end ?_
      refine w_weaken (G' := [(0, .pointer (some ⟨g, 0, none⟩)), (2, .nilIface), (33, .bool (s.fs && (s.fl == 0)))]) ⟨rfl, rfl, rfl, trivial⟩ ?_
      refine w_cond rfl rfl (fun cF => ?_) (fun cF => ?_)
      · refine w_seq ?_
        refine w_region ?_
        refine rw_val (v := .pointer (some ⟨g, 0, none⟩)) (w' := w12) rfl rfl rfl rfl rfl ?_
        refine rw_val (v := .agg #[.bool false, .int .i64 0]) (w' := w12) rfl rfl rfl rfl (by kernel_rfl) ?_
        refine rw_val (v := .pointer (some ⟨g, 0, none⟩)) (w' := w12) rfl rfl rfl rfl (by simp [go_sem, sEv, sLook, nbeq, i64_w]) ?_
        refine rw_val (v := .pointer (some ⟨g, 5, none⟩)) (w' := w12) rfl rfl rfl rfl (by simp [go_sem, sEv, sLook, nbeq, i64_w, Try.underlying76]) ?_
        have hb18 := hb14
        refine rw_store (g := g) (i := 5) (l := [.bool false, .int .i64 0]) (cs' := #[.slice A n c, .int .i64 s.sure, .int .i64 (s.steps + 1), .bool s.ps, .int .i64 (duel s.ps s.pl), .bool false, .int .i64 0, .bool s.dn]) rfl rfl rfl hb18 rfl (by have e0_ := hb18.cellv (i := 5) (v := (.bool s.fs : Value)) rfl; have f0_ := hb18.frozen 5; have e1_ := hb18.cellv (i := 6) (v := (.int .i64 (duel s.fs s.fl) : Value)) rfl; have f1_ := hb18.frozen 6; simp [go_sem, sEv, sLook, nbeq, i64_w, putCells, e0_, f0_, e1_, f1_, Try.underlying74]) ?_
        intro w15 hk16 hk17
        have hs_w15 := hk16.size
        refine rw_end ?_
        refine w_weaken (G' := [(2, .nilIface)]) ⟨rfl, trivial⟩ ?_
        refine w_seq ?_
        refine w_region ?_
        refine rw_val (v := errT (some 6)) (w' := w15) rfl rfl rfl rfl (by simp [go_sem, sEv, sLook, nbeq, i64_w, errT]) ?_
        refine rw_val (v := errT (some 6)) (w' := w15) rfl rfl rfl rfl rfl ?_
        refine rw_end ?_
        refine w_ret (post_ret1 rfl rfl ?_)
        have e1_ : s.err = some 6 := by unfold TS.err; simp [cDn, cP, cF]
        rw [e1_]
        have e2_ : s.next = ⟨s.xs, s.sure, s.steps + 1, s.ps, duel s.ps s.pl, false, 0, s.dn⟩ := by rw [TS.next, if_neg (by simp [cDn]), if_neg (by rw [cP]; decide), if_pos cF]
        rw [e2_]
        refine ⟨rfl, TapeAt.mkm (s := ⟨s.xs, s.sure, s.steps + 1, s.ps, duel s.ps s.pl, false, 0, s.dn⟩) (hk16.below (by omega) (hk13.below (by omega) (hk9.below (by omega) (hk2.below (by omega) hB)))) hg0 hk17 (BR.step (BR.step (BR.step (BR.step hR (fun q hq _ => hk2.block q (by have := hq.1; omega))) (fun q hq _ => hk9.block q (by have := hq.1; omega))) (fun q hq _ => hk13.block q (by have := hq.1; omega))) (fun q hq _ => hk16.block q (by have := hq.1; omega))) (fun q hq => hq) ⟨by omega, by omega⟩, by omega, (fun q hxq hxg => ((hk16.block q hxg).trans ((hk13.block q hxg).trans ((hk9.block q hxg).trans (hk2.block q hxg))))), (((hk2.trans hk9).trans hk13).trans hk16)⟩
      · refine w_skip ?_
        refine w_seq ?_
        refine w_region ?_
        refine rw_val (v := .nilIface) (w' := w12) rfl rfl rfl rfl rfl ?_
        refine rw_end ?_
        refine w_ret (post_ret1 rfl rfl ?_)
        have e1_ : s.err = none := by unfold TS.err; simp [cDn, cP, cF]
        rw [e1_]
        have e2_ : s.next = ⟨s.xs, s.sure, s.steps + 1, s.ps, duel s.ps s.pl, s.fs, duel s.fs s.fl, s.dn⟩ := by rw [TS.next, if_neg (by simp [cDn]), if_neg (by rw [cP]; decide), if_neg (by rw [cF]; decide)]
        rw [e2_]
        refine ⟨rfl, TapeAt.mkm (s := ⟨s.xs, s.sure, s.steps + 1, s.ps, duel s.ps s.pl, s.fs, duel s.fs s.fl, s.dn⟩) (hk13.below (by omega) (hk9.below (by omega) (hk2.below (by omega) hB))) hg0 hb14 (BR.step (BR.step (BR.step hR (fun q hq _ => hk2.block q (by have := hq.1; omega))) (fun q hq _ => hk9.block q (by have := hq.1; omega))) (fun q hq _ => hk13.block q (by have := hq.1; omega))) (fun q hq => hq) ⟨by omega, by omega⟩, by omega, (fun q hxq hxg => ((hk13.block q hxg).trans ((hk9.block q hxg).trans (hk2.block q hxg)))), ((hk2.trans hk9).trans hk13)⟩
  · refine rw_off (c := s.dn) rfl rfl rfl (by simp [cDn]) rfl rfl ?_
    refine rw_off (c := s.dn) rfl rfl rfl (by simp [cDn]) rfl rfl ?_
    refine rw_off (c := s.dn) rfl rfl rfl (by simp [cDn]) rfl rfl ?_
    refine rw_off (c := s.dn) rfl rfl rfl (by simp [cDn]) rfl rfl ?_
    refine rw_val (v := .bool true) (w' := w) rfl rfl rfl rfl (by simp [go_sem, sEv, sLook, nbeq, i64_w, cDn]) ?_
    refine rw_end ?_
    refine w_weaken (G' := [(0, .pointer (some ⟨g, 0, none⟩)), (2, .nilIface), (16, .bool true)]) ⟨rfl, rfl, rfl, trivial⟩ ?_
    refine w_cond_t rfl rfl rfl ?_
    refine w_seq ?_
    refine w_seq ?_
    refine w_region ?_
    refine rw_val (v := .pointer (some ⟨g, 0, none⟩)) (w' := w) rfl rfl rfl rfl rfl ?_
    refine rw_val (v := .bool true) (w' := w) rfl rfl rfl rfl (run_as (run_ptr_neq (e := 76) (by kernel_rfl) _ _)) ?_
    refine rw_end ?_
    refine w_cond_t rfl rfl rfl ?_
    refine w_region ?_
    refine rw_val (v := .pointer (some ⟨g, 0, none⟩)) (w' := w) rfl rfl rfl rfl rfl ?_
    refine rw_val (v := .pointer (some ⟨g, 0, none⟩)) (w' := w) rfl rfl rfl rfl (by simp [go_sem, sEv, sLook, nbeq, i64_w]) ?_
    refine rw_val (v := .pointer (some ⟨g, 7, none⟩)) (w' := w) rfl rfl rfl rfl (by simp [go_sem, sEv, sLook, nbeq, i64_w, Try.underlying76]) ?_
    have hb22 := hb
    refine rw_store (g := g) (i := 7) (l := [.bool true]) (cs' := #[.slice A n c, .int .i64 s.sure, .int .i64 s.steps, .bool s.ps, .int .i64 s.pl, .bool s.fs, .int .i64 s.fl, .bool true]) rfl rfl rfl hb22 rfl (by have e0_ := hb22.cellv (i := 7) (v := (.bool s.dn : Value)) rfl; have f0_ := hb22.frozen 7; simp [go_sem, sEv, sLook, nbeq, i64_w, putCells, e0_, f0_]) ?_
    intro w19 hk20 hk21
    have hs_w19 := hk20.size
    refine rw_end ?_
    refine w_weaken (G' := [(0, .pointer (some ⟨g, 0, none⟩)), (2, .nilIface)]) ⟨rfl, rfl, trivial⟩ ?_
    refine w_seq ?_
    refine w_region ?_
    refine rw_val (v := errT (some 5)) (w' := w19) rfl rfl rfl rfl (by simp [go_sem, sEv, sLook, nbeq, i64_w, errT]) ?_
    refine rw_val (v := errT (some 5)) (w' := w19) rfl rfl rfl rfl rfl ?_
    refine rw_end ?_
    refine w_ret (post_ret1 rfl rfl ?_)
    have e1_ : s.err = some 5 := by unfold TS.err; simp [cDn]
    rw [e1_]
    have e2_ : s.next = ⟨s.xs, s.sure, s.steps, s.ps, s.pl, s.fs, s.fl, true⟩ := by rw [TS.next, if_pos cDn]; cases s; simp only at cDn; subst cDn; rfl
    rw [e2_]
    refine ⟨rfl, TapeAt.mkm (s := ⟨s.xs, s.sure, s.steps, s.ps, s.pl, s.fs, s.fl, true⟩) (hk20.below (by omega) hB) hg0 hk21 (BR.step hR (fun q hq _ => hk20.block q (by have := hq.1; omega))) (fun q hq => hq) ⟨by omega, by omega⟩, by omega, (fun q hxq hxg => (hk20.block q hxg)), hk20⟩
set_option maxHeartbeats 4000000 in
theorem steps_raw (w0 w : World) (g m : Nat) (x : Nat → Prop) (hx : ∀ q, x q → q < w.heap.size) (s : TS) (A : Option Addr) (n c : Nat) (hB : Below w0.heap.size w0 w) (hg0 : w0.heap.size ≤ g) (hm : g < m ∧ m ≤ w.heap.size) (hb : Blk w g 76 (tcells A n c s)) (hR : BR .u8 5 w w0.heap.size (fun q => g < q ∧ q < m ∧ ¬ x q) A n c s.xs) (hok : s.Ok) :
    Calls Try.prog 24 #[.pointer (some ⟨g, 0, none⟩)] w fun e w' => e = .returned (.int .i64 s.steps) ∧ w = w' := by
  refine calls_flow Try.func24 rfl 9 rfl (Nat.le_of_ble_eq_true rfl) [(0, .pointer (some ⟨g, 0, none⟩))] ?_ ?_
  · intro t v h; exact args_look rfl t v h
  refine w_seq ?_
  refine w_region ?_
  refine rw_val (v := .int .i64 0) (w' := w) rfl rfl rfl rfl rfl ?_
  refine rw_end ?_
  refine w_seq ?_
  refine w_seq ?_
  refine w_region ?_
  refine rw_val (v := .pointer (some ⟨g, 0, none⟩)) (w' := w) rfl rfl rfl rfl rfl ?_
  refine rw_val (v := .bool false) (w' := w) rfl rfl rfl rfl (run_as (run_ptr_eql (e := 76) (by kernel_rfl) _ _)) ?_
  refine rw_end ?_
  refine w_cond_f rfl rfl rfl ?_
  refine w_skip ?_
  refine w_seq ?_
  refine w_region ?_
  refine rw_val (v := .pointer (some ⟨g, 0, none⟩)) (w' := w) rfl rfl rfl rfl rfl ?_
  refine rw_val (v := .pointer (some ⟨g, 0, none⟩)) (w' := w) rfl rfl rfl rfl (by simp [go_sem, sEv, sLook, nbeq, i64_w]) ?_
  refine rw_val (v := .pointer (some ⟨g, 2, none⟩)) (w' := w) rfl rfl rfl rfl (by simp [go_sem, sEv, sLook, nbeq, i64_w, Try.underlying76]) ?_
  refine rw_val (v := .int .i64 s.steps) (w' := w) rfl rfl rfl rfl (by have eb_ := hb; have e0_ := eb_.cellv (i := 2) (v := (.int .i64 s.steps : Value)) rfl; simp [go_sem, sEv, sLook, nbeq, i64_w, e0_]) ?_
  refine rw_val (v := .int .i64 s.steps) (w' := w) rfl rfl rfl rfl rfl ?_
  refine rw_end ?_
  refine w_weaken (G' := [(2, .int .i64 s.steps)]) ⟨rfl, trivial⟩ ?_
  refine w_ret (post_ret1 rfl rfl ?_)
  exact ⟨rfl, rfl⟩
theorem steps_T (w0 w : World) (g m : Nat) (x : Nat → Prop) (hx : ∀ q, x q → q < w.heap.size) (s : TS) (hT : TapeAt w0 w g m x s) (hok : s.Ok) : Calls Try.prog 24 #[.pointer (some ⟨g, 0, none⟩)] w fun e w' => e = .returned (.int .i64 s.steps) ∧ w = w' := by
  obtain ⟨hB, hg0, hm, A, n, c, hb, hR⟩ := hT
  exact steps_raw w0 w g m x hx s A n c hB hg0 hm hb hR hok
set_option maxHeartbeats 4000000 in
theorem down_raw (w0 w : World) (g m : Nat) (x : Nat → Prop) (hx : ∀ q, x q → q < w.heap.size) (s : TS) (A : Option Addr) (n c : Nat) (hB : Below w0.heap.size w0 w) (hg0 : w0.heap.size ≤ g) (hm : g < m ∧ m ≤ w.heap.size) (hb : Blk w g 76 (tcells A n c s)) (hR : BR .u8 5 w w0.heap.size (fun q => g < q ∧ q < m ∧ ¬ x q) A n c s.xs) (hok : s.Ok) :
    Calls Try.prog 35 #[.pointer (some ⟨g, 0, none⟩)] w fun e w' => e = .returned (.bool s.dn) ∧ w = w' := by
  refine calls_flow Try.func35 rfl 11 rfl (Nat.le_of_ble_eq_true rfl) [(0, .pointer (some ⟨g, 0, none⟩))] ?_ ?_
  · intro t v h; exact args_look rfl t v h
  refine w_seq ?_
  refine w_region ?_
  refine rw_val (v := .bool false) (w' := w) rfl rfl rfl rfl rfl ?_
  refine rw_end ?_
  refine w_seq ?_
  refine w_region ?_
  refine rw_val (v := .pointer (some ⟨g, 0, none⟩)) (w' := w) rfl rfl rfl rfl rfl ?_
  refine rw_val (v := .bool false) (w' := w) rfl rfl rfl rfl (run_as (run_ptr_eql (e := 76) (by kernel_rfl) _ _)) ?_
  refine rw_val (v := .bool false) (w' := w) rfl rfl rfl rfl rfl ?_
  refine rw_gval (c := false) (v := .pointer (some ⟨g, 0, none⟩)) (w' := w) rfl rfl rfl rfl rfl rfl rfl (by rfl) ?_
  refine rw_gval (c := false) (v := .pointer (some ⟨g, 0, none⟩)) (w' := w) rfl rfl rfl rfl rfl rfl rfl (by simp [go_sem, sEv, sLook, nbeq, i64_w]) ?_
  refine rw_gval (c := false) (v := .pointer (some ⟨g, 7, none⟩)) (w' := w) rfl rfl rfl rfl rfl rfl rfl (by simp [go_sem, sEv, sLook, nbeq, i64_w, Try.underlying76]) ?_
  refine rw_gval (c := false) (v := .bool s.dn) (w' := w) rfl rfl rfl rfl rfl rfl rfl (by have eb_ := hb; have e0_ := eb_.cellv (i := 7) (v := (.bool s.dn : Value)) rfl; simp [go_sem, sEv, sLook, nbeq, i64_w, e0_]) ?_
  refine rw_val (v := .bool s.dn) (w' := w) rfl rfl rfl rfl (by simp [go_sem, sEv, sLook, nbeq, i64_w]) ?_
  refine rw_val (v := .bool s.dn) (w' := w) rfl rfl rfl rfl rfl ?_
  refine rw_end ?_
  refine w_weaken (G' := [(2, .bool s.dn)]) ⟨rfl, trivial⟩ ?_
  refine w_ret (post_ret1 rfl rfl ?_)
  exact ⟨rfl, rfl⟩
theorem down_T (w0 w : World) (g m : Nat) (x : Nat → Prop) (hx : ∀ q, x q → q < w.heap.size) (s : TS) (hT : TapeAt w0 w g m x s) (hok : s.Ok) : Calls Try.prog 35 #[.pointer (some ⟨g, 0, none⟩)] w fun e w' => e = .returned (.bool s.dn) ∧ w = w' := by
  obtain ⟨hB, hg0, hm, A, n, c, hb, hR⟩ := hT
  exact down_raw w0 w g m x hx s A n c hB hg0 hm hb hR hok
set_option maxHeartbeats 4000000 in
theorem length_raw (w0 w : World) (g m : Nat) (x : Nat → Prop) (hx : ∀ q, x q → q < w.heap.size) (s : TS) (A : Option Addr) (n c : Nat) (hB : Below w0.heap.size w0 w) (hg0 : w0.heap.size ≤ g) (hm : g < m ∧ m ≤ w.heap.size) (hb : Blk w g 76 (tcells A n c s)) (hR : BR .u8 5 w w0.heap.size (fun q => g < q ∧ q < m ∧ ¬ x q) A n c s.xs) (hok : s.Ok) :
    Calls Try.prog 53 #[.pointer (some ⟨g, 0, none⟩)] w fun e w' => e = .returned (.int .i64 (s.xs.length : Int)) ∧ w = w' := by
  refine calls_flow Try.func53 rfl 10 rfl (Nat.le_of_ble_eq_true rfl) [(0, .pointer (some ⟨g, 0, none⟩))] ?_ ?_
  · intro t v h; exact args_look rfl t v h
  refine w_seq ?_
  refine w_region ?_
  refine rw_val (v := .int .i64 0) (w' := w) rfl rfl rfl rfl rfl ?_
  refine rw_end ?_
  refine w_seq ?_
  refine w_seq ?_
  refine w_region ?_
  refine rw_val (v := .pointer (some ⟨g, 0, none⟩)) (w' := w) rfl rfl rfl rfl rfl ?_
  refine rw_val (v := .bool false) (w' := w) rfl rfl rfl rfl (run_as (run_ptr_eql (e := 76) (by kernel_rfl) _ _)) ?_
  refine rw_end ?_
  refine w_cond_f rfl rfl rfl ?_
  refine w_skip ?_
  refine w_seq ?_
  refine w_region ?_
  refine rw_val (v := .pointer (some ⟨g, 0, none⟩)) (w' := w) rfl rfl rfl rfl rfl ?_
  refine rw_val (v := .pointer (some ⟨g, 0, none⟩)) (w' := w) rfl rfl rfl rfl (by simp [go_sem, sEv, sLook, nbeq, i64_w]) ?_
  refine rw_val (v := .pointer (some ⟨g, 0, none⟩)) (w' := w) rfl rfl rfl rfl (by simp [go_sem, sEv, sLook, nbeq, i64_w, Try.underlying76]) ?_
  refine rw_val (v := .slice A n c) (w' := w) rfl rfl rfl rfl (by have eb_ := hb; have e0_ := eb_.cellv (i := 0) (v := (.slice A n c : Value)) rfl; simp [go_sem, sEv, sLook, nbeq, i64_w, e0_, Try.underlying32]) ?_
  refine rw_val (v := .int .i64 (s.xs.length : Int)) (w' := w) rfl rfl rfl rfl (by simp [go_sem, sEv, sLook, nbeq, i64_w]; rw [(BR.reads' hR).1]) ?_
  refine rw_val (v := .int .i64 (s.xs.length : Int)) (w' := w) rfl rfl rfl rfl rfl ?_
  refine rw_end ?_
  refine w_weaken (G' := [(2, .int .i64 (s.xs.length : Int))]) ⟨rfl, trivial⟩ ?_
  refine w_ret (post_ret1 rfl rfl ?_)
  exact ⟨rfl, rfl⟩
set_option maxHeartbeats 4000000 in
theorem arm_raw (w0 w : World) (g m : Nat) (x : Nat → Prop) (hx : ∀ q, x q → q < w.heap.size) (s : TS) (A : Option Addr) (n c : Nat) (hB : Below w0.heap.size w0 w) (hg0 : w0.heap.size ≤ g) (hm : g < m ∧ m ≤ w.heap.size) (hb : Blk w g 76 (tcells A n c s)) (hR : BR .u8 5 w w0.heap.size (fun q => g < q ∧ q < m ∧ ¬ x q) A n c s.xs) (hok : s.Ok) (k : Int) (cK : decide (k < 0) = false) :
    Calls Try.prog 19 #[.pointer (some ⟨g, 0, none⟩), .int .i64 k] w fun e w' => e = .returned .nilIface ∧ TapeAt w0 w' g w'.heap.size x ({ s with ps := true, pl := k }) ∧ w.heap.size ≤ w'.heap.size ∧ (∀ q, x q → q ≠ g → w'.heap[q]? = w.heap[q]?) := by
  refine calls_flow Try.func19 rfl 17 rfl (Nat.le_of_ble_eq_true rfl) [(0, .pointer (some ⟨g, 0, none⟩)), (1, .int .i64 k)] ?_ ?_
  · intro t v h; exact args_look rfl t v h
  refine w_seq ?_
  refine w_region ?_
  refine rw_val (v := .nilIface) (w' := w) rfl rfl rfl rfl rfl ?_
  refine rw_end ?_
  refine w_seq ?_
  refine w_seq ?_
  refine w_region ?_
  refine rw_val (v := .pointer (some ⟨g, 0, none⟩)) (w' := w) rfl rfl rfl rfl rfl ?_
  refine rw_val (v := .bool false) (w' := w) rfl rfl rfl rfl (run_as (run_ptr_eql (e := 76) (by kernel_rfl) _ _)) ?_
  refine rw_val (v := .bool false) (w' := w) rfl rfl rfl rfl rfl ?_
  refine rw_gval (c := false) (v := .int .i64 k) (w' := w) rfl rfl rfl rfl rfl rfl rfl (by rfl) ?_
  refine rw_gval (c := false) (v := .bool (decide (k < 0))) (w' := w) rfl rfl rfl rfl rfl rfl rfl (by simp [go_sem, sEv, sLook, nbeq, i64_w]) ?_
  refine rw_val (v := .bool (decide (k < 0))) (w' := w) rfl rfl rfl rfl (by simp [go_sem, sEv, sLook, nbeq, i64_w]) ?_
  refine rw_end ?_
  refine w_weaken (G' := [(0, .pointer (some ⟨g, 0, none⟩)), (1, .int .i64 k), (4, .nilIface), (10, .bool (decide (k < 0)))]) ⟨rfl, rfl, rfl, rfl, trivial⟩ ?_
  refine w_cond_f rfl rfl cK ?_
  refine w_skip ?_
  refine w_seq ?_
  refine w_region ?_
  refine rw_val (v := .pointer (some ⟨g, 0, none⟩)) (w' := w) rfl rfl rfl rfl rfl ?_
  refine rw_val (v := .int .i64 k) (w' := w) rfl rfl rfl rfl rfl ?_
  refine rw_val (v := .agg #[.bool true, .int .i64 k]) (w' := w) rfl rfl rfl rfl (by kernel_rfl) ?_
  refine rw_val (v := .pointer (some ⟨g, 0, none⟩)) (w' := w) rfl rfl rfl rfl (by simp [go_sem, sEv, sLook, nbeq, i64_w]) ?_
  refine rw_val (v := .pointer (some ⟨g, 3, none⟩)) (w' := w) rfl rfl rfl rfl (by simp [go_sem, sEv, sLook, nbeq, i64_w, Try.underlying76]) ?_
  have hb4 := hb
  refine rw_store (g := g) (i := 3) (l := [.bool true, .int .i64 k]) (cs' := #[.slice A n c, .int .i64 s.sure, .int .i64 s.steps, .bool true, .int .i64 k, .bool s.fs, .int .i64 s.fl, .bool s.dn]) rfl rfl rfl hb4 rfl (by have e0_ := hb4.cellv (i := 3) (v := (.bool s.ps : Value)) rfl; have f0_ := hb4.frozen 3; have e1_ := hb4.cellv (i := 4) (v := (.int .i64 s.pl : Value)) rfl; have f1_ := hb4.frozen 4; simp [go_sem, sEv, sLook, nbeq, i64_w, putCells, e0_, f0_, e1_, f1_, Try.underlying74]) ?_
  intro w1 hk2 hk3
  have hs_w1 := hk2.size
  refine rw_end ?_
  refine w_weaken (G' := [(4, .nilIface)]) ⟨rfl, trivial⟩ ?_
  refine w_seq ?_
  refine w_region ?_
  refine rw_val (v := .nilIface) (w' := w1) rfl rfl rfl rfl rfl ?_
  refine rw_end ?_
  refine w_ret (post_ret1 rfl rfl ?_)
  have e2_ : { s with ps := true, pl := k } = ⟨s.xs, s.sure, s.steps, true, k, s.fs, s.fl, s.dn⟩ := rfl
  rw [e2_]
  refine ⟨rfl, TapeAt.mk (s := ⟨s.xs, s.sure, s.steps, true, k, s.fs, s.fl, s.dn⟩) (hk2.below (by omega) hB) hg0 hk3 (BR.step hR (fun q hq _ => hk2.block q (by have := hq.1; omega))) (fun q hq => ⟨hq.1, hq.2.2⟩), by omega, (fun q hxq hxg => (hk2.block q hxg))⟩
theorem arm_T (w0 w : World) (g m : Nat) (x : Nat → Prop) (hx : ∀ q, x q → q < w.heap.size) (s : TS) (hT : TapeAt w0 w g m x s) (hok : s.Ok) (k : Int) (cK : decide (k < 0) = false) : Calls Try.prog 19 #[.pointer (some ⟨g, 0, none⟩), .int .i64 k] w fun e w' => e = .returned .nilIface ∧ TapeAt w0 w' g w'.heap.size x ({ s with ps := true, pl := k }) ∧ w.heap.size ≤ w'.heap.size ∧ (∀ q, x q → q ≠ g → w'.heap[q]? = w.heap[q]?) := by
  obtain ⟨hB, hg0, hm, A, n, c, hb, hR⟩ := hT
  exact arm_raw w0 w g m x hx s A n c hB hg0 hm hb hR hok k cK
set_option maxHeartbeats 4000000 in
theorem fail_raw (w0 w : World) (g m : Nat) (x : Nat → Prop) (hx : ∀ q, x q → q < w.heap.size) (s : TS) (A : Option Addr) (n c : Nat) (hB : Below w0.heap.size w0 w) (hg0 : w0.heap.size ≤ g) (hm : g < m ∧ m ≤ w.heap.size) (hb : Blk w g 76 (tcells A n c s)) (hR : BR .u8 5 w w0.heap.size (fun q => g < q ∧ q < m ∧ ¬ x q) A n c s.xs) (hok : s.Ok) (k : Int) (cK : decide (k < 0) = false) :
    Calls Try.prog 20 #[.pointer (some ⟨g, 0, none⟩), .int .i64 k] w fun e w' => e = .returned .nilIface ∧ TapeAt w0 w' g w'.heap.size x ({ s with fs := true, fl := k }) ∧ w.heap.size ≤ w'.heap.size ∧ (∀ q, x q → q ≠ g → w'.heap[q]? = w.heap[q]?) := by
  refine calls_flow Try.func20 rfl 17 rfl (Nat.le_of_ble_eq_true rfl) [(0, .pointer (some ⟨g, 0, none⟩)), (1, .int .i64 k)] ?_ ?_
  · intro t v h; exact args_look rfl t v h
  refine w_seq ?_
  refine w_region ?_
  refine rw_val (v := .nilIface) (w' := w) rfl rfl rfl rfl rfl ?_
  refine rw_end ?_
  refine w_seq ?_
  refine w_seq ?_
  refine w_region ?_
  refine rw_val (v := .pointer (some ⟨g, 0, none⟩)) (w' := w) rfl rfl rfl rfl rfl ?_
  refine rw_val (v := .bool false) (w' := w) rfl rfl rfl rfl (run_as (run_ptr_eql (e := 76) (by kernel_rfl) _ _)) ?_
  refine rw_val (v := .bool false) (w' := w) rfl rfl rfl rfl rfl ?_
  refine rw_gval (c := false) (v := .int .i64 k) (w' := w) rfl rfl rfl rfl rfl rfl rfl (by rfl) ?_
  refine rw_gval (c := false) (v := .bool (decide (k < 0))) (w' := w) rfl rfl rfl rfl rfl rfl rfl (by simp [go_sem, sEv, sLook, nbeq, i64_w]) ?_
  refine rw_val (v := .bool (decide (k < 0))) (w' := w) rfl rfl rfl rfl (by simp [go_sem, sEv, sLook, nbeq, i64_w]) ?_
  refine rw_end ?_
  refine w_weaken (G' := [(0, .pointer (some ⟨g, 0, none⟩)), (1, .int .i64 k), (4, .nilIface), (10, .bool (decide (k < 0)))]) ⟨rfl, rfl, rfl, rfl, trivial⟩ ?_
  refine w_cond_f rfl rfl cK ?_
  refine w_skip ?_
  refine w_seq ?_
  refine w_region ?_
  refine rw_val (v := .pointer (some ⟨g, 0, none⟩)) (w' := w) rfl rfl rfl rfl rfl ?_
  refine rw_val (v := .int .i64 k) (w' := w) rfl rfl rfl rfl rfl ?_
  refine rw_val (v := .agg #[.bool true, .int .i64 k]) (w' := w) rfl rfl rfl rfl (by kernel_rfl) ?_
  refine rw_val (v := .pointer (some ⟨g, 0, none⟩)) (w' := w) rfl rfl rfl rfl (by simp [go_sem, sEv, sLook, nbeq, i64_w]) ?_
  refine rw_val (v := .pointer (some ⟨g, 5, none⟩)) (w' := w) rfl rfl rfl rfl (by simp [go_sem, sEv, sLook, nbeq, i64_w, Try.underlying76]) ?_
  have hb4 := hb
  refine rw_store (g := g) (i := 5) (l := [.bool true, .int .i64 k]) (cs' := #[.slice A n c, .int .i64 s.sure, .int .i64 s.steps, .bool s.ps, .int .i64 s.pl, .bool true, .int .i64 k, .bool s.dn]) rfl rfl rfl hb4 rfl (by have e0_ := hb4.cellv (i := 5) (v := (.bool s.fs : Value)) rfl; have f0_ := hb4.frozen 5; have e1_ := hb4.cellv (i := 6) (v := (.int .i64 s.fl : Value)) rfl; have f1_ := hb4.frozen 6; simp [go_sem, sEv, sLook, nbeq, i64_w, putCells, e0_, f0_, e1_, f1_, Try.underlying74]) ?_
  intro w1 hk2 hk3
  have hs_w1 := hk2.size
  refine rw_end ?_
  refine w_weaken (G' := [(4, .nilIface)]) ⟨rfl, trivial⟩ ?_
  refine w_seq ?_
  refine w_region ?_
  refine rw_val (v := .nilIface) (w' := w1) rfl rfl rfl rfl rfl ?_
  refine rw_end ?_
  refine w_ret (post_ret1 rfl rfl ?_)
  have e2_ : { s with fs := true, fl := k } = ⟨s.xs, s.sure, s.steps, s.ps, s.pl, true, k, s.dn⟩ := rfl
  rw [e2_]
  refine ⟨rfl, TapeAt.mk (s := ⟨s.xs, s.sure, s.steps, s.ps, s.pl, true, k, s.dn⟩) (hk2.below (by omega) hB) hg0 hk3 (BR.step hR (fun q hq _ => hk2.block q (by have := hq.1; omega))) (fun q hq => ⟨hq.1, hq.2.2⟩), by omega, (fun q hxq hxg => (hk2.block q hxg))⟩
theorem fail_T (w0 w : World) (g m : Nat) (x : Nat → Prop) (hx : ∀ q, x q → q < w.heap.size) (s : TS) (hT : TapeAt w0 w g m x s) (hok : s.Ok) (k : Int) (cK : decide (k < 0) = false) : Calls Try.prog 20 #[.pointer (some ⟨g, 0, none⟩), .int .i64 k] w fun e w' => e = .returned .nilIface ∧ TapeAt w0 w' g w'.heap.size x ({ s with fs := true, fl := k }) ∧ w.heap.size ≤ w'.heap.size ∧ (∀ q, x q → q ≠ g → w'.heap[q]? = w.heap[q]?) := by
  obtain ⟨hB, hg0, hm, A, n, c, hb, hR⟩ := hT
  exact fail_raw w0 w g m x hx s A n c hB hg0 hm hb hR hok k cK
def TS.sync (s : TS) : TS := if s.err.isSome then s.next else { s.next with sure := (s.xs.length : Int) }
set_option maxHeartbeats 4000000 in
theorem sync_raw (w0 w : World) (g m : Nat) (x : Nat → Prop) (hx : ∀ q, x q → q < w.heap.size) (s : TS) (A : Option Addr) (n c : Nat) (hB : Below w0.heap.size w0 w) (hg0 : w0.heap.size ≤ g) (hm : g < m ∧ m ≤ w.heap.size) (hb : Blk w g 76 (tcells A n c s)) (hR : BR .u8 5 w w0.heap.size (fun q => g < q ∧ q < m ∧ ¬ x q) A n c s.xs) (hok : s.Ok)  :
    Calls Try.prog 40 #[.pointer (some ⟨g, 0, none⟩)] w fun e w' => e = .returned (errT s.err) ∧ TapeAt w0 w' g w'.heap.size x s.sync ∧ w.heap.size ≤ w'.heap.size ∧ (∀ q, x q → q ≠ g → w'.heap[q]? = w.heap[q]?) := by
  refine calls_flow Try.func40 rfl 17 rfl (Nat.le_of_ble_eq_true rfl) [(0, .pointer (some ⟨g, 0, none⟩))] ?_ ?_
  · intro t v h; exact args_look rfl t v h
  refine w_seq ?_
  refine w_region ?_
  refine rw_val (v := .nilIface) (w' := w) rfl rfl rfl rfl rfl ?_
  refine rw_end ?_
  refine w_seq ?_
  refine w_seq ?_
  refine w_region ?_
  refine rw_val (v := .pointer (some ⟨g, 0, none⟩)) (w' := w) rfl rfl rfl rfl rfl ?_
  refine rw_call rfl rfl rfl rfl (f := 50) (args := #[.pointer (some ⟨g, 0, none⟩)]) (by simp [go_sem, sEv, sLook, nbeq, i64_w]) (step_raw w0 w g m x (fun q h_ => by have := hx q h_; omega) s A n c hB hg0 ⟨by omega, by omega⟩ hb hR hok) ?_
  rintro e_ w1 ⟨rfl, hT2, hs3, _, hkp4⟩
  refine ⟨_, rfl, ?_⟩
  obtain ⟨hB5, hg6, hm7, A8, n9, c10, hb11, hR12⟩ := hT2
  refine rw_val (v := errT s.err) (w' := w1) rfl rfl rfl rfl rfl ?_
  refine rw_end ?_
  refine w_seq ?_
  refine w_region ?_
  refine rw_val (v := errT s.err) (w' := w1) rfl rfl rfl rfl rfl ?_
  refine rw_val (v := .bool s.err.isSome) (w' := w1) rfl rfl rfl rfl (run_as (guard_err_neq _ _ _)) ?_
  refine rw_end ?_
  refine w_cond rfl rfl (fun cE => ?_) (fun cE => ?_)
  · refine w_seq ?_
    refine w_region ?_
    refine rw_val (v := errT s.err) (w' := w1) rfl rfl rfl rfl rfl ?_
    refine rw_val (v := errT s.err) (w' := w1) rfl rfl rfl rfl rfl ?_
    refine rw_end ?_
    refine w_ret (post_ret1 rfl rfl ?_)
    rw [TS.sync, if_pos cE]
    have e2_ : s.next = ⟨s.next.xs, s.next.sure, s.next.steps, s.next.ps, s.next.pl, s.next.fs, s.next.fl, s.next.dn⟩ := rfl
    rw [e2_]
    refine ⟨rfl, TapeAt.mk (s := ⟨s.next.xs, s.next.sure, s.next.steps, s.next.ps, s.next.pl, s.next.fs, s.next.fl, s.next.dn⟩) hB5 hg0 hb11 hR12 (fun q hq => ⟨hq.1, hq.2.2⟩), by omega, (fun q hxq hxg => (hkp4.block q hxg))⟩
  · refine w_skip ?_
    refine w_seq ?_
    refine w_region ?_
    refine rw_val (v := .pointer (some ⟨g, 0, none⟩)) (w' := w1) rfl rfl rfl rfl rfl ?_
    refine rw_val (v := .pointer (some ⟨g, 0, none⟩)) (w' := w1) rfl rfl rfl rfl rfl ?_
    refine rw_val (v := .pointer (some ⟨g, 0, none⟩)) (w' := w1) rfl rfl rfl rfl (by simp [go_sem, sEv, sLook, nbeq, i64_w]) ?_
    refine rw_val (v := .pointer (some ⟨g, 0, none⟩)) (w' := w1) rfl rfl rfl rfl (by simp [go_sem, sEv, sLook, nbeq, i64_w, Try.underlying76]) ?_
    refine rw_val (v := .slice A8 n9 c10) (w' := w1) rfl rfl rfl rfl (by have eb_ := hb11; have e0_ := eb_.cellv (i := 0) (v := (.slice A8 n9 c10 : Value)) rfl; simp [go_sem, sEv, sLook, nbeq, i64_w, e0_, Try.underlying32]) ?_
    refine rw_val (v := .int .i64 (s.xs.length : Int)) (w' := w1) rfl rfl rfl rfl (by simp [go_sem, sEv, sLook, nbeq, i64_w]; rw [(BR.reads' hR12).1, TS.next_xs]) ?_
    refine rw_val (v := .pointer (some ⟨g, 0, none⟩)) (w' := w1) rfl rfl rfl rfl (by simp [go_sem, sEv, sLook, nbeq, i64_w]) ?_
    refine rw_val (v := .pointer (some ⟨g, 1, none⟩)) (w' := w1) rfl rfl rfl rfl (by simp [go_sem, sEv, sLook, nbeq, i64_w, Try.underlying76]) ?_
    have hb16 := hb11
    refine rw_store (g := g) (i := 1) (l := [.int .i64 (s.xs.length : Int)]) (cs' := #[.slice A8 n9 c10, .int .i64 (s.xs.length : Int), .int .i64 s.next.steps, .bool s.next.ps, .int .i64 s.next.pl, .bool s.next.fs, .int .i64 s.next.fl, .bool s.next.dn]) rfl rfl rfl hb16 rfl (by have e0_ := hb16.cellv (i := 1) (v := (.int .i64 s.next.sure : Value)) rfl; have f0_ := hb16.frozen 1; simp [go_sem, sEv, sLook, nbeq, i64_w, putCells, e0_, f0_]) ?_
    intro w13 hk14 hk15
    have hs_w13 := hk14.size
    refine rw_end ?_
    refine w_weaken (G' := [(2, .nilIface)]) ⟨rfl, trivial⟩ ?_
    refine w_seq ?_
    refine w_region ?_
    refine rw_val (v := .nilIface) (w' := w13) rfl rfl rfl rfl rfl ?_
    refine rw_end ?_
    refine w_ret (post_ret1 rfl rfl ?_)
    have e1_ : s.err = none := by simpa using cE
    rw [e1_, TS.sync, if_neg (by simp [e1_])]
    have e2_ : { s.next with sure := (s.xs.length : Int) } = ⟨s.next.xs, (s.xs.length : Int), s.next.steps, s.next.ps, s.next.pl, s.next.fs, s.next.fl, s.next.dn⟩ := rfl
    rw [e2_]
    refine ⟨rfl, TapeAt.mk (s := ⟨s.next.xs, (s.xs.length : Int), s.next.steps, s.next.ps, s.next.pl, s.next.fs, s.next.fl, s.next.dn⟩) (hk14.below (by omega) hB5) hg0 hk15 (BR.step hR12 (fun q hq _ => hk14.block q (by have := hq.1; omega))) (fun q hq => ⟨hq.1, hq.2.2⟩), by omega, (fun q hxq hxg => ((hk14.block q hxg).trans (hkp4.block q hxg)))⟩
theorem sync_T (w0 w : World) (g m : Nat) (x : Nat → Prop) (hx : ∀ q, x q → q < w.heap.size) (s : TS) (hT : TapeAt w0 w g m x s) (hok : s.Ok)  : Calls Try.prog 40 #[.pointer (some ⟨g, 0, none⟩)] w fun e w' => e = .returned (errT s.err) ∧ TapeAt w0 w' g w'.heap.size x s.sync ∧ w.heap.size ≤ w'.heap.size ∧ (∀ q, x q → q ≠ g → w'.heap[q]? = w.heap[q]?) := by
  obtain ⟨hB, hg0, hm, A, n, c, hb, hR⟩ := hT
  exact sync_raw w0 w g m x hx s A n c hB hg0 hm hb hR hok
set_option maxHeartbeats 4000000 in
theorem read_raw (w0 w : World) (g m : Nat) (x : Nat → Prop) (hx : ∀ q, x q → q < w.heap.size) (s : TS) (A : Option Addr) (n c : Nat) (hB : Below w0.heap.size w0 w) (hg0 : w0.heap.size ≤ g) (hm : g < m ∧ m ≤ w.heap.size) (hb : Blk w g 76 (tcells A n c s)) (hR : BR .u8 5 w w0.heap.size (fun q => g < q ∧ q < m ∧ ¬ x q) A n c s.xs) (hok : s.Ok) :
    Calls Try.prog 17 #[.pointer (some ⟨g, 0, none⟩)] w fun e w' => ∃ A' n' c', e = .returned (.slice A' n' c') ∧ Own .u8 5 w' w.heap.size w.heap.size A' n' c' s.xs ∧ Below w.heap.size w w' := by
  refine calls_flow Try.func17 rfl 10 rfl (Nat.le_of_ble_eq_true rfl) [(0, .pointer (some ⟨g, 0, none⟩))] ?_ ?_
  · intro t v h; exact args_look rfl t v h
  refine w_seq ?_
  refine w_region ?_
  refine rw_val (v := .slice none 0 0) (w' := w) rfl rfl rfl rfl rfl ?_
  refine rw_end ?_
  refine w_seq ?_
  refine w_seq ?_
  refine w_region ?_
  refine rw_val (v := .pointer (some ⟨g, 0, none⟩)) (w' := w) rfl rfl rfl rfl rfl ?_
  refine rw_val (v := .bool false) (w' := w) rfl rfl rfl rfl (run_as (run_ptr_eql (e := 76) (by kernel_rfl) _ _)) ?_
  refine rw_end ?_
  refine w_cond_f rfl rfl rfl ?_
  refine w_skip ?_
  refine w_seq ?_
  refine w_region ?_
  refine rw_val (v := .pointer (some ⟨g, 0, none⟩)) (w' := w) rfl rfl rfl rfl rfl ?_
  refine rw_val (v := .pointer (some ⟨g, 0, none⟩)) (w' := w) rfl rfl rfl rfl (by simp [go_sem, sEv, sLook, nbeq, i64_w]) ?_
  refine rw_val (v := .pointer (some ⟨g, 0, none⟩)) (w' := w) rfl rfl rfl rfl (by simp [go_sem, sEv, sLook, nbeq, i64_w, Try.underlying76]) ?_
  refine rw_val (v := .slice A n c) (w' := w) rfl rfl rfl rfl (by have e0_ := hb.cellv (i := 0) (v := .slice A n c) rfl; simp [go_sem, sEv, sLook, nbeq, i64_w, e0_]) ?_
  refine rw_call rfl rfl rfl rfl (f := 42) (args := #[.slice A n c]) (by simp [go_sem, sEv, sLook, nbeq, i64_w]) (clone_calls w A n c s.xs (show (Kd.int .u8).C w A n s.xs by rw [(BR.reads' hR).1]; exact (BR.reads' hR).2.2) (by have := hok.len; have := (BR.reads' hR).1; omega)) ?_
  rintro e_ w4 ⟨A1, n2, c3, rfl, hO5, hB6⟩
  refine ⟨_, rfl, ?_⟩
  have hs_w4 := hB6.size
  refine rw_val (v := .slice A1 n2 c3) (w' := w4) rfl rfl rfl rfl rfl ?_
  refine rw_end ?_
  refine w_weaken (G' := [(2, .slice A1 n2 c3)]) ⟨rfl, trivial⟩ ?_
  refine w_ret (post_ret1 rfl rfl ?_)
  exact ⟨_, _, _, rfl, hO5, hB6⟩
theorem read_T (w0 w : World) (g m : Nat) (x : Nat → Prop) (hx : ∀ q, x q → q < w.heap.size) (s : TS) (hT : TapeAt w0 w g m x s) (hok : s.Ok) : Calls Try.prog 17 #[.pointer (some ⟨g, 0, none⟩)] w fun e w' => ∃ A' n' c', e = .returned (.slice A' n' c') ∧ Own .u8 5 w' w.heap.size w.heap.size A' n' c' s.xs ∧ Below w.heap.size w w' := by
  obtain ⟨hB, hg0, hm, A, n, c, hb, hR⟩ := hT
  exact read_raw w0 w g m x hx s A n c hB hg0 hm hb hR hok
set_option maxHeartbeats 4000000 in
theorem new_T  (w : World) :
    Calls Try.prog 10 #[] w fun e w' => ∃ g, e = .returned (.pointer (some ⟨g, 0, none⟩)) ∧ TapeAt w w' g w'.heap.size (fun _ => False) TS.start ∧ w.heap.size ≤ w'.heap.size := by
  refine calls_flow Try.func10 rfl 3 rfl (Nat.le_of_ble_eq_true rfl) [] ?_ ?_
  · intro t v h; exact args_look rfl t v h
  refine w_seq ?_
  refine w_region ?_
  refine rw_val (v := .pointer none) (w' := w) rfl rfl rfl rfl rfl ?_
  refine rw_end ?_
  refine w_seq ?_
  refine w_region ?_
  refine rw_val (v := .agg #[.slice none 0 0, .int .i64 0, .int .i64 0, .bool false, .int .i64 0, .bool false, .int .i64 0, .bool false]) (w' := w) rfl rfl rfl rfl (by kernel_rfl) ?_
  refine rw_new (cs := #[.slice none 0 0, .int .i64 0, .int .i64 0, .bool false, .int .i64 0, .bool false, .int .i64 0, .bool false]) (t := 76) (fun g => .pointer (some ⟨g, 0, none⟩)) rfl rfl rfl rfl (by simp [go_sem, sEv, sLook, nbeq, i64_w]) ?_
  intro g1 w2 hg6 hz5 hb3 hk4
  have hs_w2 := hb3.size
  refine rw_val (v := .pointer (some ⟨g1, 0, none⟩)) (w' := w2) rfl rfl rfl rfl rfl ?_
  refine rw_end ?_
  refine w_ret (post_ret1 rfl rfl ?_)
  exact ⟨g1, rfl, TapeAt.mk (s := TS.start) (ok := fun q => False) hb3 (by omega) hk4 (BR.nil _ _ _ _ _) (fun q hq => hq.elim), by omega⟩
end Go.Proofs.Ytiiljpaedelhlaa.Tp
namespace Go.Proofs.Ytiiljpaedelhlaa.Tp
open Go.RowKit Go.Proofs.YtiiljpaedelhlaaW.PrintWords Go.Proofs.YtiiljpaedelhlaaW.PrintLast Go.Proofs.YtiiljpaedelhlaaW.PrintMore
open Go.Proofs.YtiiljpaedelhlaaW.PrintWords.Kd Go.Proofs.Ytiiljpaedelhlaa.Flow
set_option linter.unusedVariables false
set_option linter.unusedSimpArgs false
set_option maxHeartbeats 4000000 in
theorem replace_raw (w0 w : World) (g m : Nat) (x : Nat → Prop) (hx : ∀ q, x q → q < w.heap.size) (s : TS) (A : Option Addr) (n c : Nat) (hB : Below w0.heap.size w0 w) (hg0 : w0.heap.size ≤ g) (hm : g < m ∧ m ≤ w.heap.size) (hb : Blk w g 76 (tcells A n c s)) (hR : BR .u8 5 w w0.heap.size (fun q => g < q ∧ q < m ∧ ¬ x q) A n c s.xs) (hok : s.Ok) (P : Option Addr) (ys : List Int) (pc : Nat) (hP : ∀ W_, Kept w W_ (fun k => k = g) → (Kd.int .u8).C W_ P ys.length ys) :
    Calls Try.prog 37 #[.pointer (some ⟨g, 0, none⟩), .slice P ys.length pc] w fun e w' => e = .returned (errT (s.repE ys)) ∧ TapeAt w0 w' g w'.heap.size x (s.rep ys) ∧ w.heap.size ≤ w'.heap.size ∧ (∀ q, x q → q ≠ g → w'.heap[q]? = w.heap[q]?) ∧ Kept w w' (fun k => k = g) := by
  refine calls_flow Try.func37 rfl 25 rfl (Nat.le_of_ble_eq_true rfl) [(0, .pointer (some ⟨g, 0, none⟩)), (1, .slice P ys.length pc)] ?_ ?_
  · intro t v h; exact args_look rfl t v h
  refine w_seq ?_
  refine w_region ?_
  refine rw_val (v := .nilIface) (w' := w) rfl rfl rfl rfl rfl ?_
  refine rw_end ?_
  refine w_seq ?_
  refine w_seq ?_
  refine w_region ?_
  refine rw_val (v := .slice P ys.length pc) (w' := w) rfl rfl rfl rfl rfl ?_
  refine rw_val (v := .int .i64 (ys.length : Int)) (w' := w) rfl rfl rfl rfl (by simp [go_sem, sEv, sLook, nbeq, i64_w]) ?_
  refine rw_val (v := .bool (decide (1048576 < (ys.length : Int)))) (w' := w) rfl rfl rfl rfl (by simp [go_sem, sEv, sLook, nbeq, i64_w]) ?_
  refine rw_end ?_
  refine w_cond rfl rfl (fun cB => ?_) (fun cB => ?_)
  · refine w_seq ?_
    refine w_region ?_
    refine rw_val (v := errT (some 7)) (w' := w) rfl rfl rfl rfl (by simp [go_sem, sEv, sLook, nbeq, i64_w, errT]) ?_
    refine rw_val (v := errT (some 7)) (w' := w) rfl rfl rfl rfl rfl ?_
    refine rw_end ?_
    refine w_ret (post_ret1 rfl rfl ?_)
    have f_ := of_decide_eq_true cB
    rw [TS.repE, TS.rep, if_pos (by omega), if_pos (by omega)]
    have e2_ : s = ⟨s.xs, s.sure, s.steps, s.ps, s.pl, s.fs, s.fl, s.dn⟩ := rfl
    rw [e2_]
    refine ⟨rfl, TapeAt.mk (s := ⟨s.xs, s.sure, s.steps, s.ps, s.pl, s.fs, s.fl, s.dn⟩) hB hg0 hb hR (fun q hq => ⟨hq.1, hq.2.2⟩), by omega, (fun q hxq hxg => rfl), (Kept.refl _ _)⟩
  · refine w_skip ?_
    refine w_seq ?_
    refine w_seq ?_
    refine w_region ?_
    refine rw_val (v := .pointer (some ⟨g, 0, none⟩)) (w' := w) rfl rfl rfl rfl rfl ?_
    refine rw_call rfl rfl rfl rfl (f := 50) (args := #[.pointer (some ⟨g, 0, none⟩)]) (by simp [go_sem, sEv, sLook, nbeq, i64_w]) (step_raw w0 w g m x (fun q h_ => by have := hx q h_; omega) s A n c hB hg0 ⟨by omega, by omega⟩ hb hR hok) ?_
    rintro e_ w1 ⟨rfl, hT2, hs3, _, hkp4⟩
    refine ⟨_, rfl, ?_⟩
    obtain ⟨hB5, hg6, hm7, A8, n9, c10, hb11, hR12⟩ := hT2
    refine rw_val (v := errT s.err) (w' := w1) rfl rfl rfl rfl rfl ?_
    refine rw_end ?_
    refine w_seq ?_
    refine w_region ?_
    refine rw_val (v := errT s.err) (w' := w1) rfl rfl rfl rfl rfl ?_
    refine rw_val (v := .bool s.err.isSome) (w' := w1) rfl rfl rfl rfl (run_as (guard_err_neq _ _ _)) ?_
    refine rw_end ?_
    refine w_cond rfl rfl (fun cE => ?_) (fun cE => ?_)
    · refine w_seq ?_
      refine w_region ?_
      refine rw_val (v := errT s.err) (w' := w1) rfl rfl rfl rfl rfl ?_
      refine rw_val (v := errT s.err) (w' := w1) rfl rfl rfl rfl rfl ?_
      refine rw_end ?_
      refine w_ret (post_ret1 rfl rfl ?_)
      have f2_ := of_decide_eq_false cB
      rw [TS.repE, TS.rep, if_neg (by omega), if_neg (by omega)]
      rw [if_pos cE]
      have e2_ : s.next = ⟨s.next.xs, s.next.sure, s.next.steps, s.next.ps, s.next.pl, s.next.fs, s.next.fl, s.next.dn⟩ := rfl
      rw [e2_]
      refine ⟨rfl, TapeAt.mk (s := ⟨s.next.xs, s.next.sure, s.next.steps, s.next.ps, s.next.pl, s.next.fs, s.next.fl, s.next.dn⟩) hB5 hg0 hb11 hR12 (fun q hq => ⟨hq.1, hq.2.2⟩), by omega, (fun q hxq hxg => (hkp4.block q hxg)), (Keep.kept hkp4)⟩
    · refine w_skip ?_
      refine w_seq ?_
      refine w_region ?_
      refine rw_val (v := .pointer (some ⟨g, 0, none⟩)) (w' := w1) rfl rfl rfl rfl rfl ?_
      refine rw_val (v := .pointer (some ⟨g, 0, none⟩)) (w' := w1) rfl rfl rfl rfl rfl ?_
      refine rw_val (v := .slice P ys.length pc) (w' := w1) rfl rfl rfl rfl rfl ?_
      have hl19 := (hb11).lt
      have f_ := of_decide_eq_false cB
      refine rw_call rfl rfl rfl rfl (f := 42) (args := #[.slice P ys.length pc]) (by simp [go_sem, sEv, sLook, nbeq, i64_w]) (clone_calls w1 P ys.length pc ys (hP w1 (Keep.kept hkp4)) (by omega)) ?_
      rintro e_ w16 ⟨A13, n14, c15, rfl, hO17, hB18⟩
      refine ⟨_, rfl, ?_⟩
      have hs_w16 := hB18.size
      refine rw_val (v := .slice P ys.length pc) (w' := w16) rfl rfl rfl rfl rfl ?_
      refine rw_val (v := .int .i64 (ys.length : Int)) (w' := w16) rfl rfl rfl rfl (by simp [go_sem, sEv, sLook, nbeq, i64_w]) ?_
      refine rw_val (v := .pointer (some ⟨g, 0, none⟩)) (w' := w16) rfl rfl rfl rfl (by simp [go_sem, sEv, sLook, nbeq, i64_w]) ?_
      refine rw_val (v := .pointer (some ⟨g, 0, none⟩)) (w' := w16) rfl rfl rfl rfl (by simp [go_sem, sEv, sLook, nbeq, i64_w, Try.underlying76]) ?_
      have hb23 := (hb11.on hB18)
      refine rw_store (g := g) (i := 0) (l := [.slice A13 n14 c15]) (cs' := #[.slice A13 n14 c15, .int .i64 s.next.sure, .int .i64 s.next.steps, .bool s.next.ps, .int .i64 s.next.pl, .bool s.next.fs, .int .i64 s.next.fl, .bool s.next.dn]) rfl rfl rfl hb23 rfl (by have e0_ := hb23.cellv (i := 0) (v := (.slice A8 n9 c10 : Value)) rfl; have f0_ := hb23.frozen 0; simp [go_sem, sEv, sLook, nbeq, i64_w, putCells, e0_, f0_, Try.underlying32]) ?_
      intro w20 hk21 hk22
      have hs_w20 := hk21.size
      refine rw_val (v := .pointer (some ⟨g, 0, none⟩)) (w' := w20) rfl rfl rfl rfl (by simp [go_sem, sEv, sLook, nbeq, i64_w]) ?_
      refine rw_val (v := .pointer (some ⟨g, 1, none⟩)) (w' := w20) rfl rfl rfl rfl (by simp [go_sem, sEv, sLook, nbeq, i64_w, Try.underlying76]) ?_
      have hb27 := hk22
      refine rw_store (g := g) (i := 1) (l := [.int .i64 (ys.length : Int)]) (cs' := #[.slice A13 n14 c15, .int .i64 (ys.length : Int), .int .i64 s.next.steps, .bool s.next.ps, .int .i64 s.next.pl, .bool s.next.fs, .int .i64 s.next.fl, .bool s.next.dn]) rfl rfl rfl hb27 rfl (by have e0_ := hb27.cellv (i := 1) (v := (.int .i64 s.next.sure : Value)) rfl; have f0_ := hb27.frozen 1; simp [go_sem, sEv, sLook, nbeq, i64_w, putCells, e0_, f0_]) ?_
      intro w24 hk25 hk26
      have hs_w24 := hk25.size
      refine rw_end ?_
      refine w_weaken (G' := [(4, .nilIface)]) ⟨rfl, trivial⟩ ?_
      refine w_seq ?_
      refine w_region ?_
      refine rw_val (v := .nilIface) (w' := w24) rfl rfl rfl rfl rfl ?_
      refine rw_end ?_
      refine w_ret (post_ret1 rfl rfl ?_)
      have f2_ := of_decide_eq_false cB
      rw [TS.repE, TS.rep, if_neg (by omega), if_neg (by omega)]
      have e1_ : s.err = none := by simpa using cE
      rw [if_neg (by simp [e1_]), e1_]
      have e2_ : { s.next with xs := ys, sure := (ys.length : Int) } = ⟨ys, (ys.length : Int), s.next.steps, s.next.ps, s.next.pl, s.next.fs, s.next.fl, s.next.dn⟩ := rfl
      rw [e2_]
      refine ⟨rfl, TapeAt.mk (s := ⟨ys, (ys.length : Int), s.next.steps, s.next.ps, s.next.pl, s.next.fs, s.next.fl, s.next.dn⟩) (hk25.below (by omega) (hk21.below (by omega) (chain hB5 hB18))) hg0 hk26 (BR.step (BR.step (BR.lower (.inl hO17) (by omega)) (fun q hq _ => hk21.block q (by first | omega | (have := hq.1; omega)))) (fun q hq _ => hk25.block q (by first | omega | (have := hq.1; omega)))) (fun q hq => ⟨by omega, fun h_ => by have := hx q h_; omega⟩), by omega, (fun q hxq hxg => ((hk25.block q hxg).trans ((hk21.block q hxg).trans ((hB18.block q (by have := hx q hxq; omega)).trans (hkp4.block q hxg))))), (Kept.then_ (Kept.then_ (Kept.below (Keep.kept hkp4) hB18) (Keep.kept hk21) (fun _ h => .inl h)) (Keep.kept hk25) (fun _ h => .inl h))⟩
theorem replace_T (w0 w : World) (g m : Nat) (x : Nat → Prop) (hx : ∀ q, x q → q < w.heap.size) (s : TS) (hT : TapeAt w0 w g m x s) (hok : s.Ok) (P : Option Addr) (ys : List Int) (pc : Nat) (hP : ∀ W_, Kept w W_ (fun k => k = g) → (Kd.int .u8).C W_ P ys.length ys) : Calls Try.prog 37 #[.pointer (some ⟨g, 0, none⟩), .slice P ys.length pc] w fun e w' => e = .returned (errT (s.repE ys)) ∧ TapeAt w0 w' g w'.heap.size x (s.rep ys) ∧ w.heap.size ≤ w'.heap.size ∧ (∀ q, x q → q ≠ g → w'.heap[q]? = w.heap[q]?) ∧ Kept w w' (fun k => k = g) := by
  obtain ⟨hB, hg0, hm, A, n, c, hb, hR⟩ := hT
  exact replace_raw w0 w g m x hx s A n c hB hg0 hm hb hR hok P ys pc hP
set_option maxHeartbeats 4000000 in
theorem append_raw (w0 w : World) (g m : Nat) (x : Nat → Prop) (hx : ∀ q, x q → q < w.heap.size) (s : TS) (A : Option Addr) (n c : Nat) (hB : Below w0.heap.size w0 w) (hg0 : w0.heap.size ≤ g) (hm : g < m ∧ m ≤ w.heap.size) (hb : Blk w g 76 (tcells A n c s)) (hR : BR .u8 5 w w0.heap.size (fun q => g < q ∧ q < m ∧ ¬ x q) A n c s.xs) (hok : s.Ok) (P0 : Option Addr) (ps : List (List Int)) (pc : Nat) (hP : ∀ W_, Kept w W_ (fun k => k = g ∨ (g < k ∧ k < m ∧ ¬ x k)) → (Kd.slice 5 (Kd.int .u8)).C W_ P0 ps.length ps) (hn : ps.length ≤ 1000000) (hall : ∀ p ∈ ps, p.length ≤ 140737488355328) :
    Calls Try.prog 39 #[.pointer (some ⟨g, 0, none⟩), .slice P0 ps.length pc] w fun e w' => e = .returned (errT (s.appE ps.flatten)) ∧ TapeAt w0 w' g w'.heap.size x (s.app ps.flatten) ∧ w.heap.size ≤ w'.heap.size ∧ (∀ q, x q → q ≠ g → w'.heap[q]? = w.heap[q]?) := by
  refine calls_flow Try.func39 rfl 48 rfl (Nat.le_of_ble_eq_true rfl) [(0, .pointer (some ⟨g, 0, none⟩)), (1, .slice P0 ps.length pc)] ?_ ?_
  · intro t v h; exact args_look rfl t v h
  refine w_seq ?_
  refine w_region ?_
  refine rw_val (v := .nilIface) (w' := w) rfl rfl rfl rfl rfl ?_
  refine rw_end ?_
  refine w_seq ?_
  refine w_region ?_
  refine rw_val (v := .pointer (some ⟨g, 0, none⟩)) (w' := w) rfl rfl rfl rfl rfl ?_
  refine rw_call rfl rfl rfl rfl (f := 53) (args := #[.pointer (some ⟨g, 0, none⟩)]) (by simp [go_sem, sEv, sLook, nbeq, i64_w, -List.length_flatten]) (length_raw w0 w g m x (fun q h_ => by have := hx q h_; omega) s A n c hB hg0 hm hb hR hok) ?_
  rintro e_ w1 ⟨rfl, rfl⟩
  refine ⟨_, rfl, ?_⟩
  refine rw_val (v := .int .i64 (s.xs.length : Int)) (w' := w) rfl rfl rfl rfl rfl ?_
  refine rw_end ?_
  refine w_seq ?_
  refine w_seq ?_
  refine w_region ?_
  refine rw_val (v := .slice P0 ps.length pc) (w' := w) rfl rfl rfl rfl rfl ?_
  refine rw_val (v := .int .i64 (ps.length : Int)) (w' := w) rfl rfl rfl rfl (by simp [go_sem, sEv, sLook, nbeq, i64_w, -List.length_flatten]) ?_
  refine rw_val (v := .int .i64 0) (w' := w) rfl rfl rfl rfl rfl ?_
  refine rw_end ?_
  refine w_block ?_
  have hlen_ := hok.len
  refine w_loop (fun m_ G W_ => ∃ i : Nat, i + m_ = ps.length ∧ s.xs.length + (ps.take i).flatten.length ≤ 1048576 ∧ w = W_ ∧ G = [(0, .pointer (some ⟨g, 0, none⟩)), (1, .slice P0 ps.length pc), (4, .nilIface), (5, .int .i64 ((s.xs.length + (ps.take i).flatten.length : Nat) : Int)), (13, .slice P0 ps.length pc), (14, .int .i64 (ps.length : Int)), (15, .int .i64 (i : Int))]) ps.length [(0, .pointer (some ⟨g, 0, none⟩)), (1, .slice P0 ps.length pc), (4, .nilIface), (5, .int .i64 (s.xs.length : Int)), (13, .slice P0 ps.length pc), (14, .int .i64 (ps.length : Int)), (15, .int .i64 0)] ⟨0, by omega, by simpa using hlen_, rfl, by simp⟩ ⟨rfl, rfl, rfl, rfl, rfl, rfl, rfl, trivial⟩ ?_
  rintro m_ G w_ ⟨i, him, hfl, rfl, rfl⟩
  refine w_seq ?_
  refine w_region ?_
  refine rw_val (v := .bool (decide ((i : Int) < (ps.length : Int)))) (w' := w) rfl rfl rfl rfl (by simp [go_sem, sEv, sLook, nbeq, i64_w, -List.length_flatten]) ?_
  refine rw_end ?_
  refine w_seq ?_
  refine w_cond rfl rfl (fun cL => ?_) (fun cL => ?_)
  · refine w_skip ?_
    refine w_seq ?_
    refine w_block ?_
    refine w_seq ?_
    refine w_region ?_
    have l_ := of_decide_eq_true cL
    obtain ⟨ad, A1, c1, hA_, hcell_, hle_, hC_⟩ := at_L2 (hP w (Kept.refl _ _)) (i : Int) (by omega) (by omega)
    subst hA_
    rw [show ((i : Int)).toNat = i by omega] at hcell_
    have hpl_ := hall _ (rd_L2_mem ps i (by omega))
    have htl_ := take_len ps i (by omega)
    have hfl3_ := take_le ps (i + 1)
    refine rw_val (v := .pointer (some (ad.add i))) (w' := w) rfl rfl rfl rfl (by simp [go_sem, sEv, sLook, nbeq, i64_w, -List.length_flatten, Try.underlying22]; omega) ?_
    refine rw_val (v := .slice A1 ((rd_L2 ps (i : Int)).length) c1) (w' := w) rfl rfl rfl rfl (by simp [go_sem, sEv, sLook, nbeq, i64_w, -List.length_flatten, hcell_]) ?_
    refine rw_val (v := .slice A1 ((rd_L2 ps (i : Int)).length) c1) (w' := w) rfl rfl rfl rfl rfl ?_
    refine rw_end ?_
    refine w_seq ?_
    refine w_region ?_
    refine rw_val (v := .int .i64 ((s.xs.length + (ps.take i).flatten.length : Nat) : Int)) (w' := w) rfl rfl rfl rfl rfl ?_
    refine rw_val (v := .slice A1 ((rd_L2 ps (i : Int)).length) c1) (w' := w) rfl rfl rfl rfl rfl ?_
    refine rw_val (v := .int .i64 ((rd_L2 ps (i : Int)).length : Int)) (w' := w) rfl rfl rfl rfl (by simp [go_sem, sEv, sLook, nbeq, i64_w, -List.length_flatten]) ?_
    refine rw_val (v := .int .i64 ((s.xs.length + (ps.take (i + 1)).flatten.length : Nat) : Int)) (w' := w) rfl rfl rfl rfl (by simp [go_sem, sEv, sLook, nbeq, i64_w, -List.length_flatten]; rw [htl_]; rw [show (s.xs.length : Int) + ((ps.take i).flatten.length : Int) + ((rd_L2 ps (i : Int)).length : Int) = ((s.xs.length + ((ps.take i).flatten.length + (rd_L2 ps (i : Int)).length) : Nat) : Int) by omega]; exact wrap_id (by omega) (by omega)) ?_
    refine rw_val (v := .int .i64 ((s.xs.length + (ps.take (i + 1)).flatten.length : Nat) : Int)) (w' := w) rfl rfl rfl rfl rfl ?_
    refine rw_end ?_
    refine w_weaken (G' := [(0, .pointer (some ⟨g, 0, none⟩)), (1, .slice (some ad) ps.length pc), (4, .nilIface), (5, .int .i64 ((s.xs.length + (ps.take (i + 1)).flatten.length : Nat) : Int)), (13, .slice (some ad) ps.length pc), (14, .int .i64 (ps.length : Int)), (15, .int .i64 (i : Int))]) ⟨rfl, rfl, rfl, rfl, rfl, rfl, rfl, trivial⟩ ?_
    refine w_seq ?_
    refine w_region ?_
    refine rw_val (v := .int .i64 ((s.xs.length + (ps.take (i + 1)).flatten.length : Nat) : Int)) (w' := w) rfl rfl rfl rfl rfl ?_
    refine rw_val (v := .bool (decide (1048576 < ((s.xs.length + (ps.take (i + 1)).flatten.length : Nat) : Int)))) (w' := w) rfl rfl rfl rfl (by simp [go_sem, sEv, sLook, nbeq, i64_w, -List.length_flatten]) ?_
    refine rw_end ?_
    refine w_cond rfl rfl (fun cF => ?_) (fun cF => ?_)
    · refine w_seq ?_
      refine w_region ?_
      refine rw_val (v := errT (some 7)) (w' := w) rfl rfl rfl rfl (by simp [go_sem, sEv, sLook, nbeq, i64_w, -List.length_flatten, errT]) ?_
      refine rw_val (v := errT (some 7)) (w' := w) rfl rfl rfl rfl rfl ?_
      refine rw_end ?_
      refine w_ret (post_ret1 rfl rfl ?_)
      have f_ := of_decide_eq_true cF
      have t_ := take_le ps (i + 1)
      rw [TS.appE, TS.app, if_pos (by omega), if_pos (by omega)]
      have e2_ : s = ⟨s.xs, s.sure, s.steps, s.ps, s.pl, s.fs, s.fl, s.dn⟩ := rfl
      rw [e2_]
      refine ⟨rfl, TapeAt.mk (s := ⟨s.xs, s.sure, s.steps, s.ps, s.pl, s.fs, s.fl, s.dn⟩) hB hg0 hb hR (fun q hq => ⟨hq.1, hq.2.2⟩), by omega, (fun q hxq hxg => rfl)⟩
    · refine w_skip ?_
      refine w_blk ?_
      refine w_region ?_
      refine rw_val (v := .int .i64 ((i + 1 : Nat) : Int)) (w' := w) rfl rfl rfl rfl (by simp [go_sem, sEv, sLook, nbeq, i64_w, -List.length_flatten]; have l_ := of_decide_eq_true cL; exact wrap_id (by omega) (by omega)) ?_
      refine rw_val (v := .int .i64 ((i + 1 : Nat) : Int)) (w' := w) rfl rfl rfl rfl rfl ?_
      refine rw_end ?_
      have l_ := of_decide_eq_true cL
      have f_ := of_decide_eq_false cF
      exact w_back (m_ - 1) [(0, .pointer (some ⟨g, 0, none⟩)), (1, .slice (some ad) ps.length pc), (4, .nilIface), (5, .int .i64 ((s.xs.length + (ps.take (i + 1)).flatten.length : Nat) : Int)), (13, .slice (some ad) ps.length pc), (14, .int .i64 (ps.length : Int)), (15, .int .i64 ((i + 1 : Nat) : Int))] (by omega) ⟨rfl, rfl, rfl, rfl, rfl, rfl, rfl, trivial⟩ ⟨i + 1, by omega, by omega, rfl, rfl⟩
  · refine w_exit rfl ?_
    refine w_seq ?_
    refine w_seq ?_
    refine w_region ?_
    refine rw_val (v := .pointer (some ⟨g, 0, none⟩)) (w' := w) rfl rfl rfl rfl rfl ?_
    have l0_ := of_decide_eq_false cL
    obtain rfl : i = ps.length := by omega
    rw [List.take_length] at hfl
    refine rw_call rfl rfl rfl rfl (f := 50) (args := #[.pointer (some ⟨g, 0, none⟩)]) (by simp [go_sem, sEv, sLook, nbeq, i64_w, -List.length_flatten]) (step_raw w0 w g m x (fun q h_ => by have := hx q h_; omega) s A n c hB hg0 ⟨by omega, by omega⟩ hb hR hok) ?_
    rintro e_ w2 ⟨rfl, hT3, hs4, _, hkp5⟩
    refine ⟨_, rfl, ?_⟩
    obtain ⟨hB6, hg7, hm8, A9, n10, c11, hb12, hR13⟩ := hT3
    refine rw_val (v := errT s.err) (w' := w2) rfl rfl rfl rfl rfl ?_
    refine rw_end ?_
    refine w_seq ?_
    refine w_region ?_
    refine rw_val (v := errT s.err) (w' := w2) rfl rfl rfl rfl rfl ?_
    refine rw_val (v := .bool s.err.isSome) (w' := w2) rfl rfl rfl rfl (run_as (guard_err_neq _ _ _)) ?_
    refine rw_end ?_
    refine w_cond rfl rfl (fun cE => ?_) (fun cE => ?_)
    · refine w_seq ?_
      refine w_region ?_
      refine rw_val (v := errT s.err) (w' := w2) rfl rfl rfl rfl rfl ?_
      refine rw_val (v := errT s.err) (w' := w2) rfl rfl rfl rfl rfl ?_
      refine rw_end ?_
      refine w_ret (post_ret1 rfl rfl ?_)
      rw [TS.appE, TS.app, if_neg (by omega), if_neg (by omega), if_pos cE]
      have e2_ : s.next = ⟨s.next.xs, s.next.sure, s.next.steps, s.next.ps, s.next.pl, s.next.fs, s.next.fl, s.next.dn⟩ := rfl
      rw [e2_]
      refine ⟨rfl, TapeAt.mk (s := ⟨s.next.xs, s.next.sure, s.next.steps, s.next.ps, s.next.pl, s.next.fs, s.next.fl, s.next.dn⟩) hB6 hg0 hb12 hR13 (fun q hq => ⟨hq.1, hq.2.2⟩), by omega, (fun q hxq hxg => (hkp5.block q hxg))⟩
    · refine w_skip ?_
      refine w_seq ?_
      refine w_seq ?_
      refine w_region ?_
      refine rw_val (v := .slice P0 ps.length pc) (w' := w2) rfl rfl rfl rfl rfl ?_
      refine rw_val (v := .int .i64 (ps.length : Int)) (w' := w2) rfl rfl rfl rfl (by simp [go_sem, sEv, sLook, nbeq, i64_w, -List.length_flatten]) ?_
      refine rw_val (v := .int .i64 0) (w' := w2) rfl rfl rfl rfl rfl ?_
      refine rw_end ?_
      refine w_block ?_
      have e1_ : s.err = none := by simpa using cE
      have hK0_ : Kept w w2 (fun k => k = g ∨ (g < k ∧ k < m ∧ ¬ x k)) := (Keep.kept hkp5).mono (fun k hk => Or.inl hk)
      have hR0_ : BR .u8 5 w2 w0.heap.size (fun q => g < q ∧ (q < m ∨ w.heap.size ≤ q) ∧ ¬ x q) A9 n10 c11 (s.xs ++ (ps.take 0).flatten) := by simpa [TS.next_xs] using BR.mono hR13 (fun q hq => ⟨hq.1, Or.inl hq.2.1, hq.2.2⟩)
      refine w_loop (fun m_ G W_ => ∃ (i : Nat) (A7 : Option Addr) (n7 c7 : Nat), i + m_ = ps.length ∧ Below w0.heap.size w0 W_ ∧ Kept w W_ (fun k => k = g ∨ (g < k ∧ k < m ∧ ¬ x k)) ∧ Blk W_ g 76 #[.slice A7 n7 c7, .int .i64 s.next.sure, .int .i64 s.next.steps, .bool s.next.ps, .int .i64 s.next.pl, .bool s.next.fs, .int .i64 s.next.fl, .bool s.next.dn] ∧ BR .u8 5 W_ w0.heap.size (fun q => g < q ∧ (q < m ∨ w.heap.size ≤ q) ∧ ¬ x q) A7 n7 c7 (s.xs ++ (ps.take i).flatten) ∧ G = [(0, .pointer (some ⟨g, 0, none⟩)), (4, .nilIface), (32, .slice P0 ps.length pc), (33, .int .i64 (ps.length : Int)), (34, .int .i64 (i : Int))]) ps.length [(0, .pointer (some ⟨g, 0, none⟩)), (4, .nilIface), (32, .slice P0 ps.length pc), (33, .int .i64 (ps.length : Int)), (34, .int .i64 0)] ⟨0, _, _, _, by omega, hB6, hK0_, hb12, hR0_, rfl⟩ ⟨rfl, rfl, rfl, rfl, rfl, trivial⟩ ?_
      rintro m_ G w_ ⟨i, A7, n7, c7, him2, hB7, hK_, hb7, hR7, rfl⟩
      have hfl2_ := take_le ps i
      have hks_ := hK_.1
      have hs_w_ := hB7.size
      refine w_seq ?_
      refine w_region ?_
      refine rw_val (v := .bool (decide ((i : Int) < (ps.length : Int)))) (w' := w_) rfl rfl rfl rfl (by simp [go_sem, sEv, sLook, nbeq, i64_w, -List.length_flatten]) ?_
      refine rw_end ?_
      refine w_seq ?_
      refine w_cond rfl rfl (fun cM => ?_) (fun cM => ?_)
      · refine w_skip ?_
        refine w_seq ?_
        refine w_block ?_
        refine w_seq ?_
        refine w_region ?_
        have l_ := of_decide_eq_true cM
        obtain ⟨ad, A1, c1, hA_, hcell_, hle_, hC_⟩ := at_L2 (hP w_ hK_) (i : Int) (by omega) (by omega)
        subst hA_
        rw [show ((i : Int)).toNat = i by omega] at hcell_
        have hpl_ := hall _ (rd_L2_mem ps i (by omega))
        have htl_ := take_len ps i (by omega)
        have hfl3_ := take_le ps (i + 1)
        refine rw_val (v := .pointer (some (ad.add i))) (w' := w_) rfl rfl rfl rfl (by simp [go_sem, sEv, sLook, nbeq, i64_w, -List.length_flatten, Try.underlying22]; omega) ?_
        refine rw_val (v := .slice A1 ((rd_L2 ps (i : Int)).length) c1) (w' := w_) rfl rfl rfl rfl (by simp [go_sem, sEv, sLook, nbeq, i64_w, -List.length_flatten, hcell_]) ?_
        refine rw_val (v := .slice A1 ((rd_L2 ps (i : Int)).length) c1) (w' := w_) rfl rfl rfl rfl rfl ?_
        refine rw_end ?_
        refine w_region ?_
        refine rw_val (v := .pointer (some ⟨g, 0, none⟩)) (w' := w_) rfl rfl rfl rfl rfl ?_
        refine rw_val (v := .pointer (some ⟨g, 0, none⟩)) (w' := w_) rfl rfl rfl rfl rfl ?_
        refine rw_val (v := .pointer (some ⟨g, 0, none⟩)) (w' := w_) rfl rfl rfl rfl (by simp [go_sem, sEv, sLook, nbeq, i64_w, -List.length_flatten]) ?_
        refine rw_val (v := .pointer (some ⟨g, 0, none⟩)) (w' := w_) rfl rfl rfl rfl (by simp [go_sem, sEv, sLook, nbeq, i64_w, -List.length_flatten, Try.underlying76]) ?_
        refine rw_val (v := .slice A7 n7 c7) (w' := w_) rfl rfl rfl rfl (by have e0_ := hb7.cellv (i := 0) (v := (.slice A7 n7 c7 : Value)) rfl; simp [go_sem, sEv, sLook, nbeq, i64_w, -List.length_flatten, e0_]) ?_
        refine rw_val (v := .slice A1 ((rd_L2 ps (i : Int)).length) c1) (w' := w_) rfl rfl rfl rfl rfl ?_
        have hlx_ : ((s.xs ++ (ps.take i).flatten)).length ≤ 1048576 := by simp only [List.length_append]; omega
        refine rw_append_BR .u8 w0.heap.size rfl rfl rfl (.tmp 42) (.tmp 43) rfl rfl 32 5 1 rfl (by kernel_rfl) info5 (by decide) rfl rfl (fun q hq => ⟨by have := (hb7).lt; omega, Or.inr (by omega), fun h_ => by have := hx q h_; omega⟩) hR7 hC_ hB7 (by have := (hB7).size; omega) (by omega) ?_
        intro A14 c15 w16 hR17 hB18 hG19
        have hs_w16 := hG19.size
        have hok7_ := BR.own (hR7)
        have hb20 : Blk w16 g 76 _ := (hG19.block g (hb7).lt (fun hq => by have := (hok7_ g hq.symm).1; omega)).trans (hb7)
        have hK21 : Kept w w16 (fun k => k = g ∨ (g < k ∧ k < m ∧ ¬ x k)) := Kept.of_grown hG19 hK_ (fun k hk => (hok7_ k hk).2.1.elim (fun h => Or.inl (Or.inr ⟨(hok7_ k hk).1, h, (hok7_ k hk).2.2⟩)) Or.inr)
        refine rw_val (v := .pointer (some ⟨g, 0, none⟩)) (w' := w16) rfl rfl rfl rfl (by simp [go_sem, sEv, sLook, nbeq, i64_w, -List.length_flatten]) ?_
        refine rw_val (v := .pointer (some ⟨g, 0, none⟩)) (w' := w16) rfl rfl rfl rfl (by simp [go_sem, sEv, sLook, nbeq, i64_w, -List.length_flatten, Try.underlying76]) ?_
        have hb25 := hb20
        refine rw_store (g := g) (i := 0) (l := [.slice A14 (((s.xs ++ (ps.take i).flatten) ++ rd_L2 ps (i : Int)).length) c15]) (cs' := #[.slice A14 (((s.xs ++ (ps.take i).flatten) ++ rd_L2 ps (i : Int)).length) c15, .int .i64 s.next.sure, .int .i64 s.next.steps, .bool s.next.ps, .int .i64 s.next.pl, .bool s.next.fs, .int .i64 s.next.fl, .bool s.next.dn]) rfl rfl rfl hb25 rfl (by have e0_ := hb25.cellv (i := 0) (v := (.slice A7 n7 c7 : Value)) rfl; have f0_ := hb25.frozen 0; simp [go_sem, sEv, sLook, nbeq, i64_w, -List.length_flatten, putCells, e0_, f0_, Try.underlying32]) ?_
        intro w22 hk23 hk24
        have hs_w22 := hk23.size
        refine rw_end ?_
        refine w_weaken (G' := [(0, .pointer (some ⟨g, 0, none⟩)), (4, .nilIface), (32, .slice (some ad) ps.length pc), (33, .int .i64 (ps.length : Int)), (34, .int .i64 (i : Int))]) ⟨rfl, rfl, rfl, rfl, rfl, trivial⟩ ?_
        refine w_blk ?_
        refine w_region ?_
        refine rw_val (v := .int .i64 ((i + 1 : Nat) : Int)) (w' := w22) rfl rfl rfl rfl (by simp [go_sem, sEv, sLook, nbeq, i64_w, -List.length_flatten]; have l_ := of_decide_eq_true cM; exact wrap_id (by omega) (by omega)) ?_
        refine rw_val (v := .int .i64 ((i + 1 : Nat) : Int)) (w' := w22) rfl rfl rfl rfl rfl ?_
        refine rw_end ?_
        have l_ := of_decide_eq_true cM
        have hR8_ : BR .u8 5 w22 w0.heap.size (fun q => g < q ∧ (q < m ∨ w.heap.size ≤ q) ∧ ¬ x q) A14 (((s.xs ++ (ps.take i).flatten) ++ rd_L2 ps (i : Int)).length) c15 (s.xs ++ (ps.take (i + 1)).flatten) := by rw [take_flat ps i (by omega), ← List.append_assoc]; exact (BR.step hR17 (fun q hq _ => hk23.block q (by first | omega | (have := hq.1; omega))))
        have hK8_ : Kept w w22 (fun k => k = g ∨ (g < k ∧ k < m ∧ ¬ x k)) := hK21.then_ (Keep.kept hk23) (fun k hk => Or.inl (Or.inl hk))
        exact w_back (m_ - 1) [(0, .pointer (some ⟨g, 0, none⟩)), (4, .nilIface), (32, .slice (some ad) ps.length pc), (33, .int .i64 (ps.length : Int)), (34, .int .i64 ((i + 1 : Nat) : Int))] (by omega) ⟨rfl, rfl, rfl, rfl, rfl, trivial⟩ ⟨i + 1, _, _, _, by omega, (hk23.below (by omega) hB18), hK8_, hk24, hR8_, rfl⟩
      · refine w_exit rfl ?_
        refine w_seq ?_
        refine w_region ?_
        refine rw_val (v := .nilIface) (w' := w_) rfl rfl rfl rfl rfl ?_
        refine rw_end ?_
        refine w_ret (post_ret1 rfl rfl ?_)
        have l_ := of_decide_eq_false cM
        obtain rfl : i = ps.length := by omega
        rw [TS.appE, TS.app, if_neg (by omega), if_neg (by omega), if_neg (by simp [e1_]), e1_]
        rw [List.take_length] at hR7
        have e2_ : { s.next with xs := s.xs ++ ps.flatten } = ⟨(s.xs ++ ps.flatten), s.next.sure, s.next.steps, s.next.ps, s.next.pl, s.next.fs, s.next.fl, s.next.dn⟩ := rfl
        rw [e2_]
        refine ⟨rfl, TapeAt.mk (s := ⟨(s.xs ++ ps.flatten), s.next.sure, s.next.steps, s.next.ps, s.next.pl, s.next.fs, s.next.fl, s.next.dn⟩) hB7 hg0 hb7 hR7 (fun q hq => ⟨hq.1, hq.2.2⟩), by omega, (fun q hxq hxg => (hK_.2 q (hx q hxq) (fun h => h.elim hxg (fun h => h.2.2 hxq))))⟩
theorem append_T (w0 w : World) (g m : Nat) (x : Nat → Prop) (hx : ∀ q, x q → q < w.heap.size) (s : TS) (hT : TapeAt w0 w g m x s) (hok : s.Ok) (P0 : Option Addr) (ps : List (List Int)) (pc : Nat) (hP : ∀ W_, Kept w W_ (fun k => k = g ∨ (g < k ∧ k < m ∧ ¬ x k)) → (Kd.slice 5 (Kd.int .u8)).C W_ P0 ps.length ps) (hn : ps.length ≤ 1000000) (hall : ∀ p ∈ ps, p.length ≤ 140737488355328) : Calls Try.prog 39 #[.pointer (some ⟨g, 0, none⟩), .slice P0 ps.length pc] w fun e w' => e = .returned (errT (s.appE ps.flatten)) ∧ TapeAt w0 w' g w'.heap.size x (s.app ps.flatten) ∧ w.heap.size ≤ w'.heap.size ∧ (∀ q, x q → q ≠ g → w'.heap[q]? = w.heap[q]?) := by
  obtain ⟨hB, hg0, hm, A, n, c, hb, hR⟩ := hT
  exact append_raw w0 w g m x hx s A n c hB hg0 hm hb hR hok P0 ps pc hP hn hall
end Go.Proofs.Ytiiljpaedelhlaa.Tp
end
