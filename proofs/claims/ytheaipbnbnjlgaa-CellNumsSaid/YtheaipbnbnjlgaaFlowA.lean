/- Flow: rules for walking a function with an environment of known slots; regions whose order is open are walked once, in the order of the text. Own work; plain theorems. -/
import Derived.WalkKit
import Derived.Below
import Derived.OrdersHeld
import Derived.OrdersIn
import Derived.TacticsIn
namespace Go.Proofs.Ytheaipbnbnjlgaa.Flow
open Go.RowKit
set_option linter.unusedVariables false
set_option linter.unusedSimpArgs false
set_option linter.unusedSectionVars false

/-! ### Environments -/
abbrev Env := List (Nat × Value)
def sLook : Env → Nat → Option Value
  | [], _ => none
  | p :: r, s => cond (Nat.beq p.1 s) (some p.2) (sLook r s)
def sEv (G : Env) : Operand → Value
  | .tmp t => (sLook G t).getD undef
  | .const v => v
  | .global g => .pointer (some ⟨g, 0, none⟩)
  | .func f => .func (.func f) #[] #[]
/-- Where a code is walked: the deferred calls that wait (marks of ranges over functions), the round, the depth. -/
structure Cx where
  ds : List Deferred
  r : Option Nat
  m : Nat
abbrev cx0 : Cx := ⟨[], none, 9⟩
/-- The wide fence, in a round or in none. -/
abbrev FW (r : Option Nat) : Fence := { fn := fun _ => True, depth := none, alive := false, round := r }
structure Fits (cx : Cx) (n : Nat) (G : Env) (a : Act) : Prop where
  size : a.tmps.size = n
  defers : a.defers = cx.ds
  at_ : ∀ t v, sLook G t = some v → a.tmps[t]? = some v
def ext (d : Option Tmp) (v : Value) (G : Env) : Env := match d with | some t => (t, v) :: G | none => G
def Sub : Env → Env → Prop
  | [], _ => True
  | p :: r, G => sLook G p.1 = some p.2 ∧ Sub r G

theorem look_cons (t : Nat) (v : Value) (G : Env) (s : Nat) : sLook ((t, v) :: G) s = if t = s then some v else sLook G s := by
  by_cases h : t = s
  · subst h; simp [sLook]
  · simp only [sLook, h, if_false]
    have : Nat.beq t s = false := by
      cases hb : Nat.beq t s
      · rfl
      · exact absurd (Nat.eq_of_beq_eq_true hb) h
    rw [this]; rfl

theorem Sub.sLook {G' G : Env} (h : Sub G' G) {t : Nat} {v : Value} (hl : sLook G' t = some v) : Flow.sLook G t = some v := by
  induction G' with
  | nil => simp [Flow.sLook] at hl
  | cons p r ih =>
    obtain ⟨s, u⟩ := p
    rw [look_cons] at hl
    by_cases hs : s = t
    · subst hs
      rw [if_pos rfl] at hl
      obtain rfl := Option.some.inj hl
      exact h.1
    · rw [if_neg hs] at hl
      exact ih h.2 hl

theorem Fits.sub {cx : Cx} {n : Nat} {G G' : Env} {a : Act} (h : Fits cx n G a) (hs : Sub G' G) : Fits cx n G' a :=
  ⟨h.size, h.defers, fun t v hl => h.at_ t v (hs.sLook hl)⟩

theorem Fits.put {cx : Cx} {n : Nat} {G : Env} {a : Act} (h : Fits cx n G a) {d : Nat} (hd : Nat.blt d n = true) (v : Value) : Fits cx n ((d, v) :: G) (a.put (some d) v) := by
  have hd' : d < n := by simpa using hd
  refine ⟨by simp [Act.put, h.size], h.defers, fun t u hl => ?_⟩
  rw [look_cons] at hl
  by_cases hs : d = t
  · subst hs
    rw [if_pos rfl] at hl
    obtain rfl := Option.some.inj hl
    simp [Act.put, h.size, hd']
  · rw [if_neg hs] at hl
    simp only [Act.put]
    rw [Array.getElem?_setIfInBounds_ne hs]
    exact h.at_ t u hl

/-- Every slot that an operation looks at is known. -/
def knownO (G : Env) : Operand → Bool
  | .tmp t => (sLook G t).isSome
  | _ => true
def knownL (G : Env) : List Operand → Bool
  | [] => true
  | x :: r => knownO G x && knownL G r
def isSel : Op → Bool
  | .select _ _ => true
  | .defer _ => true
  | _ => false
def known (G : Env) (o : Oper) : Bool := !isSel o.op && knownL G o.op.operands.toList

theorem eval_known {cx : Cx} {n : Nat} {G : Env} {a : Act} (h : Fits cx n G a) {x : Operand} (hk : knownO G x = true) : a.eval x = sEv G x := by
  cases x with
  | tmp t =>
    simp only [knownO] at hk
    obtain ⟨v, hv⟩ := Option.isSome_iff_exists.1 hk
    simp only [Act.eval, sEv, hv, Option.getD_some]
    simp [h.at_ t v hv]
  | const v => rfl
  | global g => rfl
  | func f => rfl

theorem knownL_mem {G : Env} : ∀ {l : List Operand}, knownL G l = true → ∀ x ∈ l, knownO G x = true
  | [], _, x, hx => by cases hx
  | y :: r, h, x, hx => by
    simp only [knownL, Bool.and_eq_true] at h
    rcases List.mem_cons.1 hx with rfl | hx
    · exact h.1
    · exact knownL_mem h.2 x hx

theorem noSel {o : Oper} (h : isSel o.op = false) : ∀ cs b, o.op ≠ .select cs b := by
  intro cs b he
  rw [he] at h
  simp [isSel] at h

theorem exec_known {cx : Cx} {n : Nat} {G : Env} {a : Act} (h : Fits cx n G a) {o : Oper} (hk : known G o = true) : execOp a.eval o = execOp (sEv G) o := by
  simp only [known, Bool.and_eq_true, Bool.not_eq_true'] at hk
  exact execOp_congr o (noSel hk.1) fun x hx => eval_known h (knownL_mem hk.2 x (by simpa using hx))

/-! ### What is left to do: a stack -/
abbrev Itm := Sum Code (Sum Nat (Act → World → Prop))   -- code | the end of a block | a loop's head
abbrev Itm.code (c : Code) : Itm := .inl c
abbrev Itm.blk (id : Nat) : Itm := .inr (.inl id)
abbrev Itm.lp (I : Act → World → Prop) : Itm := .inr (.inr I)

section
variable {P : Program}

def Ks (cx : Cx) (P : Program) : List Itm → (Exit → Act → World → Prop) → Exit → Act → World → Prop
  | [], Q, .outgrown, a, w => cx.r = none ∧ Q .outgrown a w
  | [], Q, e, a, w => Q e a w
  | .inl c :: st, Q, .normal, a, w => c.wpIn (FW cx.r) cx.m P (Ks cx P st Q) a w
  | .inl _ :: st, Q, .exit i, a, w => Ks cx P st Q (.exit i) a w
  | .inl _ :: st, Q, .goto i, a, w => Ks cx P st Q (.goto i) a w
  | .inl _ :: st, Q, .ret, a, w => Ks cx P st Q .ret a w
  | .inl _ :: st, Q, .panic c, a, w => Ks cx P st Q (.panic c) a w
  | .inl _ :: st, Q, .outgrown, a, w => Ks cx P st Q .outgrown a w
  | .inr (.inl id) :: st, Q, .exit i, a, w => if i = id then Ks cx P st Q .normal a w else Ks cx P st Q (.exit i) a w
  | .inr (.inl _) :: st, Q, e, a, w => Ks cx P st Q e a w
  | .inr (.inr I) :: st, Q, .normal, a, w => I a w
  | .inr (.inr _) :: st, Q, .exit i, a, w => Ks cx P st Q (.exit i) a w
  | .inr (.inr _) :: st, Q, .goto i, a, w => Ks cx P st Q (.goto i) a w
  | .inr (.inr _) :: st, Q, .ret, a, w => Ks cx P st Q .ret a w
  | .inr (.inr _) :: st, Q, .panic c, a, w => Ks cx P st Q (.panic c) a w
  | .inr (.inr _) :: st, Q, .outgrown, a, w => Ks cx P st Q .outgrown a w

/-! ### Rounds: an operation's run there is as everywhere -/
theorem sel_def {o : Oper} (h : isSel o.op = false) : ∀ c, o.op ≠ .defer c := by
  intro c he
  rw [he] at h
  simp [isSel] at h
theorem letsOut_base {cx : Cx} {Q : Exit → Act → World → Prop} (hr : cx.r ≠ none) : ∀ st : List Itm, ¬ LetsOut (Ks cx P st Q)
  | [] => fun ⟨_, _, h⟩ => hr h.1
  | .inl _ :: st => fun ⟨a, w, h⟩ => letsOut_base hr st ⟨a, w, h⟩
  | .inr (.inl _) :: st => fun ⟨a, w, h⟩ => letsOut_base hr st ⟨a, w, h⟩
  | .inr (.inr _) :: st => fun ⟨a, w, h⟩ => letsOut_base hr st ⟨a, w, h⟩
theorem callsIn_fw {r : Option Nat} {m : Nat} {f : FuncId} {args : Array Value} {w : World} {R : Ending → World → Prop} (h : Calls P f args w R) : CallsIn (FW r) m P f args w R := (callsIn_wide (n := m)).2 h
theorem rowsIn_fw {r : Option Nat} {m : Nat} {row : String} {args : Array Value} {w : World} {R : Value → World → Prop} (h : Rows P row args w R) : RowsIn (FW r) m P row args w R := fun c cs _ =>
  let ⟨v, w', hr, hs⟩ := h c cs
  ⟨v, w', hr, (stepsIn_wide (P := P)).2 hs⟩
theorem oper_in {r : Option Nat} {m : Nat} {o : Oper} {a : Act} {w : World} {K : Act → World → Prop} {Q : Exit → Act → World → Prop} (hs : isSel o.op = false) (h : o.wp P a w K Q) : o.wpIn (FW r) m P a w K Q := by
  refine ⟨fun _ _ => trivial, ?_⟩
  rw [Oper.semAt_eq _ _ _ (sel_def hs)]
  unfold Oper.wp at h
  revert h
  generalize (execOp a.eval o).run P w = x
  intro h
  match x, h with
  | .ok (.value _) _, h => exact h
  | .ok .skip _, h => exact h
  | .ok (.defer _) _, h => exact h
  | .ok (.enter _ _) _, h => exact ⟨fun q => (by cases q), callsIn_fw h⟩
  | .ok (.row _ _) _, h => exact ⟨fun q => (by cases q), rowsIn_fw h⟩
  | .halt (.panic _) _, h => exact h
theorem list_in {r : Option Nat} {m : Nat} {ops : Array Oper} {Q : Exit → Act → World → Prop} (hq : ¬ LetsOut Q) : ∀ (l : List Oper), (∀ o ∈ l, isSel o.op = false) → ∀ (a : Act) (w : World), wpList P ops Q l a w → wpListIn (FW r) m P ops Q l a w
  | [], _, _, _, h => h
  | o :: l, hs, a, w, h => by
    unfold wpList at h
    unfold wpListIn
    split
    · rename_i hw
      rw [if_pos hw] at h
      rcases h with h | h
      · exact oper_in (hs o (by simp)) (Oper.wp_mono (fun a' w' q => list_in hq l (fun o' ho => hs o' (by simp [ho])) a' w' q) h)
      · exact absurd h.2 hq
    · rename_i hw
      rw [if_neg hw] at h
      exact ⟨fun _ _ => trivial, list_in hq l (fun o' ho => hs o' (by simp [ho])) _ _ h⟩
theorem any_in {r : Option Nat} {m : Nat} {ops : Array Oper} {Q : Exit → Act → World → Prop} (hq : ¬ LetsOut Q) (hs : ∀ (i : Nat) (o : Oper), ops[i]? = some o → isSel o.op = false) : ∀ (fuel : Nat) (D : Array Bool) (a : Act) (w : World), wpAny P .any ops Q fuel D a w → wpAnyIn (FW r) m P .any ops Q fuel D a w
  | 0, _, _, _, h => h
  | fuel + 1, D, a, w, h => ⟨h.1, fun i hi => by
    have h2 := h.2 i hi
    unfold wpOp at h2
    unfold wpOpIn
    split
    · rename_i ho
      rw [ho] at h2
      exact any_in hq hs fuel _ _ _ h2
    · rename_i o ho
      rw [ho] at h2
      simp only at h2
      split
      · rename_i hw
        rw [if_pos hw] at h2
        rcases h2 with h2 | h2
        · exact oper_in (hs i o ho) (Oper.wp_mono (fun a' w' q => any_in hq hs fuel _ a' w' q) h2)
        · exact absurd h2.2 hq
      · rename_i hw
        rw [if_neg hw] at h2
        exact ⟨fun _ _ => trivial, any_in hq hs fuel _ _ _ h2⟩⟩
theorem region_in {cx : Cx} {Q : Exit → Act → World → Prop} {st : List Itm} {id : Nat} {l : List Oper} {a : Act} {w : World} (hs : l.all (fun o => !isSel o.op) = true ∨ cx.r = none) (h : wpList P l.toArray (Ks cx P st Q) l a w) : (Code.region id l.toArray false).wpIn (FW cx.r) cx.m P (Ks cx P st Q) a w := by
  cases hr : cx.r with
  | none => exact wpIn_wide.2 (wp_region_lit h)
  | some k => exact wpIn_region_lit (list_in (letsOut_base (by rw [hr]; simp) st) l (fun o ho => by
      have h1 := List.all_eq_true.1 (hs.resolve_right (by rw [hr]; simp)) o ho
      simpa using h1) a w h)
theorem drawn_in {cx : Cx} {Q : Exit → Act → World → Prop} {st : List Itm} {id : Nat} {ops : Array Oper} {a : Act} {w : World} (hm : P.follows .mixedOrders = true) (hs : ∀ (i : Nat) (o : Oper), ops[i]? = some o → isSel o.op = false) (h : wpAny P .any ops (Ks cx P st Q) ops.size (Array.replicate ops.size false) a { w with drawn := w.drawn + 1 }) : (Code.region id ops true).wpIn (FW cx.r) cx.m P (Ks cx P st Q) a w := by
  cases hr : cx.r with
  | none => exact wpIn_wide.2 (wp_region_any hm h)
  | some k => exact wpIn_region_any hm (any_in (letsOut_base (by rw [hr]; simp) st) hs _ _ _ _ h)

/-- From every act that fits the environment, what is left to do comes to Q. -/
def W (P : Program) (cx : Cx) (n : Nat) (Q : Exit → Act → World → Prop) (st : List Itm) (G : Env) (w : World) : Prop :=
  ∀ a, Fits cx n G a → Ks cx P st Q .normal a w

variable {cx : Cx} {n : Nat} {Q : Exit → Act → World → Prop} {st : List Itm} {G : Env} {w : World}

theorem Ks_ret : ∀ (st : List Itm) {a : Act} {w : World}, Q .ret a w → Ks cx P st Q .ret a w
  | [], _, _, h => h
  | .inl _ :: st, _, _, h => Ks_ret st h
  | .inr (.inl _) :: st, _, _, h => Ks_ret st h
  | .inr (.inr _) :: st, _, _, h => Ks_ret st h

def unwind (id : Nat) : List Itm → Option (List Itm)
  | [] => none
  | .inl _ :: st => unwind id st
  | .inr (.inl i) :: st => cond (Nat.beq i id) (some st) (unwind id st)
  | .inr (.inr _) :: st => unwind id st

theorem Ks_exit {id : Nat} : ∀ {st st' : List Itm} {a : Act} {w : World}, unwind id st = some st' → Ks cx P st' Q .normal a w → Ks cx P st Q (.exit id) a w
  | [], _, _, _, h, _ => by simp [unwind] at h
  | .inl _ :: st, _, _, _, h, k => Ks_exit (st := st) h k
  | .inr (.inr _) :: st, _, _, _, h, k => Ks_exit (st := st) h k
  | .inr (.inl i) :: st, st', a, w, h, k => by
    simp only [unwind] at h
    simp only [Ks]
    by_cases hi : id = i
    · subst hi
      rw [if_pos rfl]
      simp at h
      subst h
      exact k
    · rw [if_neg hi]
      have hb : Nat.beq i id = false := by
        cases hb : Nat.beq i id
        · rfl
        · exact absurd (Nat.eq_of_beq_eq_true hb).symm hi
      rw [hb] at h
      exact Ks_exit (st := st) h k

theorem w_weaken {G' : Env} (hs : Sub G' G) (h : W P cx n Q st G' w) : W P cx n Q st G w := fun a ha => h a (ha.sub hs)

theorem w_seq {x y : Code} (h : W P cx n Q (Itm.code x :: Itm.code y :: st) G w) : W P cx n Q (Itm.code (.seq x y) :: st) G w := fun a ha => by
  refine wpIn_seq (wpIn_mono (h a ha) fun e a w q => ?_)
  cases e <;> exact q

theorem w_skip (h : W P cx n Q st G w) : W P cx n Q (Itm.code .skip :: st) G w := fun a ha => wpIn_skip (h a ha)

theorem w_ret (h : ∀ a, Fits cx n G a → Q .ret a w) : W P cx n Q (Itm.code .ret :: st) G w := fun a ha => wpIn_ret (Ks_ret st (h a ha))

theorem w_end (h : ∀ a, Fits cx n G a → Q .normal a w) : W P cx n Q [] G w := h

theorem w_exit {id : Nat} {st' : List Itm} (hu : unwind id st = some st') (h : W P cx n Q st' G w) : W P cx n Q (Itm.code (.exit id) :: st) G w := fun a ha =>
  wpIn_exit (Ks_exit hu (h a ha))

theorem w_block {id : Nat} {c : Code} (h : W P cx n Q (Itm.code c :: Itm.blk id :: st) G w) : W P cx n Q (Itm.code (.block id c) :: st) G w := fun a ha => by
  refine wpIn_block (wpIn_mono (h a ha) fun e a w q => ?_)
  cases e <;> exact q

theorem w_blk {id : Nat} (h : W P cx n Q st G w) : W P cx n Q (Itm.blk id :: st) G w := fun a ha => h a ha

theorem w_cond {c : Operand} {x y : Code} {b : Bool} (hk : knownO G c = true) (hc : sEv G c = .bool b) (ht : b = true → W P cx n Q (Itm.code x :: st) G w) (hf : b = false → W P cx n Q (Itm.code y :: st) G w) : W P cx n Q (Itm.code (.cond c x y) :: st) G w := fun a ha => by
  refine wpIn_cond_split (t := b) ((eval_known ha hk).trans hc) (fun h => ht h a ha) (fun h => hf h a ha)
theorem w_cond_t {c : Operand} {x y : Code} {b : Bool} (hk : knownO G c = true) (hc : sEv G c = .bool b) (hb : b = true) (ht : W P cx n Q (Itm.code x :: st) G w) : W P cx n Q (Itm.code (.cond c x y) :: st) G w :=
  w_cond hk hc (fun _ => ht) (fun h => by rw [hb] at h; cases h)
theorem w_cond_f {c : Operand} {x y : Code} {b : Bool} (hk : knownO G c = true) (hc : sEv G c = .bool b) (hb : b = false) (hf : W P cx n Q (Itm.code y :: st) G w) : W P cx n Q (Itm.code (.cond c x y) :: st) G w :=
  w_cond hk hc (fun h => by rw [hb] at h; cases h) (fun _ => hf)

/-- What a round of a loop must come back to. -/
def Back (cx : Cx) (n : Nat) (J : Nat → Env → World → Prop) (m : Nat) (a : Act) (w : World) : Prop := ∃ m' G', m' < m ∧ Fits cx n G' a ∧ J m' G' w

theorem least {p : Nat → Prop} (h : ∃ m, p m) : ∃ m, p m ∧ ∀ k, p k → m ≤ k := by
  obtain ⟨m, hm⟩ := h
  induction m using Nat.strongRecOn with
  | _ m ih =>
    by_cases h2 : ∃ k, k < m ∧ p k
    · obtain ⟨k, hk, hp⟩ := h2
      exact ih k hk hp
    · exact ⟨m, hm, fun k hp => Nat.le_of_not_lt fun hlt => h2 ⟨k, hlt, hp⟩⟩

theorem w_loop {c : Code} (J : Nat → Env → World → Prop) (m0 : Nat) (G0 : Env) (h0 : J m0 G0 w) (hs : Sub G0 G)
    (round : ∀ m G w, J m G w → W P cx n Q (Itm.code c :: Itm.lp (Back cx n J m) :: st) G w) : W P cx n Q (Itm.code (.loop c) :: st) G w := fun a ha => by
  classical
  let p : Act → World → Nat → Prop := fun a w m => ∃ G, Fits cx n G a ∧ J m G w
  let mu : Act → World → Nat := fun a w => if h : ∃ m, p a w m then Classical.choose (least h) else 0
  have hmu : ∀ a w (h : ∃ m, p a w m), p a w (mu a w) ∧ ∀ k, p a w k → mu a w ≤ k := fun a w h => by
    have e : mu a w = Classical.choose (least h) := by simp only [mu]; rw [dif_pos h]
    rw [e]
    exact Classical.choose_spec (least h)
  refine wpIn_loop (fun a w => ∃ m, p a w m) mu ⟨m0, G0, ha.sub hs, h0⟩ fun a w hI => ?_
  obtain ⟨⟨G1, hf1, hj1⟩, hmin⟩ := hmu a w hI
  refine wpIn_mono (round (mu a w) G1 w hj1 a hf1) fun e a' w' q => ?_
  cases e with
  | normal =>
    obtain ⟨m', G', hlt, hf, hj⟩ := q
    have hI' : ∃ m, p a' w' m := ⟨m', G', hf, hj⟩
    exact ⟨hI', Nat.lt_of_le_of_lt ((hmu a' w' hI').2 m' ⟨G', hf, hj⟩) hlt⟩
  | _ => exact q

/-- A loop that leaves in its first round. -/
theorem w_loop1 {c : Code} (h : W P cx n Q (Itm.code c :: Itm.lp (fun _ _ => False) :: st) G w) : W P cx n Q (Itm.code (.loop c) :: st) G w := fun a ha => by
  refine wpIn_loop_once (wpIn_mono (h a ha) fun e a w q => ?_)
  cases e <;> exact q
theorem w_back {J : Nat → Env → World → Prop} {m : Nat} (m' : Nat) (G' : Env) (hlt : m' < m) (hs : Sub G' G) (hj : J m' G' w) : W P cx n Q (Itm.lp (Back cx n J m) :: st) G w := fun a ha =>
  ⟨m', G', hlt, ha.sub hs, hj⟩

theorem calls_flow {f : FuncId} {fn : Func} {c : Code} {args : Array Value} {R : Ending → World → Prop} (hf : P.funcs[f]? = some fn) (hb : fn.body = some c) (n : Nat) (hn : fn.ntmps = n) (hsz : args.size ≤ n)
    (G : Env) (hG : ∀ t v, sLook G t = some v → args[t]? = some v) (h : W P cx0 n (bodyPost P fn R) [Itm.code c] G w) : Calls P f args w R := by
  refine calls_of_wp hf hb (wpIn_wide (n := 9).1 (wpIn_mono (c := c) (Q := Ks cx0 P [] (bodyPost P fn R)) ?_ fun e a w q => ?_))
  rotate_left
  · cases e <;> first | exact q.2 | exact q
  refine h _ ⟨by simp [hn]; omega, rfl, fun t v hl => ?_⟩
  have h1 := hG t v hl
  have hlt : t < args.size := (Array.getElem?_eq_some_iff.1 h1).1
  rw [Array.getElem?_append_left hlt]
  exact h1

/-- The arguments as an environment: slot 0 first. -/
def argEnv : Nat → List Value → Env
  | _, [] => []
  | k, v :: r => (k, v) :: argEnv (k + 1) r
theorem argEnv_look : ∀ (l : List Value) (k t : Nat) (v : Value), sLook (argEnv k l) t = some v → k ≤ t ∧ l[t - k]? = some v
  | [], k, t, v, h => by simp [argEnv, sLook] at h
  | x :: r, k, t, v, h => by
    simp only [argEnv] at h
    rw [look_cons] at h
    by_cases hk : k = t
    · subst hk; rw [if_pos rfl] at h; simpa using h
    · rw [if_neg hk] at h
      obtain ⟨h1, h2⟩ := argEnv_look r (k + 1) t v h
      refine ⟨by omega, ?_⟩
      rw [show t - k = (t - (k + 1)) + 1 by omega]
      simpa using h2
theorem args_look {l : List Value} {G : Env} (hG : G = argEnv 0 l) : ∀ t v, sLook G t = some v → (l.toArray)[t]? = some v := by
  subst hG
  intro t v h
  have := (argEnv_look l 0 t v h).2
  simpa using this

/-! ### The end of a function -/
theorem fits_getD {a : Act} (h : Fits cx n G a) {t : Nat} {v : Value} (hl : sLook G t = some v) : a.tmps.getD t undef = v := by
  simp [h.at_ t v hl]
theorem post_ret0 {fn : Func} {R : Ending → World → Prop} (hr : fn.results = #[]) (hR : R (.returned (.tuple #[])) w) : ∀ a, Fits cx0 n G a → bodyPost P fn R .ret a w := fun a ha =>
  ⟨ha.defers, _, results_none hr _ _ _, hR⟩
theorem post_end0 {fn : Func} {R : Ending → World → Prop} (hr : fn.results = #[]) (hR : R (.returned (.tuple #[])) w) : ∀ a, Fits cx0 n G a → bodyPost P fn R .normal a w := fun a ha =>
  ⟨ha.defers, _, results_none hr _ _ _, hR⟩
theorem post_ret1 {fn : Func} {R : Ending → World → Prop} {t : Nat} {v : Value} (hr : fn.results = #[.tmp t]) (hl : sLook G t = some v) (hR : R (.returned v) w) : ∀ a, Fits cx0 n G a → bodyPost P fn R .ret a w := fun a ha =>
  ⟨ha.defers, _, results_tmp hr _ _ _, by rw [fits_getD ha hl]; exact hR⟩
theorem post_ret2 {fn : Func} {R : Ending → World → Prop} {t u : Nat} {v x : Value} (hr : fn.results = #[.tmp t, .tmp u]) (hl : sLook G t = some v) (hl2 : sLook G u = some x) (hR : R (.returned (.tuple #[v, x])) w) : ∀ a, Fits cx0 n G a → bodyPost P fn R .ret a w := fun a ha =>
  ⟨ha.defers, _, results_tmp2 hr _ _ _, by rw [fits_getD ha hl, fits_getD ha hl2]; exact hR⟩
theorem post_ret3 {fn : Func} {R : Ending → World → Prop} {t u s : Nat} {v x y : Value} (hr : fn.results = #[.tmp t, .tmp u, .tmp s]) (hl : sLook G t = some v) (hl2 : sLook G u = some x) (hl3 : sLook G s = some y) (hR : R (.returned (.tuple #[v, x, y])) w) : ∀ a, Fits cx0 n G a → bodyPost P fn R .ret a w := fun a ha => by
  refine ⟨ha.defers, .tuple #[v, x, y], ?_, hR⟩
  have h1 := fits_getD ha hl
  have h2 := fits_getD ha hl2
  have h3 := fits_getD ha hl3
  simp [results, hr] at h1 h2 h3 ⊢
  simp [h1, h2, h3]
end
end Go.Proofs.Ytheaipbnbnjlgaa.Flow
