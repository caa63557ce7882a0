/- Flow, second part: regions. A region whose order is open is walked once, in the order of the text: each operation is shown from what it waits for alone, in every later world. Own work; plain theorems. -/
import Derived.Test.YtheaipbnbnjlgaaFlowA
namespace Go.Proofs.Ytheaipbnbnjlgaa.Flow
open Go.RowKit
set_option linter.unusedVariables false
set_option linter.unusedSimpArgs false
set_option linter.unusedSectionVars false

section
variable {P : Program} {cx : Cx} {n : Nat} {Q : Exit → Act → World → Prop} {st : List Itm} {G : Env} {w : World} {ops : Array Oper}

theorem wanted_none {o : Oper} (h : o.guard = none) (y : Nat → Option Bool) : Region.wanted o y = true := by simp [Region.wanted, h]
theorem wanted_some {o : Oper} {g : Nat} {b c : Bool} {t : Nat} {a : Act} (hf : Fits cx n G a) (h : o.guard = some (g, b)) (ht : (ops[g]?).bind (·.dst) = some t) (hl : sLook G t = some (.bool c)) :
    Region.wanted o (yielded ops a.tmps) = (c == b) := by
  simp [Region.wanted, h, yielded, ht, hf.at_ t _ hl]
theorem wanted_undef {o : Oper} {g : Nat} {b : Bool} {t : Nat} {a : Act} (hf : Fits cx n G a) (h : o.guard = some (g, b)) (ht : (ops[g]?).bind (·.dst) = some t) (hl : sLook G t = some undef) :
    Region.wanted o (yielded ops a.tmps) = false := by
  simp [Region.wanted, h, yielded, ht, hf.at_ t _ hl, undef]

/-! ### Regions in the text's order -/
def RW (P : Program) (ops : Array Oper) (cx : Cx) (n : Nat) (Q : Exit → Act → World → Prop) (rest : List Oper) (G : Env) (w : World) : Prop :=
  ∀ a, Fits cx n G a → wpList P ops Q rest a w

theorem w_region {id : Nat} {l : List Oper} (h : RW P l.toArray cx n (Ks cx P st Q) l G w) (hs : l.all (fun o => !isSel o.op) = true := by rfl) : W P cx n Q (Itm.code (.region id l.toArray false) :: st) G w := fun a ha =>
  region_in (.inl hs) (h a ha)
theorem rw_end (h : W P cx n Q st G w) : RW P ops cx n (Ks cx P st Q) [] G w := fun a ha => wpList_nil (h a ha)
theorem rw_endw {G' : Env} (hs : Sub G' G) (h : W P cx n Q st G' w) : RW P ops cx n (Ks cx P st Q) [] G w := rw_end (w_weaken hs h)

variable {o : Oper} {rest : List Oper}
theorem rw_val {d : Nat} {v : Value} {w' : World} (hg : o.guard = none) (hd : o.dst = some d) (hdn : Nat.blt d n = true) (hk : known G o = true)
    (hrun : (execOp (sEv G) o).run P w = .ok (.value v) w') (k : RW P ops cx n Q rest ((d, v) :: G) w') : RW P ops cx n Q (o :: rest) G w := fun a ha =>
  wpList_plain hg fun K hK => by
    unfold Oper.wp
    rw [exec_known ha hk, hrun, Oper.upon_value, hd]
    exact hK _ _ (k _ (ha.put hdn v))
theorem rw_skip {w' : World} (hg : o.guard = none) (hd : o.dst = none) (hk : known G o = true)
    (hrun : (execOp (sEv G) o).run P w = .ok .skip w') (k : RW P ops cx n Q rest G w') : RW P ops cx n Q (o :: rest) G w := fun a ha =>
  wpList_plain hg fun K hK => by
    unfold Oper.wp
    rw [exec_known ha hk, hrun, Oper.upon_skip, hd]
    exact hK _ _ (k _ ha)
theorem rw_call {d : Nat} {f : FuncId} {args : Array Value} {R : Ending → World → Prop} (hg : o.guard = none) (hd : o.dst = some d) (hdn : Nat.blt d n = true) (hk : known G o = true)
    (hrun : (execOp (sEv G) o).run P w = .ok (.enter f args) w) (hc : Calls P f args w R) (k : ∀ e w', R e w' → ∃ v, e = .returned v ∧ RW P ops cx n Q rest ((d, v) :: G) w') : RW P ops cx n Q (o :: rest) G w := fun a ha =>
  wpList_plain hg fun K hK => by
    unfold Oper.wp
    rw [exec_known ha hk, hrun, Oper.upon_enter, hd]
    refine hc.mono fun e w' he => ?_
    obtain ⟨v, rfl, h⟩ := k e w' he
    exact hK _ _ (h _ (ha.put hdn v))
/-- A call whose answer is used by nobody. -/
theorem rw_call0 {f : FuncId} {args : Array Value} {R : Ending → World → Prop} (hg : o.guard = none) (hd : o.dst = none) (hk : known G o = true)
    (hrun : (execOp (sEv G) o).run P w = .ok (.enter f args) w) (hc : Calls P f args w R) (k : ∀ e w', R e w' → ∃ v, e = .returned v ∧ RW P ops cx n Q rest G w') : RW P ops cx n Q (o :: rest) G w := fun a ha =>
  wpList_plain hg fun K hK => by
    unfold Oper.wp
    rw [exec_known ha hk, hrun, Oper.upon_enter, hd]
    refine hc.mono fun e w' he => ?_
    obtain ⟨v, rfl, h⟩ := k e w' he
    exact hK _ _ (h _ ha)
/-- Guarded, and the guard known. -/
theorem rw_guard {g t : Nat} {b c : Bool} (hgd : o.guard = some (g, b)) (ht : (ops[g]?).bind (·.dst) = some t) (hl : sLook G t = some (.bool c))
    (hon : c = b → ∀ a, Fits cx n G a → o.wp P a w (wpList P ops Q rest) Q) (hoff : c ≠ b → RW P ops cx n Q rest (ext o.dst undef G) w) (hdn : ∀ d, o.dst = some d → Nat.blt d n = true) : RW P ops cx n Q (o :: rest) G w := fun a ha => by
  have hw := wanted_some (ops := ops) ha hgd ht hl
  unfold wpList
  by_cases hc : c = b
  · rw [if_pos (by rw [hw]; simp [hc])]
    exact .inl (hon hc a ha)
  · rw [if_neg (by rw [hw]; simp [hc])]
    cases hd : o.dst with
    | none =>
      have := hoff hc
      rw [hd] at this
      exact this a ha
    | some d =>
      have := hoff hc
      rw [hd] at this
      exact this _ (ha.put (hdn d hd) undef)
theorem rw_off {g t d : Nat} {b c : Bool} (hgd : o.guard = some (g, b)) (ht : (ops[g]?).bind (·.dst) = some t) (hl : sLook G t = some (.bool c)) (hne : (c == b) = false) (hd : o.dst = some d) (hdn : Nat.blt d n = true)
    (k : RW P ops cx n Q rest ((d, undef) :: G) w) : RW P ops cx n Q (o :: rest) G w :=
  rw_guard hgd ht hl (fun h => by simp [h] at hne) (fun _ => by rw [hd]; exact k) (fun d' h => by rw [hd] at h; cases h; exact hdn)
/-- Guarded by what hasn't been run: off too. -/
theorem rw_offu {g t d : Nat} {b : Bool} (hgd : o.guard = some (g, b)) (ht : (ops[g]?).bind (·.dst) = some t) (hl : sLook G t = some undef) (hd : o.dst = some d) (hdn : Nat.blt d n = true)
    (k : RW P ops cx n Q rest ((d, undef) :: G) w) : RW P ops cx n Q (o :: rest) G w := fun a ha => by
  have hw := wanted_undef (ops := ops) ha hgd ht hl
  unfold wpList
  rw [if_neg (by rw [hw]; simp), hd]
  exact k _ (ha.put hdn undef)
theorem rw_gval {g t d : Nat} {b c : Bool} {v : Value} {w' : World} (hgd : o.guard = some (g, b)) (ht : (ops[g]?).bind (·.dst) = some t) (hl : sLook G t = some (.bool c)) (he : (c == b) = true) (hd : o.dst = some d) (hdn : Nat.blt d n = true) (hk : known G o = true)
    (hrun : (execOp (sEv G) o).run P w = .ok (.value v) w') (k : RW P ops cx n Q rest ((d, v) :: G) w') : RW P ops cx n Q (o :: rest) G w :=
  rw_guard hgd ht hl (fun _ a ha => by
    unfold Oper.wp
    rw [exec_known ha hk, hrun, Oper.upon_value, hd]
    exact k _ (ha.put hdn v)) (fun h => absurd (by simpa using he) h) (fun d' h => by rw [hd] at h; cases h; exact hdn)
theorem rw_gcall {g t d : Nat} {b c : Bool} {f : FuncId} {args : Array Value} {R : Ending → World → Prop} (hgd : o.guard = some (g, b)) (ht : (ops[g]?).bind (·.dst) = some t) (hl : sLook G t = some (.bool c)) (he : (c == b) = true) (hd : o.dst = some d) (hdn : Nat.blt d n = true) (hk : known G o = true)
    (hrun : (execOp (sEv G) o).run P w = .ok (.enter f args) w) (hc : Calls P f args w R) (k : ∀ e w', R e w' → ∃ v, e = .returned v ∧ RW P ops cx n Q rest ((d, v) :: G) w') : RW P ops cx n Q (o :: rest) G w :=
  rw_guard hgd ht hl (fun _ a ha => by
    unfold Oper.wp
    rw [exec_known ha hk, hrun, Oper.upon_enter, hd]
    refine hc.mono fun e w' he => ?_
    obtain ⟨v, rfl, h⟩ := k e w' he
    exact h _ (ha.put hdn v)) (fun h => absurd (by simpa using he) h) (fun d' h => by rw [hd] at h; cases h; exact hdn)

/-! ### Regions whose order is open -/
/-- What an operation waits for, as the bits of a number; checked, not trusted. -/
def maskOf (acc : List Nat) (o : Oper) : Nat := o.after.toList.foldl (fun s e => bif Region.binds .any e then Nat.lor (Nat.lor s (2 ^ e.on)) (acc.getD e.on 0) else s) 0
def masks : List Oper → List Nat → List Nat
  | [], acc => acc
  | o :: os, acc => masks os (acc ++ [maskOf acc o])
def edgeOk (M : List Nat) (o : Oper) (i j : Nat) : Bool := o.after.toList.any fun e => Region.binds .any e && (Nat.blt e.on i && (Nat.beq e.on j || Nat.testBit (M.getD e.on 0) j))
def upto : Nat → (Nat → Bool) → Bool
  | 0, _ => true
  | k + 1, p => p k && upto k p
theorem upto_spec : ∀ {k : Nat} {p : Nat → Bool}, upto k p = true → ∀ i, i < k → p i = true
  | 0, _, _, i, hi => absurd hi (Nat.not_lt_zero i)
  | k + 1, p, h, i, hi => by
    simp only [upto, Bool.and_eq_true] at h
    rcases Nat.lt_or_eq_of_le (Nat.le_of_lt_succ hi) with h1 | h1
    · exact upto_spec h.2 i h1
    · subst h1; exact h.1
/-- The slots that an operation looks at. -/
def eyes (l : List Oper) (o : Oper) : List Nat := (o.op.operands.toList.filterMap fun | .tmp t => some t | _ => none) ++ (match o.guard with | some (g, _) => ((l[g]?).bind (·.dst)).toList | none => [])
def rowOk (l : List Oper) (M : List Nat) (i : Nat) : Bool :=
  match l[i]? with
  | none => true
  | some o => !isSel o.op && (o.after.toList.all fun e => !Region.binds .any e || Nat.blt e.on i) && upto i (fun j => !Nat.testBit (M.getD i 0) j || edgeOk M o i j) && Nat.beq (Nat.shiftRight (M.getD i 0) i) 0 &&
      (List.range l.length).all (fun k => match (l[k]?).bind (·.dst) with
        | none => true
        | some d => (Nat.beq k i || !(match o.dst with | some e => Nat.beq d e | none => false)) && (!(eyes l o).contains d || Nat.testBit (M.getD i 0) k || Nat.testBit (M.getD k 0) i))
def listOk (l : List Oper) (M : List Nat) : Bool := upto l.length (rowOk l M)

/-- What is known of a value that an operation yields: in a world (kept by whatever makes memory alone), and of itself. -/
structure Spec where
  s : Value → World → Prop
  pl : Value → Prop
  stab : ∀ v w w', Below w.heap.size w w' → s v w → s v w'
  imp : ∀ v w, s v w → pl v
  inh : ∃ v, pl v
def Is (c : Value) : Spec := ⟨fun v _ => v = c, fun v => v = c, fun _ _ _ _ h => h, fun _ _ h => h, ⟨c, rfl⟩⟩
def Any (s : Value → World → Prop) (stab : ∀ v w w', Below w.heap.size w w' → s v w → s v w') : Spec := ⟨s, fun _ => True, stab, fun _ _ _ => trivial, ⟨undef, trivial⟩⟩

/-- What a run of an operation yields. -/
def Gives (P : Program) (s : Spec) (w : World) : Result Next → Prop
  | .ok (.value v) w' => s.s v w' ∧ Below w.heap.size w w'
  | .ok .skip w' => s.s undef w' ∧ Below w.heap.size w w'
  | .ok (.enter f args) w1 => w1 = w ∧ Calls P f args w fun e w' => ∃ v, e = .returned v ∧ s.s v w' ∧ Below w.heap.size w w'
  | _ => False

def StepOk (P : Program) (l : List Oper) (o : Oper) (G : Env) (w : World) (s : Spec) : Prop :=
  match o.guard with
  | none => known G o = true ∧ Gives P s w ((execOp (sEv G) o).run P w)
  | some (g, b) => (∃ t c, (l[g]?).bind (·.dst) = some t ∧ sLook G t = some (.bool c) ∧ (c = b → known G o = true ∧ Gives P s w ((execOp (sEv G) o).run P w)) ∧ (c ≠ b → s.s undef w)) ∨ (∃ t, (l[g]?).bind (·.dst) = some t ∧ sLook G t = some undef ∧ s.s undef w)

abbrev Facts := List (Spec × Value)
def Have (m : Nat) (F : Facts) (w : World) : Prop := ∀ (k : Nat) (s : Spec) (v : Value), F[k]? = some (s, v) → Nat.testBit m k = true → s.s v w
def HaveAll (F : Facts) (w : World) : Prop := ∀ (k : Nat) (s : Spec) (v : Value), F[k]? = some (s, v) → s.s v w

/-- The operations in the order of the text, each shown from what it waits for. -/
def Tele (P : Program) (n : Nat) (l : List Oper) (w0 : World) (M : List Nat) (E : Env → Facts → Prop) : List Oper → List Spec → List Nat → Facts → Env → Prop
  | [], [], [], F, G => E G F
  | o :: os, s :: ss, m :: ms, F, G => (∀ d, o.dst = some d → Nat.blt d n = true) ∧ (∀ w, Below w0.heap.size w0 w → Have m F w → StepOk P l o G w s) ∧ ∀ v, s.pl v → Tele P n l w0 M E os ss ms (F ++ [(s, v)]) (ext o.dst v G)
  | _, _, _, _, _ => False

def fz : List Spec → (Nat → Value) → Nat → Facts
  | [], _, _ => []
  | s :: ss, vs, k => (s, vs k) :: fz ss vs (k + 1)
def gz : List Oper → (Nat → Value) → Nat → Env → Env
  | [], _, _, G => G
  | o :: os, vs, k, G => gz os vs (k + 1) (ext o.dst (vs k) G)

theorem fz_get : ∀ (ss : List Spec) (vs : Nat → Value) (k j : Nat), (fz ss vs k)[j]? = (ss[j]?).map fun s => (s, vs (k + j))
  | [], _, _, _ => by simp [fz]
  | s :: ss, vs, k, 0 => by simp [fz]
  | s :: ss, vs, k, j + 1 => by
    simp only [fz, List.getElem?_cons_succ]
    rw [fz_get ss vs (k + 1) j, show k + 1 + j = k + (j + 1) by omega]
theorem fz_congr : ∀ (ss : List Spec) (vs vs' : Nat → Value) (k : Nat), (∀ j, k ≤ j → j < k + ss.length → vs j = vs' j) → fz ss vs k = fz ss vs' k
  | [], _, _, _, _ => rfl
  | s :: ss, vs, vs', k, h => by
    simp only [fz]
    rw [h k (Nat.le_refl _) (by simp), fz_congr ss vs vs' (k + 1) (fun j h1 h2 => h j (by omega) (by simp; omega))]

theorem gz_look : ∀ (os : List Oper) (vs : Nat → Value) (k : Nat) (G : Env) (t : Nat) (v : Value), sLook (gz os vs k G) t = some v →
    (∃ j o, os[j]? = some o ∧ o.dst = some t ∧ v = vs (k + j)) ∨ ((∀ (j : Nat) (o : Oper), os[j]? = some o → o.dst ≠ some t) ∧ sLook G t = some v)
  | [], _, _, G, t, v, h => .inr ⟨fun j o h => by simp at h, h⟩
  | o :: os, vs, k, G, t, v, h => by
    rcases gz_look os vs (k + 1) _ t v h with ⟨j, o', h1, h2, h3⟩ | ⟨h1, h2⟩
    · exact .inl ⟨j + 1, o', by simpa using h1, h2, by rw [h3]; congr 1; omega⟩
    · cases hd : o.dst with
      | none =>
        rw [hd] at h2
        refine .inr ⟨fun j o' hj => ?_, h2⟩
        cases j with
        | zero => simp at hj; subst hj; rw [hd]; simp
        | succ j => exact h1 j o' (by simpa using hj)
      | some d =>
        rw [hd] at h2
        simp only [ext] at h2
        rw [look_cons] at h2
        by_cases hs : d = t
        · subst hs
          rw [if_pos rfl] at h2
          exact .inl ⟨0, o, by simp, hd, by simpa using (Option.some.inj h2).symm⟩
        · rw [if_neg hs] at h2
          refine .inr ⟨fun j o' hj => ?_, h2⟩
          cases j with
          | zero => simp at hj; subst hj; rw [hd]; intro he; exact hs (Option.some.inj he)
          | succ j => exact h1 j o' (by simpa using hj)

theorem tele_at {l : List Oper} {w0 : World} {M : List Nat} {E : Env → Facts → Prop} : ∀ (os : List Oper) (ss : List Spec) (ms : List Nat) (F : Facts) (G : Env), Tele P n l w0 M E os ss ms F G → ∀ vs : Nat → Value, (∀ (j : Nat) (s : Spec), ss[j]? = some s → s.pl (vs (F.length + j))) →
    (∀ (j : Nat) (o : Oper), os[j]? = some o → ∃ s m, ss[j]? = some s ∧ ms[j]? = some m ∧ (∀ d, o.dst = some d → Nat.blt d n = true) ∧
      ∀ w, Below w0.heap.size w0 w → Have m (F ++ fz (ss.take j) vs F.length) w → StepOk P l o (gz (os.take j) vs F.length G) w s) ∧ E (gz os vs F.length G) (F ++ fz ss vs F.length)
  | [], [], [], F, G, h, vs, _ => ⟨fun j o hj => by simp at hj, by have h' : E G F := h; simpa [gz, fz] using h'⟩
  | o :: os, s :: ss, m :: ms, F, G, h, vs, hp => by
    obtain ⟨h2, h3, h4⟩ := h
    obtain ⟨h5, h6⟩ := tele_at os ss ms _ _ (h4 (vs F.length) (by simpa using hp 0 s rfl)) vs (fun j s' hj => by
      have := hp (j + 1) s' (by simpa using hj)
      simp only [List.length_append, List.length_cons, List.length_nil]
      rw [show F.length + (0 + 1) + j = F.length + (j + 1) by omega]
      exact this)
    have hlen : (F ++ [(s, vs F.length)]).length = F.length + 1 := by simp
    rw [hlen] at h5 h6
    refine ⟨fun j o' hj => ?_, by simpa [gz, fz] using h6⟩
    cases j with
    | zero =>
      simp at hj
      subst hj
      exact ⟨s, m, rfl, rfl, h2, fun w hb hh => by simpa [gz] using h3 w hb (by simpa [fz] using hh)⟩
    | succ j =>
      obtain ⟨s', m', e1, e2, e4, e5⟩ := h5 j o' (by simpa using hj)
      refine ⟨s', m', by simpa using e1, by simpa using e2, e4, fun w hb hh => ?_⟩
      have := e5 w hb (by simpa [fz] using hh)
      simpa [gz] using this
  | [], [], _ :: _, _, _, h, _, _ => h.elim
  | [], _ :: _, _, _, _, h, _, _ => h.elim
  | _ :: _, [], _, _, _, h, _, _ => h.elim
  | _ :: _, _ :: _, [], _, _, h, _, _ => h.elim

/-! #### Soundness -/
def cf : List Bool → Nat
  | [] => 0
  | b :: r => (if b then 0 else 1) + cf r
theorem cf_set : ∀ (l : List Bool) (i : Nat), l[i]? = some false → cf (l.set i true) + 1 = cf l
  | [], i, h => by simp at h
  | b :: r, 0, h => by simp at h; subst h; simp [cf]; omega
  | b :: r, i + 1, h => by
    have := cf_set r i (by simpa using h)
    simp only [List.set_cons_succ, cf]
    omega
theorem cf_zero : ∀ (l : List Bool), cf l = 0 → ∀ (i : Nat) (b : Bool), l[i]? = some b → b = true
  | [], _, i, b, h => by simp at h
  | c :: r, h0, 0, b, h => by simp at h; subst h; cases c <;> simp_all [cf]
  | c :: r, h0, i + 1, b, h => cf_zero r (by simp only [cf] at h0; omega) i b (by simpa using h)

theorem exec_eyes {l : List Oper} {o : Oper} {a : Act} (he : ∀ t ∈ eyes l o, ∀ v, sLook G t = some v → a.tmps[t]? = some v) (hk : known G o = true) : execOp a.eval o = execOp (sEv G) o := by
  simp only [known, Bool.and_eq_true, Bool.not_eq_true'] at hk
  refine execOp_congr o (noSel hk.1) fun x hx => ?_
  have hkx := knownL_mem hk.2 x (by simpa using hx)
  cases x with
  | tmp t =>
    simp only [knownO] at hkx
    obtain ⟨v, hv⟩ := Option.isSome_iff_exists.1 hkx
    have hm : t ∈ eyes l o := List.mem_append_left _ (List.mem_filterMap.2 ⟨.tmp t, by simpa using hx, rfl⟩)
    simp only [Act.eval, sEv, hv, Option.getD_some]
    simp [he t hm v hv]
  | const v => rfl
  | global g => rfl
  | func f => rfl

theorem listOk_sel {l : List Oper} {M : List Nat} (h : listOk l M = true) : ∀ (i : Nat) (o : Oper), l[i]? = some o → isSel o.op = false := by
  intro i o hi
  have h1 := upto_spec h i (List.getElem?_eq_some_iff.1 hi).1
  unfold rowOk at h1
  rw [hi] at h1
  simp only [Bool.and_eq_true, Bool.not_eq_true'] at h1
  exact h1.1.1.1.1

structure Inv (l : List Oper) (ss : List Spec) (cx : Cx) (n : Nat) (G : Env) (w0 : World) (vs : Nat → Value) (D : Array Bool) (a : Act) (w : World) : Prop where
  dsize : D.size = l.length
  closed : ∀ (j : Nat) (o : Oper), l[j]? = some o → D.getD j false = true → ∀ e ∈ o.after, Region.binds .any e = true → D.getD e.on false = true
  below : Below w0.heap.size w0 w
  facts : ∀ k s, D.getD k false = true → ss[k]? = some s → s.s (vs k) w
  pls : ∀ (k : Nat) (s : Spec), ss[k]? = some s → s.pl (vs k)
  size : a.tmps.size = n
  defers : a.defers = cx.ds
  old : ∀ t v, (∀ (k : Nat) (o : Oper), l[k]? = some o → o.dst = some t → D.getD k false = false) → sLook G t = some v → a.tmps[t]? = some v
  new : ∀ (k : Nat) (o : Oper) d, l[k]? = some o → o.dst = some d → D.getD k false = true → a.tmps[d]? = some (vs k)

structure Static (l : List Oper) (M : List Nat) : Prop where
  back : ∀ (i : Nat) (o : Oper), l[i]? = some o → ∀ e ∈ o.after, Region.binds .any e = true → e.on < i
  bits : ∀ (i : Nat) (o : Oper) j, l[i]? = some o → Nat.testBit (M.getD i 0) j = true → j < i ∧ ∃ e ∈ o.after, Region.binds .any e = true ∧ e.on < i ∧ (e.on = j ∨ Nat.testBit (M.getD e.on 0) j = true)
  uniq : ∀ (i k : Nat) (o o' : Oper) d, l[i]? = some o → l[k]? = some o' → o.dst = some d → o'.dst = some d → k = i
  seen : ∀ (i k : Nat) (o o' : Oper) d, l[i]? = some o → l[k]? = some o' → o'.dst = some d → d ∈ eyes l o → Nat.testBit (M.getD i 0) k = true ∨ Nat.testBit (M.getD k 0) i = true

theorem shift_zero {m i j : Nat} (h : Nat.shiftRight m i = 0) (hj : Nat.testBit m j = true) : j < i := by
  rcases Nat.lt_or_ge j i with h1 | h1
  · exact h1
  · have h2 : (m >>> i).testBit (j - i) = m.testBit j := by rw [Nat.testBit_shiftRight]; congr 1; omega
    have h3 : m >>> i = 0 := h
    rw [h3, hj] at h2
    simp at h2

theorem static_of {l : List Oper} {M : List Nat} (h : listOk l M = true) : Static l M := by
  have hr : ∀ (i : Nat) (o : Oper), l[i]? = some o → rowOk l M i = true := fun i o hi => upto_spec h i (List.getElem?_eq_some_iff.1 hi).1
  have hp : ∀ (i : Nat) (o : Oper), l[i]? = some o → ((∀ e ∈ o.after, Region.binds .any e = true → e.on < i) ∧ (∀ j, j < i → Nat.testBit (M.getD i 0) j = true → edgeOk M o i j = true) ∧ Nat.shiftRight (M.getD i 0) i = 0 ∧
      ∀ (k : Nat) (o' : Oper) d, l[k]? = some o' → o'.dst = some d → (k = i ∨ o.dst ≠ some d) ∧ (d ∈ eyes l o → Nat.testBit (M.getD i 0) k = true ∨ Nat.testBit (M.getD k 0) i = true)) := by
    intro i o hi
    have h1 := hr i o hi
    unfold rowOk at h1
    rw [hi] at h1
    simp only [Bool.and_eq_true] at h1
    obtain ⟨⟨⟨⟨_, h2⟩, h3⟩, h4⟩, h5⟩ := h1
    refine ⟨fun e he hb => ?_, fun j hj hm => ?_, Nat.eq_of_beq_eq_true h4, fun k o' d hk hd => ?_⟩
    · have := List.all_eq_true.1 h2 e (by simpa using he)
      simpa [hb] using this
    · have := upto_spec h3 j hj
      rw [hm] at this
      simpa using this
    · have h6 := List.all_eq_true.1 h5 k (List.mem_range.2 (List.getElem?_eq_some_iff.1 hk).1)
      rw [hk] at h6
      simp only [Option.bind_some, hd, Bool.and_eq_true, Bool.or_eq_true, Bool.not_eq_true'] at h6
      refine ⟨h6.1.imp Nat.eq_of_beq_eq_true (fun h7 h8 => ?_), fun hm => ?_⟩
      · rw [h8] at h7
        simp at h7
      · rcases h6.2 with (h7 | h7) | h7
        · have : (eyes l o).contains d = true := by simpa using hm
          rw [this] at h7
          cases h7
        · exact .inl h7
        · exact .inr h7
  refine ⟨fun i o hi => (hp i o hi).1, fun i o j hi hm => ?_, fun i k o o' d hi hk hd hd' => ?_, fun i k o o' d hi hk hd hm => ((hp i o hi).2.2.2 k o' d hk hd).2 hm⟩
  · have hlt := shift_zero (hp i o hi).2.2.1 hm
    have h2 := (hp i o hi).2.1 j hlt hm
    simp only [edgeOk] at h2
    obtain ⟨e, he, h3⟩ := List.any_eq_true.1 h2
    simp only [Bool.and_eq_true, Bool.or_eq_true] at h3
    exact ⟨hlt, e, by simpa using he, h3.1, by simpa using h3.2.1, h3.2.2.imp Nat.eq_of_beq_eq_true id⟩
  · exact (((hp i o hi).2.2.2 k o' d hk hd').1).resolve_right (fun h => h hd)

theorem mask_listed {l : List Oper} {M : List Nat} (hs : Static l M) {D : Array Bool} (hc : ∀ (j : Nat) (o : Oper), l[j]? = some o → D.getD j false = true → ∀ e ∈ o.after, Region.binds .any e = true → D.getD e.on false = true) :
    ∀ (i : Nat) (o : Oper) j, l[i]? = some o → (∀ e ∈ o.after, Region.binds .any e = true → D.getD e.on false = true) → Nat.testBit (M.getD i 0) j = true → D.getD j false = true := by
  intro i
  induction i using Nat.strongRecOn with
  | _ i ih =>
    intro o j hi hpre hm
    obtain ⟨_, e, he, hb, hlt, h1⟩ := hs.bits i o j hi hm
    rcases h1 with h1 | h1
    · rw [← h1]; exact hpre e he hb
    · have hel : e.on < l.length := Nat.lt_trans hlt (List.getElem?_eq_some_iff.1 hi).1
      have hoe : l[e.on]? = some l[e.on] := List.getElem?_eq_getElem hel
      exact ih e.on hlt l[e.on] j hoe (hc e.on _ hoe (hpre e he hb)) h1

theorem getD_or {D : Array Bool} {i : Nat} (h : D.getD i false = false) (hi : i < D.size) : D.getD i true = false := by
  simp [hi] at h ⊢; exact h
theorem getD_no {D : Array Bool} {i : Nat} (h : D.getD i true = false) : D.getD i false = false := by
  rcases Nat.lt_or_ge i D.size with hi | hi
  · simp [hi] at h ⊢; exact h
  · simp [Array.getElem?_eq_none hi]

theorem all_listed {l : List Oper} {M : List Nat} (hs : Static l M) {D : Array Bool} (hsz : D.size = l.length) (hr : Region.ready .any l.toArray D = []) : ∀ i, i < l.length → D.getD i false = true := by
  intro i
  induction i using Nat.strongRecOn with
  | _ i ih =>
    intro hi
    cases hd : D.getD i false with
    | true => rfl
    | false =>
      have hoi : l[i]? = some l[i] := List.getElem?_eq_getElem hi
      have : i ∈ Region.ready .any l.toArray D := by
        rw [mem_ready]
        refine ⟨getD_or hd (by omega), l[i], by simp [hi], fun e he hb => ?_⟩
        have hlt := hs.back i _ hoi e he hb
        exact ih e.on hlt (by omega)
      rw [hr] at this
      cases this

theorem set_getD_same {D : Array Bool} {i : Nat} (hi : i < D.size) : (D.setIfInBounds i true).getD i false = true := by simp [hi]

theorem Inv.step {l : List Oper} {ss : List Spec} {M : List Nat} {w0 : World} {vs : Nat → Value} {D : Array Bool} {a : Act} {w w' : World} (hs : Static l M) (h : Inv l ss cx n G w0 vs D a w)
    {i : Nat} {o : Oper} (hi : l[i]? = some o) (hdn : ∀ d, o.dst = some d → Nat.blt d n = true) (hun : D.getD i false = false) (hpre : ∀ e ∈ o.after, Region.binds .any e = true → D.getD e.on false = true) {s : Spec} (hsi : ss[i]? = some s) {v : Value} (hv : s.s v w') (hb : Below w.heap.size w w') :
    Inv l ss cx n G w0 (fun k => if k = i then v else vs k) (D.setIfInBounds i true) (a.put o.dst v) w' := by
  have hil : i < l.length := (List.getElem?_eq_some_iff.1 hi).1
  have hiD : i < D.size := by rw [h.dsize]; exact hil
  have hne : ∀ {k : Nat}, k ≠ i → (D.setIfInBounds i true).getD k false = D.getD k false := fun hk => by simp [Array.getElem?_setIfInBounds_ne (Ne.symm hk)]
  have hup : ∀ {k : Nat}, D.getD k false = true → (D.setIfInBounds i true).getD k false = true := fun {k} hk => by
    by_cases hki : k = i
    · subst hki; rw [hun] at hk; cases hk
    · rw [hne hki]; exact hk
  refine ⟨by simp [h.dsize], fun j oj hj hl e he hbd => ?_, h.below.trans (hb.mono h.below.size), fun k sk hl hk => ?_, fun k sk hk => ?_, ?_, ?_, fun t u hno hl => ?_, fun k ok d hk hd hl => ?_⟩
  · by_cases hji : j = i
    · subst hji
      have : oj = o := Option.some.inj (hj.symm.trans hi)
      subst this
      exact hup (hpre e he hbd)
    · rw [hne hji] at hl
      exact hup (h.closed j oj hj hl e he hbd)
  · by_cases hki : k = i
    · subst hki
      have : sk = s := Option.some.inj (hk.symm.trans hsi)
      subst this
      simpa using hv
    · rw [hne hki] at hl
      simpa [hki] using sk.stab _ _ _ hb (h.facts k sk hl hk)
  · by_cases hki : k = i
    · subst hki
      have : sk = s := Option.some.inj (hk.symm.trans hsi)
      subst this
      simpa using sk.imp _ _ hv
    · simpa [hki] using h.pls k sk hk
  · cases hd : o.dst <;> simp [Act.put, h.size]
  · cases hd : o.dst <;> simp [Act.put, h.defers]
  · have h1 : a.tmps[t]? = some u := h.old t u (fun k ok hk hd => by
      have := hno k ok hk hd
      by_cases hki : k = i
      · subst hki; exact hun
      · rwa [hne hki] at this) hl
    cases hd : o.dst with
    | none => simpa [Act.put] using h1
    | some d =>
      by_cases hdt : d = t
      · subst hdt
        have := hno i o hi hd
        rw [set_getD_same hiD] at this
        cases this
      · simp only [Act.put]
        rw [Array.getElem?_setIfInBounds_ne hdt]
        exact h1
  · by_cases hki : k = i
    · subst hki
      have : ok = o := Option.some.inj (hk.symm.trans hi)
      subst this
      have hlt : d < a.tmps.size := by rw [h.size]; simpa using hdn d hd
      simp [Act.put, hd, hlt]
    · rw [hne hki] at hl
      have h1 := h.new k ok d hk hd hl
      simp only [hki, if_false]
      cases hd' : o.dst with
      | none => simpa [Act.put] using h1
      | some d' =>
        have hdd : d' ≠ d := fun he => hki (hs.uniq i k o ok d hi hk (by rw [hd', he]) hd)
        simp only [Act.put]
        rw [Array.getElem?_setIfInBounds_ne hdd]
        exact h1

/-- From number k on each operation waits for all ahead of it. -/
def tailOk (M : List Nat) (k : Nat) : Nat → Bool
  | 0 => true
  | i + 1 => (Nat.blt i k || Nat.beq (M.getD i 0) (2 ^ i - 1)) && tailOk M k i
theorem tail_spec {M : List Nat} {k : Nat} : ∀ {n : Nat}, tailOk M k n = true → ∀ i, k ≤ i → i < n → ∀ j, j < i → Nat.testBit (M.getD i 0) j = true
  | 0, _, i, _, hi, _, _ => absurd hi (Nat.not_lt_zero i)
  | n + 1, h, i, hk, hi, j, hj => by
    simp only [tailOk, Bool.and_eq_true, Bool.or_eq_true] at h
    rcases Nat.lt_or_eq_of_le (Nat.le_of_lt_succ hi) with h1 | h1
    · exact tail_spec h.2 i hk h1 j hj
    · subst h1
      rcases h.1 with h2 | h2
      · have : i < k := by simpa using h2
        omega
      · rw [Nat.eq_of_beq_eq_true h2, Nat.testBit_two_pow_sub_one]
        simpa using hj

theorem wpAny_tail {l : List Oper} {M : List Nat} {k : Nat} (hs : Static l M) (htl : tailOk M k l.length = true) :
    ∀ (m j : Nat), l.length - j = m → k ≤ j → j ≤ l.length → ∀ (fuel : Nat) (D : Array Bool) (a : Act) (w : World), D.size = l.length → (∀ i, i < l.length → (D.getD i false = true ↔ i < j)) → cf D.toList ≤ fuel →
      wpList P l.toArray Q (l.drop j) a w → wpAny P .any l.toArray Q fuel D a w := by
  intro m
  induction m with
  | zero =>
    intro j hm hkj hjl fuel D a w hD hl hc h
    have hj : j = l.length := by omega
    subst hj
    rw [List.drop_length] at h
    have hr : Region.ready .any l.toArray D = [] := by
      cases hr : Region.ready .any l.toArray D with
      | nil => rfl
      | cons i r =>
        have : i ∈ Region.ready .any l.toArray D := by rw [hr]; exact List.mem_cons_self
        obtain ⟨h1, o, h2, _⟩ := mem_ready.1 this
        have hil : i < l.length := (List.getElem?_eq_some_iff.1 (by simpa using h2 : l[i]? = some o)).1
        have := (hl i hil).2 hil
        rw [getD_no h1] at this
        cases this
    cases fuel with
    | zero => exact ⟨hr, h⟩
    | succ fuel => exact ⟨fun _ => h, fun i hi => by rw [hr] at hi; cases hi⟩
  | succ m ih =>
    intro j hm hkj hjl fuel D a w hD hl hc h
    have hjlt : j < l.length := by omega
    have hcl : ∀ (i : Nat) (o : Oper), l[i]? = some o → D.getD i false = true → ∀ e ∈ o.after, Region.binds .any e = true → D.getD e.on false = true := fun i o hi hd e he hb => by
      have h1 := (hl i (List.getElem?_eq_some_iff.1 hi).1).1 hd
      have h2 := hs.back i o hi e he hb
      exact (hl e.on (by omega)).2 (by omega)
    have hunj : D.getD j false = false := by
      cases hd : D.getD j false with
      | false => rfl
      | true => have := (hl j hjlt).1 hd; omega
    cases fuel with
    | zero =>
      have := cf_zero D.toList (by omega) j D[j] (by simp [hD, hjlt])
      simp [hD, hjlt, this] at hunj
    | succ fuel =>
      refine ⟨fun hr => ?_, fun i hi => ?_⟩
      · have := all_listed hs hD hr j hjlt
        rw [hunj] at this
        cases this
      · obtain ⟨h1, o, h2, hpre⟩ := mem_ready.1 hi
        have hoi : l[i]? = some o := by simpa using h2
        have hil : i < l.length := (List.getElem?_eq_some_iff.1 hoi).1
        have hge : j ≤ i := by
          rcases Nat.lt_or_ge i j with hlt | hge
          · have := (hl i hil).2 hlt
            rw [getD_no h1] at this
            cases this
          · exact hge
        have hij : i = j := by
          rcases Nat.lt_or_eq_of_le hge with hlt | he
          · have := mask_listed hs hcl i o j hoi hpre (tail_spec htl i (by omega) hil j hlt)
            rw [hunj] at this
            cases this
          · exact he.symm
        subst hij
        have hdr : l.drop i = o :: l.drop (i + 1) := by
          rw [List.drop_eq_getElem_cons hil]
          congr 1
          exact Option.some.inj ((List.getElem?_eq_getElem hil).symm.trans hoi)
        have hnext : ∀ a' w', wpList P l.toArray Q (l.drop (i + 1)) a' w' → wpAny P .any l.toArray Q fuel (D.setIfInBounds i true) a' w' := fun a' w' h' => by
          refine ih (i + 1) (by omega) (by omega) (by omega) fuel _ a' w' (by simp [hD]) (fun q hq => ?_) ?_ h'
          · by_cases hqi : q = i
            · subst hqi
              simp [hD, hq]
            · have : (D.setIfInBounds i true).getD q false = D.getD q false := by simp [Array.getElem?_setIfInBounds_ne (Ne.symm hqi)]
              rw [this, hl q hq]
              omega
          · have := cf_set D.toList i (by simp [hD, hil] at hunj ⊢; exact hunj)
            rw [Array.toList_setIfInBounds]
            omega
        rw [hdr] at h
        unfold wpList at h
        unfold wpOp
        rw [h2]
        simp only
        split at h
        · rename_i hw
          rw [if_pos hw]
          exact h.imp (Oper.wp_mono hnext) id
        · rename_i hw
          rw [if_neg hw]
          exact hnext _ _ h

theorem wpAny_flow {l : List Oper} {ss : List Spec} {M : List Nat} {w0 : World} {k : Nat} (hs : Static l M) (hkl : k ≤ l.length) (htl : tailOk M k l.length = true)
    (ht : ∀ vs : Nat → Value, (∀ (k : Nat) (s : Spec), ss[k]? = some s → s.pl (vs k)) → (∀ (j : Nat) (o : Oper), j < k → l[j]? = some o → ∃ s m, ss[j]? = some s ∧ M[j]? = some m ∧ (∀ d, o.dst = some d → Nat.blt d n = true) ∧
      ∀ w, Below w0.heap.size w0 w → Have m (fz (ss.take j) vs 0) w → StepOk P l o (gz (l.take j) vs 0 G) w s) ∧ (∀ w, Below w0.heap.size w0 w → HaveAll (fz ss vs 0) w → ∀ a, Fits cx n (gz (l.take k) vs 0 G) a → wpList P l.toArray Q (l.drop k) a w)) (hsl : ss.length = k) :
    ∀ (fuel : Nat) (D : Array Bool) (a : Act) (w : World) (vs : Nat → Value), cf D.toList ≤ fuel → Inv l ss cx n G w0 vs D a w → (∀ i, k ≤ i → i < l.length → D.getD i false = false) → wpAny P .any l.toArray Q fuel D a w := by
  have hfin : ∀ (D : Array Bool) (a : Act) (w : World) (vs : Nat → Value), Inv l ss cx n G w0 vs D a w → (∀ i, i < k → D.getD i false = true) → (∀ i, k ≤ i → i < l.length → D.getD i false = false) → wpList P l.toArray Q (l.drop k) a w := fun D a w vs h hall hno => by
    refine (ht vs h.pls).2 w h.below (fun k s v hk => ?_) a ⟨h.size, h.defers, fun t v hl => ?_⟩
    · rw [fz_get] at hk
      cases hsk : ss[k]? with
      | none => rw [hsk] at hk; simp at hk
      | some s' =>
        rw [hsk] at hk
        simp only [Option.map_some, Option.some.injEq, Prod.mk.injEq, Nat.zero_add] at hk
        obtain ⟨rfl, rfl⟩ := hk
        exact h.facts k s' (hall k (by have := (List.getElem?_eq_some_iff.1 hsk).1; omega)) hsk
    · rcases gz_look (l.take k) vs 0 G t v hl with ⟨j, o, h1, h2, h3⟩ | ⟨h1, h2⟩
      · rw [h3, Nat.zero_add]
        have hjk : j < k := by
          have := (List.getElem?_eq_some_iff.1 h1).1
          simp at this; omega
        rw [List.getElem?_take, if_pos hjk] at h1
        exact h.new j o t h1 h2 (hall j hjk)
      · refine h.old t v (fun q o hq hd => ?_) h2
        rcases Nat.lt_or_ge q k with hqk | hqk
        · exact absurd hd (h1 q o (by rw [List.getElem?_take, if_pos hqk]; exact hq))
        · exact hno q hqk (List.getElem?_eq_some_iff.1 hq).1
  have hdone : ∀ (fuel : Nat) (D : Array Bool) (a : Act) (w : World) (vs : Nat → Value), cf D.toList ≤ fuel → Inv l ss cx n G w0 vs D a w → (∀ i, i < k → D.getD i false = true) → (∀ i, k ≤ i → i < l.length → D.getD i false = false) → wpAny P .any l.toArray Q fuel D a w := fun fuel D a w vs hc h hall hno =>
    wpAny_tail hs htl (l.length - k) k rfl (Nat.le_refl _) hkl fuel D a w h.dsize (fun i hi => ⟨fun hd => (Nat.lt_or_ge i k).resolve_right (fun q => by rw [hno i q hi] at hd; exact Bool.noConfusion hd), fun q => hall i q⟩) hc (hfin D a w vs h hall hno)
  intro fuel
  induction fuel with
  | zero =>
    intro D a w vs hc h hno
    refine hdone 0 D a w vs hc h (fun i hi => ?_) hno
    have hiD : i < D.size := by rw [h.dsize]; omega
    have := cf_zero D.toList (by omega) i D[i] (by simp [hiD])
    simp [hiD, this]
  | succ fuel ih =>
    intro D a w vs hc h hno
    by_cases hall : ∀ i, i < k → D.getD i false = true
    · exact hdone _ D a w vs hc h hall hno
    obtain ⟨q, hq, hqn⟩ : ∃ q, q < k ∧ D.getD q false = false := by
      refine Classical.byContradiction fun hne => hall fun i hi => ?_
      cases hd : D.getD i false with
      | true => rfl
      | false => exact absurd ⟨i, hi, hd⟩ hne
    refine ⟨fun hr => (by have := all_listed hs h.dsize hr q (by omega); rw [hqn] at this; cases this), fun i hi => ?_⟩
    obtain ⟨h1, o, h2, hpre⟩ := mem_ready.1 hi
    have hun := getD_no h1
    have hoi : l[i]? = some o := by simpa using h2
    have hil : i < l.length := (List.getElem?_eq_some_iff.1 hoi).1
    have hik : i < k := by
      rcases Nat.lt_or_ge i k with hlt | hge
      · exact hlt
      · have := mask_listed hs h.closed i o q hoi hpre (tail_spec htl i hge hil q (by omega))
        rw [hqn] at this; cases this
    obtain ⟨s, m, hs1, hm1, hdn, hstep⟩ := (ht vs h.pls).1 i o hik hoi
    have hmi : M.getD i 0 = m := by simp [hm1]
    have hmask := mask_listed hs h.closed i o
    have hok := hstep w h.below (fun k s' v hk hb => by
      rw [fz_get] at hk
      cases hsk : (ss.take i)[k]? with
      | none => rw [hsk] at hk; simp at hk
      | some s'' =>
        rw [hsk] at hk
        simp only [Option.map_some, Option.some.injEq, Prod.mk.injEq, Nat.zero_add] at hk
        obtain ⟨rfl, rfl⟩ := hk
        refine h.facts k s'' (hmask k hoi hpre (by rw [hmi]; exact hb)) ?_
        rw [List.getElem?_take] at hsk
        split at hsk
        · exact hsk
        · simp at hsk)
    have heyes : ∀ t ∈ eyes l o, ∀ v, sLook (gz (l.take i) vs 0 G) t = some v → a.tmps[t]? = some v := fun t hte v hl => by
      rcases gz_look (l.take i) vs 0 G t v hl with ⟨j, o', g1, g2, g3⟩ | ⟨g1, g2⟩
      · have hji : j < i := by
          have := (List.getElem?_eq_some_iff.1 g1).1
          simp at this; omega
        have g1' : l[j]? = some o' := by
          rw [List.getElem?_take] at g1
          rw [if_pos hji] at g1
          exact g1
        rw [g3, Nat.zero_add]
        refine h.new j o' t g1' g2 ?_
        rcases hs.seen i j o o' t hoi g1' g2 hte with g | g
        · exact hmask j hoi hpre g
        · have := (hs.bits j o' i g1' g).1; omega
      · refine h.old t v (fun k ok hk hd => ?_) g2
        cases hDk : D.getD k false with
        | false => rfl
        | true =>
          exfalso
          rcases Nat.lt_trichotomy k i with g | g | g
          · refine g1 k ok ?_ hd
            rw [List.getElem?_take, if_pos g]; exact hk
          · subst g; rw [hun] at hDk; cases hDk
          · rcases hs.seen i k o ok t hoi hk hd hte with q | q
            · have := (hs.bits i o k hoi q).1; omega
            · have := mask_listed hs h.closed k ok i hk (h.closed k ok hk hDk) q
              rw [hun] at this; cases this
    have hcf : cf (D.setIfInBounds i true).toList ≤ fuel := by
      have hiD : i < D.size := by rw [h.dsize]; exact hil
      have := cf_set D.toList i (by simp [hiD] at hun ⊢; exact hun)
      rw [Array.toList_setIfInBounds]
      omega
    have hgo : ∀ v w', s.s v w' → Below w.heap.size w w' → wpAny P .any l.toArray Q fuel (D.setIfInBounds i true) (a.put o.dst v) w' := fun v w' hv hb =>
      ih _ _ _ _ hcf (h.step hs hoi hdn hun hpre hs1 hv hb) (fun q hq hql => by
        have hqi : q ≠ i := by omega
        have : (D.setIfInBounds i true).getD q false = D.getD q false := by simp [Array.getElem?_setIfInBounds_ne (Ne.symm hqi)]
        rw [this]; exact hno q hq hql)
    have hrun : known (gz (l.take i) vs 0 G) o = true ∧ Gives P s w ((execOp (sEv (gz (l.take i) vs 0 G)) o).run P w) → o.wp P a w (wpAny P .any l.toArray Q fuel (D.setIfInBounds i true)) Q := fun ⟨hk, hg⟩ => by
      unfold Oper.wp
      rw [exec_eyes heyes hk]
      generalize (execOp (sEv (gz (l.take i) vs 0 G)) o).run P w = r at hg ⊢
      cases r with
      | halt x w' => exact hg.elim
      | ok x w' =>
        cases x with
        | value v => exact hgo v w' hg.1 hg.2
        | skip => exact hgo undef w' hg.1 hg.2
        | enter f args =>
          obtain ⟨rfl, hcall⟩ := hg
          refine hcall.mono fun e w'' he => ?_
          obtain ⟨v, rfl, hv, hb⟩ := he
          exact hgo v w'' hv hb
        | _ => exact hg.elim
    unfold wpOp
    rw [h2]
    simp only
    unfold StepOk at hok
    cases hgd : o.guard with
    | none =>
      rw [hgd] at hok
      rw [if_pos (wanted_none hgd _)]
      exact .inl (hrun hok)
    | some gb =>
      obtain ⟨g, b⟩ := gb
      rw [hgd] at hok
      rcases hok with ⟨t, c, q1, q2, q3, q4⟩ | ⟨t, q1, q2, q4⟩
      rotate_left
      · have hte : t ∈ eyes l o := by
          refine List.mem_append_right _ ?_
          rw [hgd]
          simp [q1]
        have hw : Region.wanted o (yielded l.toArray a.tmps) = false := by
          have q1' : ((l.toArray)[g]?).bind (·.dst) = some t := by simpa using q1
          have q5 : yielded l.toArray a.tmps g = none := by
            unfold yielded
            rw [q1']
            simp [heyes t hte _ q2, undef]
          unfold Region.wanted
          rw [hgd]
          simp only [q5]
          rfl
        rw [if_neg (by rw [hw]; simp)]
        exact hgo undef w q4 (Below.refl _ _)
      have hte : t ∈ eyes l o := by
        refine List.mem_append_right _ ?_
        rw [hgd]
        simp [q1]
      have hw : Region.wanted o (yielded l.toArray a.tmps) = (c == b) := by
        have q1' : ((l.toArray)[g]?).bind (·.dst) = some t := by simpa using q1
        have q5 : yielded l.toArray a.tmps g = some c := by
          unfold yielded
          rw [q1']
          simp [heyes t hte _ q2]
        unfold Region.wanted
        rw [hgd]
        simp only [q5]
        cases c <;> cases b <;> rfl
      by_cases hc : c = b
      · rw [if_pos (by rw [hw]; simp [hc])]
        exact .inl (hrun (q3 hc))
      · rw [if_neg (by rw [hw]; simp [hc])]
        exact hgo undef w (q4 hc) (Below.refl _ _)

/-- A region whose order is open: the first k operations in whatever order; those behind wait for all ahead of them and are walked as in a plain region. -/
theorem w_drawk {id : Nat} {l : List Oper} {M : List Nat} {ss : List Spec} (k : Nat) (hm : P.follows .mixedOrders = true) (hok : (listOk l M && Nat.beq M.length l.length && tailOk M k l.length && Nat.ble k l.length) = true)
    (h : Tele P n l w.drew M (fun G' F => ∀ w', Below w.drew.heap.size w.drew w' → HaveAll F w' → RW P l.toArray cx n (Ks cx P st Q) (l.drop k) G' w') (l.take k) ss (M.take k) [] G) : W P cx n Q (Itm.code (.region id l.toArray true) :: st) G w := fun a ha => by
  simp only [Bool.and_eq_true] at hok
  obtain ⟨⟨⟨hok1, hM0⟩, htl⟩, hkl0⟩ := hok
  have hM := Nat.eq_of_beq_eq_true hM0
  have hkl := Nat.le_of_ble_eq_true hkl0
  have ht := fun vs hp => tele_at (P := P) (l.take k) ss (M.take k) [] G h vs hp
  have hsl : ss.length = k := by
    have aux : ∀ (os : List Oper) (ss : List Spec) (ms : List Nat) (F : Facts) (G : Env) (E : Env → Facts → Prop), Tele P n l w.drew M E os ss ms F G → ss.length = os.length := by
      intro os
      induction os with
      | nil => intro ss ms F G E h; cases ss with
        | nil => rfl
        | cons => cases ms <;> exact h.elim
      | cons o os ih => intro ss ms F G E h; cases ss with
        | nil => cases ms <;> exact h.elim
        | cons s ss => cases ms with
          | nil => exact h.elim
          | cons m ms => obtain ⟨v, hv⟩ := s.inh; simp only [List.length_cons]; rw [ih ss ms _ _ E (h.2.2 v hv)]
    rw [aux _ _ _ _ _ _ h, List.length_take]; omega
  refine drawn_in hm (fun i o hi => listOk_sel hok1 i o (by simpa using hi)) (wpAny_flow (cx := cx) (n := n) (G := G) (Q := Ks cx P st Q) (ss := ss) (w0 := w.drew) (k := k) (static_of hok1) hkl htl (fun vs hp => ?_) hsl _ _ a _ (fun j => match ss[j]? with | some s => Classical.choose s.inh | none => undef) ?_ ?_ ?_)
  · obtain ⟨h1, h2⟩ := ht vs (fun j s hj => by simpa using hp j s hj)
    refine ⟨fun j o hjk hj => ?_, fun w' hb hh a' ha' => ?_⟩
    · obtain ⟨s, m, e1, e2, e4, e5⟩ := h1 j o (by rw [List.getElem?_take, if_pos hjk]; exact hj)
      have e2' : M[j]? = some m := by rw [List.getElem?_take, if_pos hjk] at e2; exact e2
      have htt : (l.take k).take j = l.take j := by rw [List.take_take]; congr 1; omega
      exact ⟨s, m, e1, e2', e4, fun w' hb hh => by have := e5 w' hb (by simpa using hh); rw [htt] at this; simpa using this⟩
    · exact (h2 w' hb (by simpa using hh)) a' (by simpa using ha')
  · have : ∀ k, cf (List.replicate k false) = k := by
      intro k; induction k with
      | zero => rfl
      | succ k ih => simp only [List.replicate_succ, cf, ih]; simp; omega
    simp [this]
  · refine ⟨by simp, fun j o hj hl => ?_, Below.refl _ _, fun k s hl => ?_, fun k s hk => ?_, ha.size, ha.defers, fun t v _ hl => ha.at_ t v hl, fun k o d hk hd hl => ?_⟩
    · simp [Array.getElem?_replicate] at hl; split at hl <;> simp at hl
    · simp [Array.getElem?_replicate] at hl; split at hl <;> simp at hl
    · simp only [hk]
      exact Classical.choose_spec s.inh
    · simp [Array.getElem?_replicate] at hl; split at hl <;> simp at hl
  · intro i _ hi
    simp [Array.getElem?_replicate, hi]

/-- All operations in whatever order. -/
theorem w_draw {id : Nat} {l : List Oper} {M : List Nat} {ss : List Spec} (hm : P.follows .mixedOrders = true) (hok : (listOk l M && Nat.beq M.length l.length) = true)
    (h : Tele P n l w.drew M (fun G' F => ∀ w', Below w.drew.heap.size w.drew w' → HaveAll F w' → W P cx n Q st G' w') l ss M [] G) : W P cx n Q (Itm.code (.region id l.toArray true) :: st) G w := by
  have htail : ∀ n, tailOk M l.length n = true ∨ l.length < n := by
    intro n
    induction n with
    | zero => exact .inl rfl
    | succ n ih =>
      rcases ih with ih | ih
      · rcases Nat.lt_or_ge n l.length with q | q
        · refine .inl ?_
          simp only [tailOk, Bool.and_eq_true, Bool.or_eq_true]
          exact ⟨.inl (by simpa using q), ih⟩
        · exact .inr (by omega)
      · exact .inr (by omega)
  have hok2 := hok
  simp only [Bool.and_eq_true] at hok2
  have hM := Nat.eq_of_beq_eq_true hok2.2
  refine w_drawk (M := M) (ss := ss) l.length hm ?_ ?_
  · simp only [Bool.and_eq_true]
    exact ⟨⟨hok2, (htail l.length).resolve_right (Nat.lt_irrefl _)⟩, by simp⟩
  · rw [List.take_length, List.take_of_length_le (by omega), List.drop_length]
    have aux : ∀ (os : List Oper) (ss : List Spec) (ms : List Nat) (F : Facts) (G : Env) (E E' : Env → Facts → Prop), (∀ G F, E G F → E' G F) → Tele P n l w.drew M E os ss ms F G → Tele P n l w.drew M E' os ss ms F G := by
      intro os
      induction os with
      | nil => intro ss ms F G E E' hE h; cases ss with
        | nil => cases ms with
          | nil => exact hE _ _ h
          | cons => exact h.elim
        | cons => cases ms <;> exact h.elim
      | cons o os ih => intro ss ms F G E E' hE h; cases ss with
        | nil => cases ms <;> exact h.elim
        | cons s ss => cases ms with
          | nil => exact h.elim
          | cons m ms => exact ⟨h.1, h.2.1, fun v hv => ih ss ms _ _ E E' hE (h.2.2 v hv)⟩
    exact aux l ss M [] G _ _ (fun G F hE w' hb hh => rw_end (hE w' hb hh)) h

/-! #### The steps -/
variable {l : List Oper} {w0 : World} {M : List Nat} {E : Env → Facts → Prop} {os : List Oper} {ss : List Spec} {ms : List Nat} {m : Nat} {F : Facts} {o : Oper}
/-- A value that is known. -/
theorem t_is {d : Nat} (c : Value) (hg : o.guard = none) (hd : o.dst = some d) (hdn : Nat.blt d n = true) (hk : known G o = true)
    (hrun : ∀ w, Below w0.heap.size w0 w → Have m F w → (execOp (sEv G) o).run P w = .ok (.value c) w)
    (k : Tele P n l w0 M E os ss ms (F ++ [(Is c, c)]) ((d, c) :: G)) : Tele P n l w0 M E (o :: os) (Is c :: ss) (m :: ms) F G := by
  refine ⟨fun d' h => by rw [hd] at h; cases h; exact hdn, fun w hb hh => ?_, fun v hv => ?_⟩
  · unfold StepOk
    rw [hg]
    refine ⟨hk, ?_⟩
    rw [hrun w hb hh]
    exact ⟨rfl, Below.refl _ _⟩
  · have : v = c := hv
    subst this
    rw [hd]
    exact k
/-- A value of which something is known. -/
theorem t_val {d : Nat} (s : Spec) (hg : o.guard = none) (hd : o.dst = some d) (hdn : Nat.blt d n = true) (hk : known G o = true)
    (hrun : ∀ w, Below w0.heap.size w0 w → Have m F w → ∃ v w', (execOp (sEv G) o).run P w = .ok (.value v) w' ∧ s.s v w' ∧ Below w.heap.size w w')
    (k : ∀ v, s.pl v → Tele P n l w0 M E os ss ms (F ++ [(s, v)]) ((d, v) :: G)) : Tele P n l w0 M E (o :: os) (s :: ss) (m :: ms) F G := by
  refine ⟨fun d' h => by rw [hd] at h; cases h; exact hdn, fun w hb hh => ?_, fun v hv => ?_⟩
  · unfold StepOk
    rw [hg]
    refine ⟨hk, ?_⟩
    obtain ⟨v, w', h1, h2, h3⟩ := hrun w hb hh
    rw [h1]
    exact ⟨h2, h3⟩
  · rw [hd]
    exact k v hv
/-- A call by its contract. -/
theorem t_call {d : Nat} (s : Spec) {f : FuncId} {args : Array Value} (hg : o.guard = none) (hd : o.dst = some d) (hdn : Nat.blt d n = true) (hk : known G o = true)
    (hrun : ∀ w, (execOp (sEv G) o).run P w = .ok (.enter f args) w)
    (hc : ∀ w, Below w0.heap.size w0 w → Have m F w → Calls P f args w fun e w' => ∃ v, e = .returned v ∧ s.s v w' ∧ Below w.heap.size w w')
    (k : ∀ v, s.pl v → Tele P n l w0 M E os ss ms (F ++ [(s, v)]) ((d, v) :: G)) : Tele P n l w0 M E (o :: os) (s :: ss) (m :: ms) F G := by
  refine ⟨fun d' h => by rw [hd] at h; cases h; exact hdn, fun w hb hh => ?_, fun v hv => ?_⟩
  · unfold StepOk
    rw [hg]
    refine ⟨hk, ?_⟩
    rw [hrun w]
    exact ⟨rfl, hc w hb hh⟩
  · rw [hd]
    exact k v hv
/-- Guarded: the guard is known to be off. -/
theorem t_off {g t d : Nat} {b c : Bool} (hg : o.guard = some (g, b)) (ht : (l[g]?).bind (·.dst) = some t) (hl : sLook G t = some (.bool c)) (hne : (c == b) = false) (hd : o.dst = some d) (hdn : Nat.blt d n = true)
    (k : Tele P n l w0 M E os ss ms (F ++ [(Is undef, undef)]) ((d, undef) :: G)) : Tele P n l w0 M E (o :: os) (Is undef :: ss) (m :: ms) F G := by
  refine ⟨fun d' h => by rw [hd] at h; cases h; exact hdn, fun w hb hh => ?_, fun v hv => ?_⟩
  · unfold StepOk
    rw [hg]
    exact .inl ⟨t, c, ht, hl, fun h => by simp [h] at hne, fun _ => rfl⟩
  · have : v = undef := hv
    subst this
    rw [hd]
    exact k
/-- Guarded by what hasn't been run: off too. -/
theorem t_offu {g t d : Nat} {b : Bool} (hg : o.guard = some (g, b)) (ht : (l[g]?).bind (·.dst) = some t) (hl : sLook G t = some undef) (hd : o.dst = some d) (hdn : Nat.blt d n = true)
    (k : Tele P n l w0 M E os ss ms (F ++ [(Is undef, undef)]) ((d, undef) :: G)) : Tele P n l w0 M E (o :: os) (Is undef :: ss) (m :: ms) F G := by
  refine ⟨fun d' h => by rw [hd] at h; cases h; exact hdn, fun w hb hh => ?_, fun v hv => ?_⟩
  · unfold StepOk
    rw [hg]
    exact .inr ⟨t, ht, hl, rfl⟩
  · have : v = undef := hv
    subst this
    rw [hd]
    exact k
/-- Guarded, the guard on: a known value. -/
theorem t_gis {g t d : Nat} {b c : Bool} (v : Value) (hg : o.guard = some (g, b)) (ht : (l[g]?).bind (·.dst) = some t) (hl : sLook G t = some (.bool c)) (he : (c == b) = true) (hd : o.dst = some d) (hdn : Nat.blt d n = true) (hk : known G o = true)
    (hrun : ∀ w, Below w0.heap.size w0 w → Have m F w → (execOp (sEv G) o).run P w = .ok (.value v) w)
    (k : Tele P n l w0 M E os ss ms (F ++ [(Is v, v)]) ((d, v) :: G)) : Tele P n l w0 M E (o :: os) (Is v :: ss) (m :: ms) F G := by
  refine ⟨fun d' h => by rw [hd] at h; cases h; exact hdn, fun w hb hh => ?_, fun v' hv => ?_⟩
  · unfold StepOk
    rw [hg]
    refine .inl ⟨t, c, ht, hl, fun _ => ⟨hk, ?_⟩, fun h => absurd (by simpa using he) h⟩
    rw [hrun w hb hh]
    exact ⟨rfl, Below.refl _ _⟩
  · have : v' = v := hv
    subst this
    rw [hd]
    exact k
/-- Guarded, the guard on: a value of which something is known. -/
theorem t_gval {g t d : Nat} {b c : Bool} (s : Spec) (hg : o.guard = some (g, b)) (ht : (l[g]?).bind (·.dst) = some t) (hl : sLook G t = some (.bool c)) (he : (c == b) = true) (hd : o.dst = some d) (hdn : Nat.blt d n = true) (hk : known G o = true)
    (hrun : ∀ w, Below w0.heap.size w0 w → Have m F w → ∃ v w', (execOp (sEv G) o).run P w = .ok (.value v) w' ∧ s.s v w' ∧ Below w.heap.size w w')
    (k : ∀ v, s.pl v → Tele P n l w0 M E os ss ms (F ++ [(s, v)]) ((d, v) :: G)) : Tele P n l w0 M E (o :: os) (s :: ss) (m :: ms) F G := by
  refine ⟨fun d' h => by rw [hd] at h; cases h; exact hdn, fun w hb hh => ?_, fun v hv => ?_⟩
  · unfold StepOk
    rw [hg]
    refine .inl ⟨t, c, ht, hl, fun _ => ⟨hk, ?_⟩, fun h => absurd (by simpa using he) h⟩
    obtain ⟨v, w', h1, h2, h3⟩ := hrun w hb hh
    rw [h1]
    exact ⟨h2, h3⟩
  · rw [hd]
    exact k v hv
/-- Guarded, the guard on: a call. -/
theorem t_gcall {g t d : Nat} {b c : Bool} (s : Spec) {f : FuncId} {args : Array Value} (hg : o.guard = some (g, b)) (ht : (l[g]?).bind (·.dst) = some t) (hl : sLook G t = some (.bool c)) (he : (c == b) = true) (hd : o.dst = some d) (hdn : Nat.blt d n = true) (hk : known G o = true)
    (hrun : ∀ w, (execOp (sEv G) o).run P w = .ok (.enter f args) w)
    (hc : ∀ w, Below w0.heap.size w0 w → Have m F w → Calls P f args w fun e w' => ∃ v, e = .returned v ∧ s.s v w' ∧ Below w.heap.size w w')
    (k : ∀ v, s.pl v → Tele P n l w0 M E os ss ms (F ++ [(s, v)]) ((d, v) :: G)) : Tele P n l w0 M E (o :: os) (s :: ss) (m :: ms) F G := by
  refine ⟨fun d' h => by rw [hd] at h; cases h; exact hdn, fun w hb hh => ?_, fun v hv => ?_⟩
  · unfold StepOk
    rw [hg]
    refine .inl ⟨t, c, ht, hl, fun _ => ⟨hk, ?_⟩, fun h => absurd (by simpa using he) h⟩
    rw [hrun w]
    exact ⟨rfl, hc w hb hh⟩
  · rw [hd]
    exact k v hv
/-- The end of what comes up in whatever order, ahead of a tail. -/
theorem t_tail {rest : List Oper} {ops : Array Oper} {Q' : Exit → Act → World → Prop} (h : ∀ w', Below w0.heap.size w0 w' → HaveAll F w' → RW P ops cx n Q' rest G w') : Tele P n l w0 M (fun G' F => ∀ w', Below w0.heap.size w0 w' → HaveAll F w' → RW P ops cx n Q' rest G' w') [] [] [] F G := h
/-- The end: a later world in which all that was shown holds. -/
theorem t_end (h : ∀ w', Below w0.heap.size w0 w' → HaveAll F w' → W P cx n Q st G w') : Tele P n l w0 M (fun G' F => ∀ w', Below w0.heap.size w0 w' → HaveAll F w' → W P cx n Q st G' w') [] [] [] F G := h

end
end Go.Proofs.Ytheaipbnbnjlgaa.Flow
