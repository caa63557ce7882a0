/- Parts of the proofs of diaryPlays_holds: FlowO, DyTwo, DypRef, DypROpen, TpApart, DypApart, FlowOG, DypInv, DyTexts. -/
import Derived.Test.YtiiljpaedelhlaaQP3
section
namespace Go.Proofs.Ytiiljpaedelhlaa.Flow
open Go.RowKit Go.Proofs.YtiiljpaedelhlaaW.PrintWords
set_option linter.unusedVariables false
set_option linter.unusedSimpArgs false
set_option linter.unusedSectionVars false
section
variable {P : Program} {cx : Cx} {n : Nat} {Q : Exit → Act → World → Prop} {st : List Itm} {G : Env} {w : World} {ops : Array Oper}
structure Mt where
  S : Nat → Prop
  F0 : World → Prop
  F1 : World → Prop
def MU (mu : Nat → Option Mt) (b : Nat) : Prop := ∃ j x, mu j = some x ∧ x.S b
def Ph (mu : Nat → Option Mt) (m : Nat) (M : List Nat) (i : Nat) (w : World) : Prop := ∀ j x, mu j = some x → j ≠ i → (Nat.testBit m j = true → x.F1 w) ∧ (Nat.testBit (M.getD j 0) i = true → x.F0 w)
def QT (w w' : World) : Prop := w'.os = w.os ∧ w'.tape = w.tape ∧ w'.output = w.output
theorem below_k {w0 w w' : World} {S : Nat → Prop} (h : Below w0.heap.size w0 w) (hk : Kept w w' S) (hq : QT w w') (hS : ∀ q, S q → w0.heap.size ≤ q) : Below w0.heap.size w0 w' := ⟨hq.1.trans h.os, hq.2.1.trans h.tape, hq.2.2.trans h.output, Nat.le_trans h.size hk.1, fun i hi => (hk.2 i (Nat.lt_of_lt_of_le hi h.size) (fun hs => absurd hi (Nat.not_lt.2 (hS i hs)))).trans (h.block i hi)⟩
def Ok3 (P : Program) (l : List Oper) (o : Oper) (G : Env) (w : World) (s : Spec) : Option Mt → Prop
  | none => StepOk P l o G w s
  | some x => x.F0 w → MutOk P l o G w s x.S (fun w' => x.F1 w' ∧ QT w w')
theorem kept_mu {w w' : World} {mu : Nat → Option Mt} {i : Nat} {x : Mt} (hx : mu i = some x) (h : Kept w w' x.S) : Kept w w' (MU mu) := ⟨h.1, fun q hq hn => h.2 q hq (fun hs => hn ⟨i, x, hx, hs⟩)⟩
def Tele3 (P : Program) (n : Nat) (l : List Oper) (w0 : World) (mu : Nat → Option Mt) (M : List Nat) (E : Env → Facts → Prop) : List Oper → List Spec → List Nat → Facts → Env → Prop
  | [], [], [], F, G => E G F
  | o :: os, s :: ss, m :: ms, F, G => (∀ d, o.dst = some d → Nat.blt d n = true) ∧ (∀ w, Kept w0 w (MU mu) → Ph mu m M F.length w → Have m F w → Ok3 P l o G w s (mu F.length)) ∧ ∀ v, s.pl v → Tele3 P n l w0 mu M E os ss ms (F ++ [(s, v)]) (ext o.dst v G)
  | _, _, _, _, _ => False
theorem tele3_at {l : List Oper} {w0 : World} {mu : Nat → Option Mt} {M : List Nat} {E : Env → Facts → Prop} : ∀ (os : List Oper) (ss : List Spec) (ms : List Nat) (F : Facts) (G : Env), Tele3 P n l w0 mu M E os ss ms F G → ∀ vs : Nat → Value, (∀ (j : Nat) (s : Spec), ss[j]? = some s → s.pl (vs (F.length + j))) →
    (∀ (j : Nat) (o : Oper), os[j]? = some o → ∃ s m, ss[j]? = some s ∧ ms[j]? = some m ∧ (∀ d, o.dst = some d → Nat.blt d n = true) ∧
      (∀ w, Kept w0 w (MU mu) → Ph mu m M (F.length + j) w → Have m (F ++ fz (ss.take j) vs F.length) w → Ok3 P l o (gz (os.take j) vs F.length G) w s (mu (F.length + j)))) ∧ E (gz os vs F.length G) (F ++ fz ss vs F.length)
  | [], [], [], F, G, h, vs, _ => ⟨fun j o hj => by simp at hj, by have h' : E G F := h; simpa [gz, fz] using h'⟩
  | o :: os, s :: ss, m :: ms, F, G, h, vs, hp => by
    obtain ⟨h2, h3, h4⟩ := h
    obtain ⟨h5, h6⟩ := tele3_at os ss ms _ _ (h4 (vs F.length) (by simpa using hp 0 s rfl)) vs (fun j s' hj => by
      have := hp (j + 1) s' (by simpa using hj)
      simp only [List.length_append, List.length_cons, List.length_nil]
      rw [show F.length + (0 + 1) + j = F.length + (j + 1) by omega]
      exact this)
    have hlen : (F ++ [(s, vs F.length)]).length = F.length + 1 := by simp
    rw [hlen] at h5 h6
    refine ⟨fun j o' hj => ?_, by simpa [gz, fz] using h6⟩
    cases j with
    | zero =>
      simp at hj
      subst hj
      exact ⟨s, m, rfl, rfl, h2, fun w hb h0 hh => by simpa [gz] using h3 w hb (by simpa using h0) (by simpa [fz] using hh)⟩
    | succ j =>
      obtain ⟨s', m', e1, e2, e4, e5⟩ := h5 j o' (by simpa using hj)
      refine ⟨s', m', by simpa using e1, by simpa using e2, e4, fun w hb h0 hh => ?_⟩
      have e9 : F.length + (j + 1) = F.length + 1 + j := by omega
      rw [e9] at h0 ⊢
      have := e5 w hb h0 (by simpa [fz] using hh)
      simpa [gz] using this
  | [], [], _ :: _, _, _, h, _, _ => h.elim
  | [], _ :: _, _, _, _, h, _, _ => h.elim
  | _ :: _, [], _, _, _, h, _, _ => h.elim
  | _ :: _, _ :: _, [], _, _, h, _, _ => h.elim
structure Inv3 (mu : Nat → Option Mt) (l : List Oper) (ss : List Spec) (cx : Cx) (n : Nat) (G : Env) (w0 : World) (vs : Nat → Value) (D : Array Bool) (a : Act) (w : World) : Prop where
  dsize : D.size = l.length
  closed : ∀ (j : Nat) (o : Oper), l[j]? = some o → D.getD j false = true → ∀ e ∈ o.after, Region.binds .any e = true → D.getD e.on false = true
  below : Kept w0 w (MU mu)
  phase : ∀ j x, mu j = some x → (D.getD j false = true → x.F1 w) ∧ (D.getD j false = false → x.F0 w)
  facts : ∀ k s, D.getD k false = true → ss[k]? = some s → s.s (vs k) w
  pls : ∀ (k : Nat) (s : Spec), ss[k]? = some s → s.pl (vs k)
  size : a.tmps.size = n
  defers : a.defers = cx.ds
  old : ∀ t v, (∀ (k : Nat) (o : Oper), l[k]? = some o → o.dst = some t → D.getD k false = false) → sLook G t = some v → a.tmps[t]? = some v
  new : ∀ (k : Nat) (o : Oper) d, l[k]? = some o → o.dst = some d → D.getD k false = true → a.tmps[d]? = some (vs k)
theorem Inv3.step {mu : Nat → Option Mt} {l : List Oper} {ss : List Spec} {M : List Nat} {w0 : World} {vs : Nat → Value} {D : Array Bool} {a : Act} {w w' : World} (hs : Static l M) (h : Inv3 mu l ss cx n G w0 vs D a w)
    {i : Nat} {o : Oper} (hi : l[i]? = some o) (hdn : ∀ d, o.dst = some d → Nat.blt d n = true) (hun : D.getD i false = false) (hpre : ∀ e ∈ o.after, Region.binds .any e = true → D.getD e.on false = true) {s : Spec} (hsi : ss[i]? = some s) {v : Value} (hv : s.s v w') (hb : Kept w w' (MU mu)) (hph : ∀ j x, mu j = some x → ((D.setIfInBounds i true).getD j false = true → x.F1 w') ∧ ((D.setIfInBounds i true).getD j false = false → x.F0 w')) (hst : ∀ (k : Nat) (s : Spec), k ≠ i → D.getD k false = true → ss[k]? = some s → s.s (vs k) w → s.s (vs k) w') :
    Inv3 mu l ss cx n G w0 (fun k => if k = i then v else vs k) (D.setIfInBounds i true) (a.put o.dst v) w' := by
  have hil : i < l.length := (List.getElem?_eq_some_iff.1 hi).1
  have hiD : i < D.size := by rw [h.dsize]; exact hil
  have hne : ∀ {k : Nat}, k ≠ i → (D.setIfInBounds i true).getD k false = D.getD k false := fun hk => by simp [Array.getElem?_setIfInBounds_ne (Ne.symm hk)]
  have hup : ∀ {k : Nat}, D.getD k false = true → (D.setIfInBounds i true).getD k false = true := fun {k} hk => by
    by_cases hki : k = i
    · subst hki; rw [hun] at hk; cases hk
    · rw [hne hki]; exact hk
  refine ⟨by simp [h.dsize], fun j oj hj hl e he hbd => ?_, kept_trans h.below hb, hph, fun k sk hl hk => ?_, fun k sk hk => ?_, ?_, ?_, fun t u hno hl => ?_, fun k ok d hk hd hl => ?_⟩
  · by_cases hji : j = i
    · subst hji
      have : oj = o := Option.some.inj (hj.symm.trans hi)
      subst this
      exact hup (hpre e he hbd)
    · rw [hne hji] at hl
      exact hup (h.closed j oj hj hl e he hbd)
  · by_cases hki : k = i
    · subst hki
      have : sk = s := Option.some.inj (hk.symm.trans hsi)
      subst this
      simpa using hv
    · rw [hne hki] at hl
      simpa [hki] using hst k sk hki hl hk (h.facts k sk hl hk)
  · by_cases hki : k = i
    · subst hki
      have : sk = s := Option.some.inj (hk.symm.trans hsi)
      subst this
      simpa using sk.imp _ _ hv
    · simpa [hki] using h.pls k sk hk
  · cases hd : o.dst <;> simp [Act.put, h.size]
  · cases hd : o.dst <;> simp [Act.put, h.defers]
  · have h1 : a.tmps[t]? = some u := h.old t u (fun k ok hk hd => by
      have := hno k ok hk hd
      by_cases hki : k = i
      · subst hki; exact hun
      · rwa [hne hki] at this) hl
    cases hd : o.dst with
    | none => simpa [Act.put] using h1
    | some d =>
      by_cases hdt : d = t
      · subst hdt
        have := hno i o hi hd
        rw [set_getD_same hiD] at this
        cases this
      · simp only [Act.put]
        rw [Array.getElem?_setIfInBounds_ne hdt]
        exact h1
  · by_cases hki : k = i
    · subst hki
      have : ok = o := Option.some.inj (hk.symm.trans hi)
      subst this
      have hlt : d < a.tmps.size := by rw [h.size]; simpa using hdn d hd
      simp [Act.put, hd, hlt]
    · rw [hne hki] at hl
      have h1 := h.new k ok d hk hd hl
      simp only [hki, if_false]
      cases hd' : o.dst with
      | none => simpa [Act.put] using h1
      | some d' =>
        have hdd : d' ≠ d := fun he => hki (hs.uniq i k o ok d hi hk (by rw [hd', he]) hd)
        simp only [Act.put]
        rw [Array.getElem?_setIfInBounds_ne hdd]
        exact h1
theorem wpAny_flow3 {mu : Nat → Option Mt} {l : List Oper} {ss : List Spec} {M : List Nat} {w0 : World} {k : Nat} (hs : Static l M) (hkl : k ≤ l.length) (htl : tailOk M k l.length = true)
    (ht : ∀ vs : Nat → Value, (∀ (k : Nat) (s : Spec), ss[k]? = some s → s.pl (vs k)) → (∀ (j : Nat) (o : Oper), j < k → l[j]? = some o → ∃ s m, ss[j]? = some s ∧ M[j]? = some m ∧ (∀ d, o.dst = some d → Nat.blt d n = true) ∧
      (∀ w, Kept w0 w (MU mu) → Ph mu m M j w → Have m (fz (ss.take j) vs 0) w → Ok3 P l o (gz (l.take j) vs 0 G) w s (mu j))) ∧ (∀ w, Kept w0 w (MU mu) → (∀ j x, mu j = some x → x.F1 w) → HaveAll (fz ss vs 0) w → ∀ a, Fits cx n (gz (l.take k) vs 0 G) a → wpList P l.toArray Q (l.drop k) a w)) (hsl : ss.length = k) (hqk : ∀ j x, mu j = some x → j < k)
    (hst : ∀ i x, mu i = some x → ∀ (k : Nat) (s : Spec), k ≠ i → ss[k]? = some s → ∀ v w w', Kept w w' x.S → s.s v w → s.s v w') (hF : ∀ j x, mu j = some x → ∀ w w', Below w.heap.size w w' → (x.F0 w → x.F0 w') ∧ (x.F1 w → x.F1 w')) (hFF : ∀ i y, mu i = some y → ∀ j x, mu j = some x → j ≠ i → ∀ w w', Kept w w' y.S → QT w w' → (x.F0 w → x.F0 w') ∧ (x.F1 w → x.F1 w')) :
    ∀ (fuel : Nat) (D : Array Bool) (a : Act) (w : World) (vs : Nat → Value), cf D.toList ≤ fuel → Inv3 mu l ss cx n G w0 vs D a w → (∀ i, k ≤ i → i < l.length → D.getD i false = false) → wpAny P .any l.toArray Q fuel D a w := by
  have hfin : ∀ (D : Array Bool) (a : Act) (w : World) (vs : Nat → Value), Inv3 mu l ss cx n G w0 vs D a w → (∀ i, i < k → D.getD i false = true) → (∀ i, k ≤ i → i < l.length → D.getD i false = false) → wpList P l.toArray Q (l.drop k) a w := fun D a w vs h hall hno => by
    refine (ht vs h.pls).2 w h.below (fun j x hx => (h.phase j x hx).1 (hall j (hqk j x hx))) (fun k s v hk => ?_) a ⟨h.size, h.defers, fun t v hl => ?_⟩
    · rw [fz_get] at hk
      cases hsk : ss[k]? with
      | none => rw [hsk] at hk; simp at hk
      | some s' =>
        rw [hsk] at hk
        simp only [Option.map_some, Option.some.injEq, Prod.mk.injEq, Nat.zero_add] at hk
        obtain ⟨rfl, rfl⟩ := hk
        exact h.facts k s' (hall k (by have := (List.getElem?_eq_some_iff.1 hsk).1; omega)) hsk
    · rcases gz_look (l.take k) vs 0 G t v hl with ⟨j, o, h1, h2, h3⟩ | ⟨h1, h2⟩
      · rw [h3, Nat.zero_add]
        have hjk : j < k := by
          have := (List.getElem?_eq_some_iff.1 h1).1
          simp at this; omega
        rw [List.getElem?_take, if_pos hjk] at h1
        exact h.new j o t h1 h2 (hall j hjk)
      · refine h.old t v (fun q o hq hd => ?_) h2
        rcases Nat.lt_or_ge q k with hqk | hqk
        · exact absurd hd (h1 q o (by rw [List.getElem?_take, if_pos hqk]; exact hq))
        · exact hno q hqk (List.getElem?_eq_some_iff.1 hq).1
  have hdone : ∀ (fuel : Nat) (D : Array Bool) (a : Act) (w : World) (vs : Nat → Value), cf D.toList ≤ fuel → Inv3 mu l ss cx n G w0 vs D a w → (∀ i, i < k → D.getD i false = true) → (∀ i, k ≤ i → i < l.length → D.getD i false = false) → wpAny P .any l.toArray Q fuel D a w := fun fuel D a w vs hc h hall hno =>
    wpAny_tail hs htl (l.length - k) k rfl (Nat.le_refl _) hkl fuel D a w h.dsize (fun i hi => ⟨fun hd => (Nat.lt_or_ge i k).resolve_right (fun q => by rw [hno i q hi] at hd; exact Bool.noConfusion hd), fun q => hall i q⟩) hc (hfin D a w vs h hall hno)
  intro fuel
  induction fuel with
  | zero =>
    intro D a w vs hc h hno
    refine hdone 0 D a w vs hc h (fun i hi => ?_) hno
    have hiD : i < D.size := by rw [h.dsize]; omega
    have := cf_zero D.toList (by omega) i D[i] (by simp [hiD])
    simp [hiD, this]
  | succ fuel ih =>
    intro D a w vs hc h hno
    by_cases hall : ∀ i, i < k → D.getD i false = true
    · exact hdone _ D a w vs hc h hall hno
    obtain ⟨q, hq, hqn⟩ : ∃ q, q < k ∧ D.getD q false = false := by
      refine Classical.byContradiction fun hne => hall fun i hi => ?_
      cases hd : D.getD i false with
      | true => rfl
      | false => exact absurd ⟨i, hi, hd⟩ hne
    refine ⟨fun hr => (by have := all_listed hs h.dsize hr q (by omega); rw [hqn] at this; cases this), fun i hi => ?_⟩
    obtain ⟨h1, o, h2, hpre⟩ := mem_ready.1 hi
    have hun := getD_no h1
    have hoi : l[i]? = some o := by simpa using h2
    have hil : i < l.length := (List.getElem?_eq_some_iff.1 hoi).1
    have hik : i < k := by
      rcases Nat.lt_or_ge i k with hlt | hge
      · exact hlt
      · have := mask_listed hs h.closed i o q hoi hpre (tail_spec htl i hge hil q (by omega))
        rw [hqn] at this; cases this
    obtain ⟨s, m, hs1, hm1, hdn, hstep⟩ := (ht vs h.pls).1 i o hik hoi
    have hmi : M.getD i 0 = m := by simp [hm1]
    have hmask := mask_listed hs h.closed i o
    have hhave : Have m (fz (ss.take i) vs 0) w := (fun k s' v hk hb => by
      rw [fz_get] at hk
      cases hsk : (ss.take i)[k]? with
      | none => rw [hsk] at hk; simp at hk
      | some s'' =>
        rw [hsk] at hk
        simp only [Option.map_some, Option.some.injEq, Prod.mk.injEq, Nat.zero_add] at hk
        obtain ⟨rfl, rfl⟩ := hk
        refine h.facts k s'' (hmask k hoi hpre (by rw [hmi]; exact hb)) ?_
        rw [List.getElem?_take] at hsk
        split at hsk
        · exact hsk
        · simp at hsk)
    have heyes : ∀ t ∈ eyes l o, ∀ v, sLook (gz (l.take i) vs 0 G) t = some v → a.tmps[t]? = some v := fun t hte v hl => by
      rcases gz_look (l.take i) vs 0 G t v hl with ⟨j, o', g1, g2, g3⟩ | ⟨g1, g2⟩
      · have hji : j < i := by
          have := (List.getElem?_eq_some_iff.1 g1).1
          simp at this; omega
        have g1' : l[j]? = some o' := by
          rw [List.getElem?_take] at g1
          rw [if_pos hji] at g1
          exact g1
        rw [g3, Nat.zero_add]
        refine h.new j o' t g1' g2 ?_
        rcases hs.seen i j o o' t hoi g1' g2 hte with g | g
        · exact hmask j hoi hpre g
        · have := (hs.bits j o' i g1' g).1; omega
      · refine h.old t v (fun k ok hk hd => ?_) g2
        cases hDk : D.getD k false with
        | false => rfl
        | true =>
          exfalso
          rcases Nat.lt_trichotomy k i with g | g | g
          · refine g1 k ok ?_ hd
            rw [List.getElem?_take, if_pos g]; exact hk
          · subst g; rw [hun] at hDk; cases hDk
          · rcases hs.seen i k o ok t hoi hk hd hte with q | q
            · have := (hs.bits i o k hoi q).1; omega
            · have := mask_listed hs h.closed k ok i hk (h.closed k ok hk hDk) q
              rw [hun] at this; cases this
    have hcf : cf (D.setIfInBounds i true).toList ≤ fuel := by
      have hiD : i < D.size := by rw [h.dsize]; exact hil
      have := cf_set D.toList i (by simp [hiD] at hun ⊢; exact hun)
      rw [Array.toList_setIfInBounds]
      omega
    have hphB : ∀ w', mu i = none → Below w.heap.size w w' → ∀ j x, mu j = some x → ((D.setIfInBounds i true).getD j false = true → x.F1 w') ∧ ((D.setIfInBounds i true).getD j false = false → x.F0 w') := fun w' hne hb j x hx => by
      have hji : j ≠ i := fun e => by rw [e, hne] at hx; cases hx
      have e : (D.setIfInBounds i true).getD j false = D.getD j false := by simp [Array.getElem?_setIfInBounds_ne (Ne.symm hji)]
      rw [e]
      exact ⟨fun h1 => (hF j x hx _ _ hb).2 ((h.phase j x hx).1 h1), fun h1 => (hF j x hx _ _ hb).1 ((h.phase j x hx).2 h1)⟩
    have hgo : ∀ v w', s.s v w' → Kept w w' (MU mu) → (∀ j x, mu j = some x → ((D.setIfInBounds i true).getD j false = true → x.F1 w') ∧ ((D.setIfInBounds i true).getD j false = false → x.F0 w')) → (∀ (k : Nat) (s : Spec), k ≠ i → D.getD k false = true → ss[k]? = some s → s.s (vs k) w → s.s (vs k) w') → wpAny P .any l.toArray Q fuel (D.setIfInBounds i true) (a.put o.dst v) w' := fun v w' hv hb hph hca =>
      ih _ _ _ _ hcf (h.step hs hoi hdn hun hpre hs1 hv hb hph hca) (fun q hq hql => by
        have hqi : q ≠ i := by omega
        have : (D.setIfInBounds i true).getD q false = D.getD q false := by simp [Array.getElem?_setIfInBounds_ne (Ne.symm hqi)]
        rw [this]; exact hno q hq hql)
    have hPh : Ph mu m M i w := fun j x hx hji => ⟨fun hb => (h.phase j x hx).1 (hmask j hoi hpre (by rw [hmi]; exact hb)), fun hb => by
      cases hDq : D.getD j false with
      | false => exact (h.phase j x hx).2 hDq
      | true =>
        exfalso
        have hq0l : j < l.length := by have := hqk j x hx; omega
        have hoq : l[j]? = some l[j] := List.getElem?_eq_getElem hq0l
        have := mask_listed hs h.closed j l[j] i hoq (h.closed j _ hoq hDq) hb
        rw [hun] at this; cases this⟩
    have hok0 := hstep w h.below hPh hhave
    cases hmu : mu i with
    | some x =>
      have hph : ∀ w', Kept w w' x.S → x.F1 w' ∧ QT w w' → ∀ j y, mu j = some y → ((D.setIfInBounds i true).getD j false = true → y.F1 w') ∧ ((D.setIfInBounds i true).getD j false = false → y.F0 w') := fun w' hkk h1 j y hy => by
        by_cases hji : j = i
        · subst hji
          have e := set_getD_same (D := D) (i := j) (by rw [h.dsize]; exact hil)
          rw [e]
          have exy : y = x := Option.some.inj (hy.symm.trans hmu)
          subst exy
          exact ⟨fun _ => h1.1, fun h2 => by cases h2⟩
        · have e : (D.setIfInBounds i true).getD j false = D.getD j false := by simp [Array.getElem?_setIfInBounds_ne (Ne.symm hji)]
          rw [e]
          exact ⟨fun h2 => (hFF i x hmu j y hy hji _ _ hkk h1.2).2 ((h.phase j y hy).1 h2), fun h2 => (hFF i x hmu j y hy hji _ _ hkk h1.2).1 ((h.phase j y hy).2 h2)⟩
      have hcaM : ∀ w', Kept w w' x.S → ∀ (k : Nat) (s : Spec), k ≠ i → D.getD k false = true → ss[k]? = some s → s.s (vs k) w → s.s (vs k) w' := fun w' hb k s hk _ hsk h1 => hst i x hmu k s hk hsk _ _ _ hb h1
      rw [hmu] at hok0
      have hok : MutOk P l o (gz (l.take i) vs 0 G) w s x.S (fun w' => x.F1 w' ∧ QT w w') := hok0 ((h.phase i x hmu).2 hun)
      have hrun : known (gz (l.take i) vs 0 G) o = true ∧ GivesM P s x.S (fun w' => x.F1 w' ∧ QT w w') w ((execOp (sEv (gz (l.take i) vs 0 G)) o).run P w) → o.wp P a w (wpAny P .any l.toArray Q fuel (D.setIfInBounds i true)) Q := fun ⟨hk, hg⟩ => by
        unfold Oper.wp
        rw [exec_eyes heyes hk]
        generalize (execOp (sEv (gz (l.take i) vs 0 G)) o).run P w = r at hg ⊢
        cases r with
        | halt z w' => exact hg.elim
        | ok z w' =>
          cases z with
          | enter f args =>
            obtain ⟨rfl, hcall⟩ := hg
            refine hcall.mono fun e w'' he => ?_
            obtain ⟨v, rfl, hv, hb, h1⟩ := he
            exact hgo v w'' hv (kept_mu hmu hb) (hph w'' hb h1) (hcaM w'' hb)
          | skip => exact hgo undef w' hg.1 (kept_mu hmu hg.2.1) (hph w' hg.2.1 hg.2.2) (hcaM w' hg.2.1)
          | value v => exact hgo v w' hg.1 (kept_mu hmu hg.2.1) (hph w' hg.2.1 hg.2.2) (hcaM w' hg.2.1)
          | _ => exact hg.elim
      unfold wpOp
      rw [h2]
      simp only
      unfold MutOk at hok
      cases hgd : o.guard with
      | none =>
        rw [hgd] at hok
        rw [if_pos (wanted_none hgd _)]
        exact .inl (hrun hok)
      | some gb =>
        obtain ⟨g, b⟩ := gb
        rw [hgd] at hok
        obtain ⟨t, q1, q2, q3⟩ := hok
        have hte : t ∈ eyes l o := by
          refine List.mem_append_right _ ?_
          rw [hgd]
          simp [q1]
        have hw : Region.wanted o (yielded l.toArray a.tmps) = true := by
          have q1' : ((l.toArray)[g]?).bind (·.dst) = some t := by simpa using q1
          have q5 : yielded l.toArray a.tmps g = some b := by
            unfold yielded
            rw [q1']
            simp [heyes t hte _ q2]
          unfold Region.wanted
          rw [hgd]
          simp only [q5]
          cases b <;> rfl
        rw [if_pos hw]
        exact .inl (hrun q3)
    | none =>
      have hiq := hmu
      have hcaB : ∀ w', Below w.heap.size w w' → ∀ (k : Nat) (s : Spec), k ≠ i → D.getD k false = true → ss[k]? = some s → s.s (vs k) w → s.s (vs k) w' := fun w' hb k s _ _ _ h1 => s.stab _ _ _ hb h1
      rw [hmu] at hok0
      have hok : StepOk P l o (gz (l.take i) vs 0 G) w s := hok0
      have hrun : known (gz (l.take i) vs 0 G) o = true ∧ Gives P s w ((execOp (sEv (gz (l.take i) vs 0 G)) o).run P w) → o.wp P a w (wpAny P .any l.toArray Q fuel (D.setIfInBounds i true)) Q := fun ⟨hk, hg⟩ => by
        unfold Oper.wp
        rw [exec_eyes heyes hk]
        generalize (execOp (sEv (gz (l.take i) vs 0 G)) o).run P w = r at hg ⊢
        cases r with
        | halt x w' => exact hg.elim
        | ok x w' =>
          cases x with
          | value v => exact hgo v w' hg.1 (below_kept hg.2) (hphB w' hiq hg.2) (hcaB w' hg.2)
          | skip => exact hgo undef w' hg.1 (below_kept hg.2) (hphB w' hiq hg.2) (hcaB w' hg.2)
          | enter f args =>
            obtain ⟨rfl, hcall⟩ := hg
            refine hcall.mono fun e w'' he => ?_
            obtain ⟨v, rfl, hv, hb⟩ := he
            exact hgo v w'' hv (below_kept hb) (hphB w'' hiq hb) (hcaB w'' hb)
          | _ => exact hg.elim
      unfold wpOp
      rw [h2]
      simp only
      unfold StepOk at hok
      cases hgd : o.guard with
      | none =>
        rw [hgd] at hok
        rw [if_pos (wanted_none hgd _)]
        exact .inl (hrun hok)
      | some gb =>
        obtain ⟨g, b⟩ := gb
        rw [hgd] at hok
        rcases hok with ⟨t, c, q1, q2, q3, q4⟩ | ⟨t, q1, q2, q4⟩
        rotate_left
        · have hte : t ∈ eyes l o := by
            refine List.mem_append_right _ ?_
            rw [hgd]
            simp [q1]
          have hw : Region.wanted o (yielded l.toArray a.tmps) = false := by
            have q1' : ((l.toArray)[g]?).bind (·.dst) = some t := by simpa using q1
            have q5 : yielded l.toArray a.tmps g = none := by
              unfold yielded
              rw [q1']
              simp [heyes t hte _ q2, undef]
            unfold Region.wanted
            rw [hgd]
            simp only [q5]
            rfl
          rw [if_neg (by rw [hw]; simp)]
          exact hgo undef w q4 (kept_refl _ _) (hphB w hiq (Below.refl _ _)) (hcaB w (Below.refl _ _))
        have hte : t ∈ eyes l o := by
          refine List.mem_append_right _ ?_
          rw [hgd]
          simp [q1]
        have hw : Region.wanted o (yielded l.toArray a.tmps) = (c == b) := by
          have q1' : ((l.toArray)[g]?).bind (·.dst) = some t := by simpa using q1
          have q5 : yielded l.toArray a.tmps g = some c := by
            unfold yielded
            rw [q1']
            simp [heyes t hte _ q2]
          unfold Region.wanted
          rw [hgd]
          simp only [q5]
          cases c <;> cases b <;> rfl
        by_cases hc : c = b
        · rw [if_pos (by rw [hw]; simp [hc])]
          exact .inl (hrun (q3 hc))
        · rw [if_neg (by rw [hw]; simp [hc])]
          exact hgo undef w (q4 hc) (kept_refl _ _) (hphB w hiq (Below.refl _ _)) (hcaB w (Below.refl _ _))
theorem w_drawo {id : Nat} {l : List Oper} {M : List Nat} {ss : List Spec} (mu : Nat → Option Mt) (k : Nat) (hm : P.follows .mixedOrders = true) (hok : (listOk l M && Nat.beq M.length l.length && tailOk M k l.length && Nat.ble k l.length) = true) (hqk : ∀ j x, mu j = some x → j < k) (hst : ∀ i x, mu i = some x → ∀ (k : Nat) (s : Spec), k ≠ i → ss[k]? = some s → ∀ v w w', Kept w w' x.S → s.s v w → s.s v w') (hF : ∀ j x, mu j = some x → ∀ w w', Below w.heap.size w w' → (x.F0 w → x.F0 w') ∧ (x.F1 w → x.F1 w')) (hFF : ∀ i y, mu i = some y → ∀ j x, mu j = some x → j ≠ i → ∀ w w', Kept w w' y.S → QT w w' → (x.F0 w → x.F0 w') ∧ (x.F1 w → x.F1 w')) (h0 : ∀ j x, mu j = some x → x.F0 w.drew)
    (h : Tele3 P n l w.drew mu M (fun G' F => ∀ w', Kept w.drew w' (MU mu) → (∀ j x, mu j = some x → x.F1 w') → HaveAll F w' → RW P l.toArray cx n (Ks cx P st Q) (l.drop k) G' w') (l.take k) ss (M.take k) [] G) : W P cx n Q (Itm.code (.region id l.toArray true) :: st) G w := fun a ha => by
  simp only [Bool.and_eq_true] at hok
  obtain ⟨⟨⟨hok1, hM0⟩, htl⟩, hkl0⟩ := hok
  have hM := Nat.eq_of_beq_eq_true hM0
  have hkl := Nat.le_of_ble_eq_true hkl0
  have ht := fun vs hp => tele3_at (P := P) (l.take k) ss (M.take k) [] G h vs hp
  have hsl : ss.length = k := by
    have aux : ∀ (os : List Oper) (ss : List Spec) (ms : List Nat) (F : Facts) (G : Env) (E : Env → Facts → Prop), Tele3 P n l w.drew mu M E os ss ms F G → ss.length = os.length := by
      intro os
      induction os with
      | nil => intro ss ms F G E h; cases ss with
        | nil => rfl
        | cons => cases ms <;> exact h.elim
      | cons o os ih => intro ss ms F G E h; cases ss with
        | nil => cases ms <;> exact h.elim
        | cons s ss => cases ms with
          | nil => exact h.elim
          | cons m ms => obtain ⟨v, hv⟩ := s.inh; simp only [List.length_cons]; rw [ih ss ms _ _ E (h.2.2 v hv)]
    rw [aux _ _ _ _ _ _ h, List.length_take]; omega
  refine drawn_in hm (fun i o hi => listOk_sel hok1 i o (by simpa using hi)) (wpAny_flow3 (cx := cx) (mu := mu) (n := n) (G := G) (Q := Ks cx P st Q) (ss := ss) (w0 := w.drew) (k := k) (static_of hok1) hkl htl (fun vs hp => ?_) hsl hqk hst hF hFF _ _ a _ (fun j => match ss[j]? with | some s => Classical.choose s.inh | none => undef) ?_ ?_ ?_)
  · obtain ⟨h1, h2⟩ := ht vs (fun j s hj => by simpa using hp j s hj)
    refine ⟨fun j o hjk hj => ?_, fun w' hb hf hh a' ha' => ?_⟩
    · obtain ⟨s, m, e1, e2, e4, e5⟩ := h1 j o (by rw [List.getElem?_take, if_pos hjk]; exact hj)
      have e2' : M[j]? = some m := by rw [List.getElem?_take, if_pos hjk] at e2; exact e2
      have htt : (l.take k).take j = l.take j := by rw [List.take_take]; congr 1; omega
      exact ⟨s, m, e1, e2', e4, fun w' hb h0 hh => by have := e5 w' hb (by simpa using h0) (by simpa using hh); rw [htt] at this; simpa using this⟩
    · exact (h2 w' hb hf (by simpa using hh)) a' (by simpa using ha')
  · have : ∀ k, cf (List.replicate k false) = k := by
      intro k; induction k with
      | zero => rfl
      | succ k ih => simp only [List.replicate_succ, cf, ih]; simp; omega
    simp [this]
  · refine ⟨by simp, fun j o hj hl => ?_, kept_refl _ _, fun j x hx => ⟨fun h1 => by (simp [Array.getElem?_replicate] at h1; split at h1 <;> simp at h1), fun _ => h0 j x hx⟩, fun k s hl => ?_, fun k s hk => ?_, ha.size, ha.defers, fun t v _ hl => ha.at_ t v hl, fun k o d hk hd hl => ?_⟩
    · simp [Array.getElem?_replicate] at hl; split at hl <;> simp at hl
    · simp [Array.getElem?_replicate] at hl; split at hl <;> simp at hl
    · simp only [hk]
      exact Classical.choose_spec s.inh
    · simp [Array.getElem?_replicate] at hl; split at hl <;> simp at hl
  · intro i _ hi
    simp [Array.getElem?_replicate, hi]
variable {l : List Oper} {w0 : World} {mu : Nat → Option Mt} {M : List Nat} {E : Env → Facts → Prop} {os : List Oper} {ss : List Spec} {ms : List Nat} {m : Nat} {F : Facts} {o : Oper}
theorem v_is (hnq : mu F.length = none) {d : Nat} (c : Value) (hg : o.guard = none) (hd : o.dst = some d) (hdn : Nat.blt d n = true) (hk : known G o = true)
    (hrun : ∀ w, Kept w0 w (MU mu) → Ph mu m M F.length w → Have m F w → (execOp (sEv G) o).run P w = .ok (.value c) w)
    (k : Tele3 P n l w0 mu M E os ss ms (F ++ [(Is c, c)]) ((d, c) :: G)) : Tele3 P n l w0 mu M E (o :: os) (Is c :: ss) (m :: ms) F G := by
  refine ⟨fun d' h => by rw [hd] at h; cases h; exact hdn, fun w hb h1_ hh => ?_, fun v hv => ?_⟩
  · rw [hnq]
    show StepOk _ _ _ _ _ _
    unfold StepOk
    rw [hg]
    refine ⟨hk, ?_⟩
    rw [hrun w hb h1_ hh]
    exact ⟨rfl, Below.refl _ _⟩
  · have : v = c := hv
    subst this
    rw [hd]
    exact k
theorem v_tail {rest : List Oper} {ops : Array Oper} {Q' : Exit → Act → World → Prop} (h : ∀ w', Kept w0 w' (MU mu) → (∀ j x, mu j = some x → x.F1 w') → HaveAll F w' → RW P ops cx n Q' rest G w') : Tele3 P n l w0 mu M (fun G' F => ∀ w', Kept w0 w' (MU mu) → (∀ j x, mu j = some x → x.F1 w') → HaveAll F w' → RW P ops cx n Q' rest G' w') [] [] [] F G := h
def two (p q : Nat) (x y : Mt) (i : Nat) : Option Mt := cond (Nat.beq i p) (some x) (cond (Nat.beq i q) (some y) none)
theorem two_cases {p q : Nat} {x y : Mt} {P : Nat → Mt → Prop} (hp : P p x) (hq : P q y) : ∀ j z, two p q x y j = some z → P j z := fun j z h => by
  unfold two at h
  cases e1 : Nat.beq j p with
  | true => rw [e1] at h; cases h; rw [Nat.eq_of_beq_eq_true e1]; exact hp
  | false =>
    rw [e1] at h
    cases e2 : Nat.beq j q with
    | true => rw [e2] at h; cases h; rw [Nat.eq_of_beq_eq_true e2]; exact hq
    | false => rw [e2] at h; cases h
theorem mu_two {p q : Nat} {x y : Mt} {b : Nat} (h : MU (two p q x y) b) : x.S b ∨ y.S b := by
  obtain ⟨j, z, h1, h2⟩ := h
  revert h2
  exact two_cases (P := fun _ z => z.S b → x.S b ∨ y.S b) .inl .inr j z h1
theorem two_ff {p q : Nat} {x y : Mt} (h1 : ∀ w w', Kept w w' x.S → QT w w' → (y.F0 w → y.F0 w') ∧ (y.F1 w → y.F1 w')) (h2 : ∀ w w', Kept w w' y.S → QT w w' → (x.F0 w → x.F0 w') ∧ (x.F1 w → x.F1 w')) : ∀ i b, two p q x y i = some b → ∀ j a, two p q x y j = some a → j ≠ i → ∀ w w', Kept w w' b.S → QT w w' → (a.F0 w → a.F0 w') ∧ (a.F1 w → a.F1 w') :=
  two_cases (P := fun i b => ∀ j a, two p q x y j = some a → j ≠ i → ∀ w w', Kept w w' b.S → QT w w' → (a.F0 w → a.F0 w') ∧ (a.F1 w → a.F1 w'))
    (two_cases (P := fun j a => j ≠ p → ∀ w w', Kept w w' x.S → QT w w' → (a.F0 w → a.F0 w') ∧ (a.F1 w → a.F1 w')) (fun h => absurd rfl h) (fun _ => h1))
    (two_cases (P := fun j a => j ≠ q → ∀ w w', Kept w w' y.S → QT w w' → (a.F0 w → a.F0 w') ∧ (a.F1 w → a.F1 w')) (fun _ => h2) (fun h => absurd rfl h))
theorem two_st {p q : Nat} {x y : Mt} {ss : List Spec} (h1 : StabX x.S p ss) (h2 : StabX y.S q ss) : ∀ i z, two p q x y i = some z → ∀ (k : Nat) (s : Spec), k ≠ i → ss[k]? = some s → ∀ v w w', Kept w w' z.S → s.s v w → s.s v w' :=
  two_cases (P := fun i z => ∀ (k : Nat) (s : Spec), k ≠ i → ss[k]? = some s → ∀ v w w', Kept w w' z.S → s.s v w → s.s v w') (stabx h1) (stabx h2)
def Join (cx : Cx) (n : Nat) (J : Env → World → Prop) (a : Act) (w : World) : Prop := ∃ G', Fits cx n G' a ∧ J G' w
theorem w_join {c : Code} (J : Env → World → Prop) (h : W P cx n Q (Itm.code c :: Itm.lp (Join cx n J) :: st) G w) (h2 : ∀ G' w', J G' w' → W P cx n Q st G' w') : W P cx n Q (Itm.code c :: st) G w := fun a ha => by
  refine wpIn_mono (h a ha) fun e a' w' q => ?_
  cases e with
  | normal =>
    obtain ⟨G', hf, hj⟩ := q
    exact h2 G' w' hj a' hf
  | _ => exact q
theorem w_joined {J : Env → World → Prop} (G' : Env) (hs : Sub G' G) (hj : J G' w) : W P cx n Q (Itm.lp (Join cx n J) :: st) G w := fun a ha => ⟨G', ha.sub hs, hj⟩
end
end Go.Proofs.Ytiiljpaedelhlaa.Flow
end
section
namespace Go.Proofs.Ytiiljpaedelhlaa.Tp
open Go.RowKit Go.Proofs.YtiiljpaedelhlaaW.PrintWords Go.Proofs.YtiiljpaedelhlaaW.PrintLast Go.Proofs.YtiiljpaedelhlaaW.PrintMore
open Go.Proofs.Ytiiljpaedelhlaa.Flow
open Go.Proofs.Ytiiljpaedelhlaa.PDiaryPlays (Bytes SplitR frameB FC FC_cons frameB_len errN refwrap_calls estuaryref04_Wrap.f estuaryref04_Wrap.calls)
set_option linter.unusedVariables false
set_option linter.unusedSimpArgs false
abbrev kSL : Kd (List Int) := Kd.scalar (fun l : List Int => Value.string (strOfNums l)) (fun _ => rfl)
theorem sl_S {w : World} {A : Option Addr} {n : Nat} {ss : List (List Int)} (h : kSL.C w A n ss) : Kd.string.C w A n (ss.map strOfNums) := by
  obtain ⟨h1, h2, h3⟩ := h
  refine ⟨by rw [List.length_map, h1], h2, fun hn => ?_⟩
  obtain ⟨ad, e, h4⟩ := h3 hn
  refine ⟨ad, e, fun j p hj => ?_⟩
  rw [List.getElem?_map] at hj
  obtain ⟨q, hq, rfl⟩ := Option.map_eq_some_iff.1 hj
  exact h4 j q hq
theorem sl_encs (ss : List (List Int)) : encs Value.string (ss.map strOfNums) = encs (fun l : List Int => Value.string (strOfNums l)) ss := by simp [encs]
theorem sl_R {e : TypeId} {w : World} {base : Nat} {ok : Nat → Prop} {v : Value} {ss : List (List Int)} (h : Kd.string.R e w base ok v (ss.map strOfNums)) : kSL.R e w base ok v ss := by
  have h1 := Kd.own_of_R h
  rw [sl_encs, List.length_map] at h1
  exact Kd.R_of_own h1 h.1
theorem sl_el {w : World} {A : Option Addr} {n : Nat} {xs : List (List Int)} (h : kSL.C w A n xs) (z : List Int) (i : Nat) (hi : i < n) : ∃ ad, A = some ad ∧ ∀ j u, [Value.string (strOfNums (xs.getD i z))][j]? = some u → w.cell? (ad.add (i + j)) = some u := by
  obtain ⟨ad, c, h1, h2, h3, h4⟩ := Kd.C_get h z (i : Int) (by omega) (by omega)
  have h5 : c = [Value.string (strOfNums (xs.getD ((i : Int)).toNat z))] := h3
  subst h5
  refine ⟨ad, h1, fun j u hu => ?_⟩
  have h6 := h4 j u hu
  have e1 : ((i : Int)).toNat * kSL.sz + j = i + j := by show ((i : Int)).toNat * 1 + j = i + j; omega
  rw [e1] at h6
  exact h6
theorem bt_nums (xs : List Int) (i : Nat) (h : i < xs.length) (hb : 0 ≤ xs[i] ∧ xs[i] < 256) : bt (strOfNums xs) (i : Int) = xs[i] := by
  have h1 : i < (strOfNums xs).size := by rw [strOfNums_size]; exact h
  unfold bt
  rw [dif_pos (by omega)]
  have e1 : (strOfNums xs).data[i]'(by exact h1) = UInt8.ofNat (xs[i]).toNat := by simp [strOfNums]
  have e2 : (strOfNums xs)[((i : Int)).toNat]'(by rw [Int.toNat_natCast]; exact h1) = (strOfNums xs).data[i]'(by exact h1) := by
    show (strOfNums xs).data[((i : Int)).toNat]'_ = _
    simp only [Int.toNat_natCast]
  rw [e2, e1]
  rw [UInt8.toNat_ofNat']
  omega
theorem conv_row (w : World) (xs : List Int) (hb : ∀ c ∈ xs, 0 ≤ c ∧ c < 256) (hl : xs.length ≤ 140737488355328) : ∃ (g cap : Nat) (w' : World), (convert 9 32 (.string (strOfNums xs))).run Try.prog w = .ok (.slice (some ⟨g, 0, none⟩) xs.length cap) w' ∧ Below w.heap.size w w' ∧ w.heap.size = g ∧ w'.heap.size = g + 1 ∧ xs.length ≤ cap ∧ (Kd.int .u8).C w' (some ⟨g, 0, none⟩) xs.length xs := by
  have h0 := Go.Lib.run_convert_string_bytes w 9 32 5 (strOfNums xs) Try.underlying9 Try.underlying32 Try.underlying5 (P := Try.prog)
  obtain ⟨g, cap, w', h1, h2, h3, h4, h5⟩ := conv_bytes (P := Try.prog) 9 32 5 (by kernel_rfl) (by kernel_rfl) (by kernel_rfl) w (strOfNums xs)
  rw [strOfNums_size] at h1 h5
  have hcap : xs.length ≤ cap := by
    have h6 := h0
    rw [strOfNums_size] at h6
    rw [h6] at h1
    injection h1 with h1 _
    injection h1 with _ _ h1
    rw [← h1]
    exact grownCap_ge _ _ _ _
  refine ⟨g, cap, w', h1, h2, h3, h4, hcap, rfl, by omega, fun hn => ⟨_, rfl, fun j p hj => ⟨[.int .u8 p], rfl, rfl, fun i u hu => ?_⟩⟩⟩
  obtain ⟨hlt, hp⟩ := List.getElem?_eq_some_iff.1 hj
  rcases i with _ | i
  · have hu' : u = .int .u8 p := by simpa using hu.symm
    subst hu'
    have e : (⟨g, 0, none⟩ : Addr).add (j * 1 + 0) = ⟨g, j, none⟩ := by rw [add_plain]; simp
    show w'.cell? ((⟨g, 0, none⟩ : Addr).add (j * 1 + 0)) = _
    rw [e, h5 j hlt, bt_nums xs j hlt (hb _ (List.getElem_mem hlt)), hp]
  · simp at hu
def TapeB (w0 w : World) (g tb : Nat) (s : TS) : Prop := (tb = g ∨ (w0.heap.size ≤ tb ∧ ∃ cs, Blk w tb 5 cs)) ∧ ∃ m, TapeAt w0 w g m (fun q => q ≠ tb) s
theorem br_at {w : World} {base : Nat} {ok : Nat → Prop} {A : Option Addr} {n c : Nat} {xs : List Int} (h : BR .u8 5 w base ok A n c xs) (d : Nat) : ∃ tb, (tb = d ∨ (ok tb ∧ base ≤ tb ∧ ∃ cs, Blk w tb 5 cs)) ∧ BR .u8 5 w base (fun q => q = tb ∧ ok q) A n c xs := by
  rcases h with h | ⟨g, cur, rfl, hb, h1, h2, h3⟩
  · cases ho : (Value.slice A n c).ownBlock with
    | none => exact ⟨d, .inl rfl, .inl (Kd.R_of_own (Kd.own_of_R h) (fun k hk => by rw [ho] at hk; cases hk))⟩
    | some k =>
      have h2 := (Kd.R_bound h).1 k ho
      obtain ⟨h3, h4, h5, q, hq, cells, hc⟩ := h2
      have e1 : q = 5 := by
        rcases List.mem_cons.1 hq with h | h
        · exact h
        · cases h
      rw [e1] at hc
      exact ⟨k, .inr ⟨h3, h4, cells, hc⟩, .inl (Kd.R_of_own (Kd.own_of_R h) (fun k' hk => by rw [ho] at hk; obtain rfl := Option.some.inj hk; exact ⟨rfl, h3⟩))⟩
  · exact ⟨g, .inr ⟨h2, h1, cur, hb⟩, .inr ⟨g, cur, rfl, hb, h1, ⟨rfl, h2⟩, h3⟩⟩
theorem TapeAt.toB {w0 w : World} {g m : Nat} {x : Nat → Prop} {s : TS} (h : TapeAt w0 w g m x s) : ∃ tb, TapeB w0 w g tb s ∧ (tb = g ∨ (g < tb ∧ tb < m ∧ ¬ x tb)) := by
  obtain ⟨h1, h2, h3, A, n, c, h4, h5⟩ := h
  obtain ⟨tb, h6, h7⟩ := br_at h5 g
  refine ⟨tb, ⟨h6.imp id (fun h => h.2), m, h1, h2, h3, A, n, c, h4, BR.mono h7 (fun q hq => ⟨hq.2.1, hq.2.2.1, fun hn => hn hq.1⟩)⟩, h6.imp id (fun h => h.1)⟩
section
variable {w0 w w' : World} {g tb : Nat} {s : TS}
theorem TapeB.blkg (h : TapeB w0 w g tb s) : ∃ cs, Blk w g 76 cs := by
  obtain ⟨_, m, h1, h2, h3, A, n, c, h4, h5⟩ := h
  exact ⟨_, h4⟩
theorem TapeB.size (h : TapeB w0 w g tb s) : w0.heap.size ≤ g ∧ g < w.heap.size ∧ w0.heap.size ≤ tb ∧ tb < w.heap.size := by
  obtain ⟨h0, m, h1, h2, h3, A, n, c, h4, h5⟩ := h
  have h6 := h4.lt
  rcases h0 with rfl | ⟨h7, cs, h8⟩
  · exact ⟨h2, h6, h2, h6⟩
  · exact ⟨h2, h6, h7, h8.lt⟩
theorem TapeB.below (h : TapeB w0 w g tb s) : Below w0.heap.size w0 w := by
  obtain ⟨_, m, h1, _⟩ := h
  exact h1
theorem TapeB.ne (h : TapeB w0 w g tb s) {q t : Nat} {cs : Array Value} (hb : Blk w q t cs) (h1 : t ≠ 76) (h2 : t ≠ 5) : q ≠ g ∧ q ≠ tb := by
  obtain ⟨cg, hg⟩ := h.blkg
  have n1 : q ≠ g := fun e => by
    subst e
    have h3 := hb.symm.trans hg
    injection h3 with h3
    injection h3 with _ h3
    exact h1 h3
  refine ⟨n1, fun e => ?_⟩
  rcases h.1 with h4 | ⟨_, cs2, h4⟩
  · exact n1 (e.trans h4)
  · subst e
    have h3 := hb.symm.trans h4
    injection h3 with h3
    injection h3 with _ h3
    exact h2 h3
theorem TapeB.step (h : TapeB w0 w g tb s) (hB : Below w0.heap.size w0 w') (hs : w.heap.size ≤ w'.heap.size) (hg : w'.heap[g]? = w.heap[g]?) (ht : w'.heap[tb]? = w.heap[tb]?) : TapeB w0 w' g tb s := by
  obtain ⟨h0, m, h1, h2, h3, A, n, c, h4, h5⟩ := h
  refine ⟨h0.imp id (fun h => ⟨h.1, h.2.choose, ht.trans h.2.choose_spec⟩), m, hB, h2, ⟨h3.1, Nat.le_trans h3.2 hs⟩, A, n, c, hg.trans h4, BR.step h5 (fun q hq _ => ?_)⟩
  have e : q = tb := Classical.byContradiction hq.2.2
  rw [e]
  exact ht
theorem TapeB.on (h : TapeB w0 w g tb s) (hb : Below w.heap.size w w') : TapeB w0 w' g tb s := by
  have hz := h.size
  exact h.step (chain h.below hb) hb.size (hb.block g hz.2.1) (hb.block tb hz.2.2.2)
theorem TapeB.kept {S : Nat → Prop} (h : TapeB w0 w g tb s) (hk : Kept w w' S) (hq : QT w w') (hS : ∀ q, S q → w0.heap.size ≤ q) (h1 : ¬ S g) (h2 : ¬ S tb) : TapeB w0 w' g tb s := by
  have hz := h.size
  exact h.step (below_k h.below hk hq hS) hk.1 (hk.2 g hz.2.1 h1) (hk.2 tb hz.2.2.2 h2)
def XB (w : World) (g tb : Nat) : Nat → Prop := fun q => q < w.heap.size ∧ q ≠ g ∧ q ≠ tb
theorem TapeB.atX (h : TapeB w0 w g tb s) : ∃ m, TapeAt w0 w g m (XB w g tb) s := by
  obtain ⟨_, m, h⟩ := h
  exact ⟨m, h.hole _ (fun q h1 h2 h3 h4 => h3 h4.2.2)⟩
theorem TapeAt.offX {m : Nat} {s' : TS} (h : TapeAt w0 w' g m (XB w g tb) s') : ∃ tb', TapeB w0 w' g tb' s' ∧ (tb' = tb ∨ tb' = g ∨ w.heap.size ≤ tb') := by
  obtain ⟨tb', h1, h2⟩ := h.toB
  refine ⟨tb', h1, ?_⟩
  rcases h2 with h2 | ⟨h2, h3, h4⟩
  · exact .inr (.inl h2)
  · by_cases h5 : tb' = tb
    · exact .inl h5
    · refine .inr (.inr (Nat.le_of_not_lt fun h6 => h4 ⟨h6, ?_, h5⟩))
      omega
theorem qt_of {w0 w w' : World} (h : Below w0.heap.size w0 w) (h' : Below w0.heap.size w0 w') : QT w w' := ⟨h'.os.trans h.os.symm, h'.tape.trans h.tape.symm, h'.output.trans h.output.symm⟩
theorem callB {s' : TS} {f : FuncId} {args : Array Value} {E : Value} (hT : TapeB w0 w g tb s)
    (h : ∀ m, TapeAt w0 w g m (XB w g tb) s → Calls Try.prog f args w fun e w' => e = .returned E ∧ TapeAt w0 w' g w'.heap.size (XB w g tb) s' ∧ w.heap.size ≤ w'.heap.size ∧ (∀ q, XB w g tb q → q ≠ g → w'.heap[q]? = w.heap[q]?)) :
    Calls Try.prog f args w fun e w' => e = .returned E ∧ Kept w w' (fun q => q = g ∨ q = tb) ∧ QT w w' ∧ ∃ tb', TapeB w0 w' g tb' s' ∧ (tb' = tb ∨ tb' = g ∨ w.heap.size ≤ tb') := by
  obtain ⟨m, hm⟩ := hT.atX
  refine (h m hm).mono fun e w' h => ?_
  obtain ⟨h1, h2, h3, h4⟩ := h
  refine ⟨h1, ⟨h3, fun q hq hn => h4 q ⟨hq, fun e => hn (.inl e), fun e => hn (.inr e)⟩ (fun e => hn (.inl e))⟩, qt_of hT.below h2.1, h2.offX⟩
end
def RDAt (w0 w : World) (ok : Nat → Prop) (u md : Nat) (r : RS) (rs : List (List Int)) : Prop := Blk w u 59 (rcells r) ∧ w0.heap.size ≤ u ∧ w0.heap.size ≤ md ∧ ∃ A c, Blk w md 71 #[.pointer (some ⟨u, 0, none⟩), .slice A rs.length c] ∧ kSL.R 9 w w0.heap.size ok (.slice A rs.length c) rs
section
variable {w0 w w' : World} {ok ok' : Nat → Prop} {u md : Nat} {r : RS} {rs : List (List Int)} {S : Nat → Prop}
theorem RDAt.kept (h : RDAt w0 w ok u md r rs) (hk : Kept w w' S) (h1 : ¬ S u) (h2 : ¬ S md) (h3 : ∀ q, ok q → ¬ S q) : RDAt w0 w' ok u md r rs := by
  obtain ⟨a1, a2, a3, A, c, a4, a5⟩ := h
  exact ⟨Blk.keptT a1 hk h1, a2, a3, A, c, Blk.keptT a4 hk h2, Kd.R_step a5 (fun k hk2 hlt => hk.2 k hlt (h3 k hk2))⟩
theorem RDAt.on (h : RDAt w0 w ok u md r rs) (hb : Below w.heap.size w w') : RDAt w0 w' ok u md r rs := h.kept (S := fun _ => False) (below_kept hb) (fun h => h) (fun h => h) (fun _ _ h => h)
theorem RDAt.mono (h : RDAt w0 w ok u md r rs) (h1 : ∀ q, ok q → ok' q) : RDAt w0 w ok' u md r rs := by
  obtain ⟨a1, a2, a3, A, c, a4, a5⟩ := h
  exact ⟨a1, a2, a3, A, c, a4, Kd.R_mono a5 h1⟩
theorem RDAt.typed (h : RDAt w0 w ok u md r rs) : RDAt w0 w (fun q => ok q ∧ ∃ cs, Blk w q 9 cs) u md r rs := by
  obtain ⟨a1, a2, a3, A, c, a4, a5⟩ := h
  refine ⟨a1, a2, a3, A, c, a4, Kd.R_mono (Kd.R_bound a5) (fun q hq => ⟨hq.1, ?_⟩)⟩
  obtain ⟨_, _, _, e, he, cs, hc⟩ := hq
  have e1 : e = 9 := by
    rcases List.mem_cons.1 he with h | h
    · exact h
    · cases h
  rw [e1] at hc
  exact ⟨cs, hc⟩
theorem blk_ne {g1 g2 t1 t2 : Nat} {c1 c2 : Array Value} (h1 : Blk w g1 t1 c1) (h2 : Blk w g2 t2 c2) (h : t1 ≠ t2) : g1 ≠ g2 := fun e => by
  subst e
  have h3 := h1.symm.trans h2
  injection h3 with h3
  injection h3 with _ h3
  exact h h3
end
theorem RS.next_le (r : RS) : r.next.st ≤ r.st + 1 := by
  unfold RS.next
  split
  · omega
  split
  · show r.st ≤ r.st + 1; omega
  split
  · exact Int.le_refl _
  · exact Int.le_refl _
theorem RS.app_ok2 {r : RS} (h : r.Ok) (h9 : r.st ≤ 999999999999999) (ys : List Int) : (r.app ys).Ok ∧ (r.app ys).st ≤ r.st + 1 := by
  have hn := RS.next_ok h h9
  have hs := r.next_le
  have he := r.next_SR
  unfold RS.app
  split
  · exact ⟨h, by omega⟩
  split
  · refine ⟨⟨hn.st, hn.l, hn.u, ?_⟩, hs⟩
    show r.next.S.length + (r.next.R ++ ys).length ≤ 1048576
    rw [he.1, he.2, List.length_append]; omega
  · exact ⟨hn, hs⟩
theorem RS.sync_ok2 {r : RS} (h : r.Ok) (h9 : r.st ≤ 999999999999999) : r.sync.Ok ∧ r.sync.st ≤ r.st + 1 := by
  have hn := RS.next_ok h h9
  have hs := r.next_le
  unfold RS.sync
  split
  · refine ⟨⟨hn.st, hn.l, hn.u, ?_⟩, hs⟩
    have h4 := hn.len
    show (r.next.S ++ r.next.R).length + ([] : List Int).length ≤ 1048576
    rw [List.length_append]; simp; omega
  · exact ⟨hn, hs⟩
theorem RS.rep_ok2 {r : RS} (h : r.Ok) (h9 : r.st ≤ 999999999999999) (ys : List Int) : (r.rep ys).Ok ∧ (r.rep ys).st ≤ r.st + 1 := by
  have hn := RS.next_ok h h9
  have hs := r.next_le
  unfold RS.rep
  split
  · exact ⟨h, by omega⟩
  split
  · refine ⟨⟨hn.st, hn.l, hn.u, ?_⟩, hs⟩
    show ys.length + ([] : List Int).length ≤ 1048576
    simp; omega
  · exact ⟨hn, hs⟩
def frX (ss : List (List Int)) : List Int := if rwFull ss then [] else FC ss
def frN (ss : List (List Int)) : Int := if rwFull ss then 7 else 0
theorem fr_full {ss : List (List Int)} (h : rwFull ss = true) : frX ss = [] ∧ frN ss = 7 := by unfold frX frN; rw [if_pos h, if_pos h]; exact ⟨rfl, rfl⟩
theorem fr_fit {ss : List (List Int)} (h : rwFull ss = false) : frX ss = FC ss ∧ frN ss = 0 := by unfold frX frN; rw [if_neg (by rw [h]; simp), if_neg (by rw [h]; simp)]; exact ⟨rfl, rfl⟩
theorem fr_zero {ss : List (List Int)} (h : (frN ss == 0) = true) : rwFull ss = false := by
  cases hf : rwFull ss with
  | false => rfl
  | true => rw [(fr_full hf).2] at h; cases h
theorem fr_some {ss : List (List Int)} (h : (frN ss == 0) = false) : rwFull ss = true := by
  cases hf : rwFull ss with
  | true => rfl
  | false => rw [(fr_fit hf).2] at h; cases h
theorem fr_len (ss : List (List Int)) : (frX ss).length ≤ 1048576 := by
  cases hf : rwFull ss with
  | true => rw [(fr_full hf).1]; simp
  | false => rw [(fr_fit hf).1]; exact (rwFull_all hf).2
theorem rwFull_one (row : List Int) : rwFull [row] = decide (16376 < row.length) := by
  unfold rwFull
  rw [FC_one]
  have h := frameB_short row
  simp only [List.any_cons, List.any_nil, Bool.or_false]
  rw [decide_eq_false (p := 1048576 < (frameB row).length) (by omega), Bool.or_false]
theorem errN_long {r : List Int} (h : (errN r != 0) = true) : 16376 < r.length ∧ errN r = 7 := by
  unfold errN at h ⊢
  by_cases h1 : 16376 < r.length
  · rw [if_pos h1]; exact ⟨h1, rfl⟩
  · rw [if_neg h1] at h; cases h
theorem errN_short {r : List Int} (h : (errN r != 0) = false) : r.length ≤ 16376 := by
  unfold errN at h
  by_cases h1 : 16376 < r.length
  · rw [if_pos h1] at h; cases h
  · omega
theorem refwrap_any (w : World) (A0 : Option Addr) (c0 : Nat) (b : List Int) (hC : (Kd.int .u8).C w A0 b.length b) (hc : b.length ≤ c0) (hb : Bytes b) : Calls Try.prog 56 #[.slice A0 b.length c0] w fun e w' => ∃ A' n' c', e = .returned (.tuple #[.slice A' n' c', .int .i64 (errN b)]) ∧ Own .u8 5 w' w.heap.size w.heap.size A' n' c' (frameB b) ∧ Below w.heap.size w w' := by
  by_cases h : 16376 < b.length
  · have e : estuaryref04_Wrap.f (10 * b.length + 1) b = some (frameB b, errN b) := by
      unfold estuaryref04_Wrap.f frameB errN
      rw [if_pos (by omega), if_pos h, if_pos h]
    refine (estuaryref04_Wrap.calls (10 * b.length + 1) A0 c0 b _ _ w hC hc e).mono ?_
    rintro e w' ⟨v0, rfl, hR, hB⟩
    obtain ⟨A', c', rfl, hle, hR2⟩ := R_shape hR
    exact ⟨A', _, c', rfl, Own.born hR2 (Nat.le_refl _), hB⟩
  · exact refwrap_calls w A0 c0 b hC hc hb (by omega)
theorem rows_le (rs : List (List Int)) (h : ∀ p ∈ rs, p.length ≤ 16376) : rs.length ≤ (FC rs).length := by
  induction rs with
  | nil => simp
  | cons p rs ih =>
    have h1 := frameB_len p (h p (by simp))
    have h2 := ih (fun q hq => h q (List.mem_cons_of_mem _ hq))
    rw [FC_cons, List.length_append, List.length_cons]
    omega
theorem Kept.grownO {α : Type} {d : Kd α} {e : TypeId} {w1 w w' : World} {base b : Nat} {A : Option Addr} {n c : Nat} {xs : List α} {S : Nat → Prop} (h : Kept w1 w S) (hG : w.grownBy w' (Value.slice A n c).ownBlock) (ho : OwnK d e w base b A n c xs) (hb : w1.heap.size ≤ b) : Kept w1 w' S :=
  ⟨Nat.le_trans h.1 hG.size, fun i hi hn => (hG.block i (Nat.lt_of_lt_of_le hi h.1) (fun he => by have := ho.blk_ge he.symm; omega)).trans (h.2 i hi hn)⟩
theorem addB (w0 w : World) (g gd tb : Nat) (D : DS) (hT : TapeB w0 w g tb D.s) (hb : Blk w gd 80 (dcells g D.r D.b)) (hgd0 : w0.heap.size ≤ gd) (hok : D.s.Ok) (h9 : D.s.steps ≤ 999999999999990) (hr0 : -1000000000000000 ≤ D.r ∧ D.r ≤ 1000000000000000) (hb0 : -1000000000000000 ≤ D.b ∧ D.b ≤ 1000000000000000)
    (A1 : Option Addr) (c1 : Nat) (row : List Int) (hr : (Kd.int .u8).C w A1 row.length row) (hc1 : row.length ≤ c1) (hl : row.length ≤ 140737488355328) :
    Calls Try.prog 12 #[.pointer (some ⟨gd, 0, none⟩), .slice A1 row.length c1] w fun e w' => e = .returned (errT (D.addE row)) ∧ Kept w w' (fun q => q = g ∨ q = tb ∨ q = gd) ∧ QT w w' ∧ ∃ tb', TapeB w0 w' g tb' (D.add row).s ∧ Blk w' gd 80 (dcells g (D.add row).r (D.add row).b) ∧ (tb' = tb ∨ tb' = g ∨ w.heap.size ≤ tb') := by
  obtain ⟨m, hm⟩ := hT.atX
  obtain ⟨n1, n2⟩ := hT.ne hb (by decide) (by decide)
  have hx : XB w g tb gd := ⟨hb.lt, n1, n2⟩
  refine (add_D w0 w g gd m (XB w g tb) (fun q h => h.1) D ⟨hm, hb, n1, hgd0, hx⟩ hok h9 hr0 hb0 A1 c1 row hr hc1 hl).mono fun e w' h => ?_
  obtain ⟨h1, m', ⟨h2, h3, _⟩, h4, h5⟩ := h
  obtain ⟨tb', h6, h7⟩ := h2.offX
  exact ⟨h1, ⟨h4, fun q hq hn => h5 q ⟨hq, fun e => hn (.inl e), fun e => hn (.inr (.inl e))⟩ (fun e => hn (.inl e)) (fun e => hn (.inr (.inr e)))⟩, qt_of hT.below h2.1, tb', h6, h3, h7⟩
theorem rwB (w0 w : World) (g gd tb : Nat) (D : DS) (hT : TapeB w0 w g tb D.s) (hb : Blk w gd 80 (dcells g D.r D.b)) (hgd0 : w0.heap.size ≤ gd) (hok : D.s.Ok)
    (A1 : Option Addr) (c1 : Nat) (rows : List (List Int)) (hr : (Kd.slice 5 (Kd.int .u8)).C w A1 rows.length rows) (hc1 : rows.length ≤ c1) (hn : rows.length ≤ 6000000000000) (hall : ∀ p ∈ rows, p.length ≤ 140737488355328) :
    Calls Try.prog 21 #[.pointer (some ⟨gd, 0, none⟩), .slice A1 rows.length c1] w fun e w' => e = .returned (errT (D.rwE rows)) ∧ Kept w w' (fun q => q = g ∨ q = tb ∨ q = gd) ∧ QT w w' ∧ ∃ tb', TapeB w0 w' g tb' (D.rw rows).s ∧ Blk w' gd 80 (dcells g (D.rw rows).r (D.rw rows).b) ∧ (tb' = tb ∨ tb' = g ∨ w.heap.size ≤ tb') := by
  obtain ⟨m, hm⟩ := hT.atX
  obtain ⟨n1, n2⟩ := hT.ne hb (by decide) (by decide)
  have hx : XB w g tb gd := ⟨hb.lt, n1, n2⟩
  refine (rewrite_D w0 w g gd m (XB w g tb) (fun q h => h.1) D ⟨hm, hb, n1, hgd0, hx⟩ hok A1 c1 rows hr hc1 hn hall).mono fun e w' h => ?_
  obtain ⟨h1, m', ⟨h2, h3, _⟩, h4, h5⟩ := h
  obtain ⟨tb', h6, h7⟩ := h2.offX
  exact ⟨h1, ⟨h4, fun q hq hn => h5 q ⟨hq, fun e => hn (.inl e), fun e => hn (.inr (.inl e))⟩ (fun e => hn (.inl e)) (fun e => hn (.inr (.inr e)))⟩, qt_of hT.below h2.1, tb', h6, h3, h7⟩
theorem openB (w0 w : World) (g tb : Nat) (s : TS) (hT : TapeB w0 w g tb s) (hok : s.Ok) (hby : Go.Proofs.Ytiiljpaedelhlaa.PDiaryPlays.Bytes s.xs) :
    Calls Try.prog 11 #[.pointer (some ⟨g, 0, none⟩)] w fun e w' => ∃ (out : List (List Int)) (n tb' : Nat), (s.dn = false → Go.Proofs.Ytiiljpaedelhlaa.PDiaryPlays.SplitR s.xs out n) ∧ Kept w w' (fun q => q = g) ∧ QT w w' ∧ TapeB w0 w' g tb' (openS s n) ∧ (tb' = tb ∨ tb' = g ∨ w.heap.size ≤ tb') ∧
      ((∃ c, openE s n = some c ∧ e = .returned (.tuple #[.pointer none, .slice none 0 0, errT (some c)])) ∨ (openE s n = none ∧ s.dn = false ∧ ∃ (gd z : Nat) (A : Option Addr) (c : Nat), e = .returned (.tuple #[.pointer (some ⟨gd, 0, none⟩), .slice A out.length c, errT none]) ∧ w0.heap.size ≤ gd ∧ Blk w' gd 80 (dcells g (out.length : Int) (n : Int)) ∧
        Kd.S (Kd.slice 5 (Kd.int .u8)) 32 w' w.heap.size (fun q => w.heap.size ≤ q ∧ q < z) (.slice A out.length c) out ∧ ¬ (w.heap.size ≤ tb' ∧ tb' < z) ∧ z ≤ gd)) := by
  obtain ⟨m, hm⟩ := hT.atX
  have hz := hT.size
  refine (open_S w0 w g m (XB w g tb) (fun q h => h.1) s hm hok hby).mono fun e w' h => ?_
  obtain ⟨h1, hK, ⟨h2, h3, m', h4⟩ | ⟨h2, out, n, hS, ⟨c, h3, h4, m', h5⟩ | ⟨h3, gd, m', z, A, c, h4, ⟨h5, h6, h7, h8, _⟩, h9, h9z⟩⟩⟩ := h
  · obtain ⟨tb', h6, h7⟩ := h4.offX
    have e1 : openS s 0 = s := by rw [openS, if_pos h2]
    have e2 : openE s 0 = some 5 := by rw [openE, if_pos h2]
    exact ⟨[], 0, tb', (fun h => by rw [h2] at h; cases h), hK, qt_of hT.below h4.1, by rw [e1]; exact h6, h7, .inl ⟨5, e2, h3⟩⟩
  · obtain ⟨tb', h6, h7⟩ := h5.offX
    exact ⟨out, n, tb', fun _ => hS, hK, qt_of hT.below h5.1, h6, h7, .inl ⟨c, h3, h4⟩⟩
  · obtain ⟨tb', h10, h11⟩ := h5.toB
    refine ⟨out, n, tb', fun _ => hS, hK, qt_of hT.below h5.1, h10, ?_, .inr ⟨h3, h2, gd, z, A, c, h4, h8, h6, h9, ?_, h9z⟩⟩
    · rcases h11 with h11 | ⟨h11, h12, h13⟩
      · exact .inr (.inl h11)
      · by_cases h14 : tb' = tb
        · exact .inl h14
        · refine .inr (.inr (Nat.le_of_not_lt fun h15 => h13 (.inr (.inl ⟨h15, by omega, h14⟩))))
    · rcases h11 with h11 | ⟨h11, h12, h13⟩
      · omega
      · exact fun h => h13 (.inr (.inr h))
theorem own_kept_ty {α α2 : Type} {d : Kd α} {d2 : Kd α2} {e e2 : TypeId} {w w' : World} {base b b2 : Nat} {A A2 : Option Addr} {n c n2 c2 : Nat} {xs : List α} {ys : List α2} (h : OwnK d e w base b A n c xs) (ho : OwnK d2 e2 w base b2 A2 n2 c2 ys) (hne : ∀ q, q ∈ e :: d.E → q ≠ e2) (hk : Kept w w' (fun q => (Value.slice A2 n2 c2).ownBlock = some q)) : OwnK d e w' base b A n c xs := by
  refine Kd.R_mono (Kd.R_move (Kd.R_bound h) (fun k hk2 => hk.2 k hk2.2.2.1 (fun he => ?_))) (fun q hq => hq.1)
  obtain ⟨_, _, _, q, hq, cells, hc⟩ := hk2
  obtain ⟨cells2, hc2⟩ := Kd.R_typed ho k he
  rw [hc] at hc2
  injection hc2 with hc2
  injection hc2 with _ hc2
  exact hne q hq hc2
theorem Kept.ownS {α : Type} {d : Kd α} {e : TypeId} {w1 w w' : World} {base b : Nat} {A : Option Addr} {n c : Nat} {xs : List α} {S : Nat → Prop} (h : Kept w1 w S) (hk : Kept w w' (fun q => (Value.slice A n c).ownBlock = some q)) (ho : OwnK d e w base b A n c xs) (hb : w1.heap.size ≤ b) : Kept w1 w' S :=
  ⟨Nat.le_trans h.1 hk.1, fun i hi hn => (hk.2 i (Nat.lt_of_lt_of_le hi h.1) (fun he => by have := ho.blk_ge he; omega)).trans (h.2 i hi hn)⟩
theorem blk_own_ne {α : Type} {d : Kd α} {e : TypeId} {w : World} {base b g t : Nat} {A : Option Addr} {n c : Nat} {xs : List α} {cs : Array Value} (ho : OwnK d e w base b A n c xs) (hb : Blk w g t cs) (hne : t ≠ e) : ¬ (Value.slice A n c).ownBlock = some g := fun he => by
  obtain ⟨cells2, hc2⟩ := Kd.R_typed ho g he
  have hb' : w.heap[g]? = some (.cells cs t (0, 0)) := hb
  rw [hb'] at hc2
  injection hc2 with hc2
  injection hc2 with _ hc2
  exact hne hc2
end Go.Proofs.Ytiiljpaedelhlaa.Tp
end
section
namespace Go.Proofs.Ytiiljpaedelhlaa.Tp
open Go.RowKit Go.Proofs.YtiiljpaedelhlaaW.PrintWords Go.Proofs.YtiiljpaedelhlaaW.PrintLast Go.Proofs.YtiiljpaedelhlaaW.PrintMore
open Go.Proofs.Ytiiljpaedelhlaa.Flow
open Go.Proofs.Ytiiljpaedelhlaa.PDiaryPlays (SplitR Bytes frameB frameE FC wholeP frameB_len frameB_bytes FC_cons errN refsplit_calls)
set_option linter.unusedVariables false
set_option linter.unusedSimpArgs false
set_option maxHeartbeats 4000000 in
theorem frames_calls (w : World) (A0 : Option Addr) (c0 : Nat) (ss : List (List Int)) (hss : kSL.C w A0 ss.length ss) (hcs : ss.length ≤ c0) (hby : ∀ p ∈ ss, Bytes p) (hall : ∀ p ∈ ss, p.length ≤ 140737488355328) (hn : ss.length ≤ 6000000000000) :
    Calls Try.prog 45 #[.slice A0 ss.length c0] w fun e w' => e = .returned (.tuple #[.string (strOfNums (frX ss)), .int .i64 (frN ss)]) ∧ Below w.heap.size w w' := by
  refine calls_flow Try.func45 rfl 34 rfl (Nat.le_of_ble_eq_true rfl) [(0, .slice A0 ss.length c0)] ?_ ?_
  · intro t v h; exact args_look rfl t v h
  refine w_seq ?_
  refine w_region ?_
  refine rw_val (v := .string (⟨#[]⟩ : ByteArray)) (w' := w) rfl rfl rfl rfl rfl ?_
  refine rw_val (v := .int .i64 0) (w' := w) rfl rfl rfl rfl rfl ?_
  refine rw_end ?_
  refine w_seq ?_
  refine w_region ?_
  refine rw_val (v := .string (⟨#[]⟩ : ByteArray)) (w' := w) rfl rfl rfl rfl rfl ?_
  refine rw_end ?_
  refine w_seq ?_
  refine w_seq ?_
  refine w_region ?_
  refine rw_val (v := .int .i64 0) (w' := w) rfl rfl rfl rfl rfl ?_
  refine rw_end ?_
  refine w_block ?_
  refine w_loop (fun m_ G W_ => ∃ (j : Nat), j + m_ = ss.length ∧ Below w.heap.size w W_ ∧ (∀ p ∈ ss.take j, p.length ≤ 16376) ∧ ((FC (ss.take j)).length ≤ 16384 * j) ∧ G = [(0, .slice A0 ss.length c0), (4, .string (strOfNums (FC (ss.take j)))), (5, .int .i64 ((j : Nat) : Int))]) ss.length [(0, .slice A0 ss.length c0), (4, .string (strOfNums (FC (ss.take 0)))), (5, .int .i64 0)] ⟨0, by omega, (Below.refl _ _), (by simp), (by simp [FC]), rfl⟩ ⟨rfl, rfl, rfl, trivial⟩ ?_
  rintro m_ G w_L1 ⟨j, hp2, hB_L1, hf3, hf4, rfl⟩
  have hs_w_L1 := hB_L1.size
  refine w_seq ?_
  refine w_seq ?_
  refine w_region ?_
  refine rw_val (v := .int .i64 ((j : Nat) : Int)) (w' := w_L1) rfl rfl rfl rfl rfl ?_
  refine rw_val (v := .slice A0 ss.length c0) (w' := w_L1) rfl rfl rfl rfl rfl ?_
  refine rw_val (v := .int .i64 ((ss.length : Nat) : Int)) (w' := w_L1) rfl rfl rfl rfl (by simp [go_sem, sEv, sLook, nbeq, i64_w, -List.getD_eq_getElem?_getD]) ?_
  refine rw_val (v := .bool (decide (((j : Nat) : Int) < ((ss.length : Nat) : Int)))) (w' := w_L1) rfl rfl rfl rfl (by simp [go_sem, sEv, sLook, nbeq, i64_w, -List.getD_eq_getElem?_getD]) ?_
  refine rw_end ?_
  refine w_weaken (G' := [(0, .slice A0 ss.length c0), (4, .string (strOfNums (FC (ss.take j)))), (5, .int .i64 ((j : Nat) : Int)), (11, .bool (decide (((j : Nat) : Int) < ((ss.length : Nat) : Int))))]) ⟨rfl, rfl, rfl, rfl, trivial⟩ ?_
  refine w_cond rfl rfl (fun cJ => ?_) (fun cJ => ?_)
  · have l5 : (((j : Nat) : Int) < ((ss.length : Nat) : Int)) := of_decide_eq_true cJ
    refine w_skip ?_
    refine w_seq ?_
    refine w_block ?_
    refine w_seq ?_
    refine w_region ?_
    refine rw_val (v := .slice A0 ss.length c0) (w' := w_L1) rfl rfl rfl rfl rfl ?_
    refine rw_val (v := .int .i64 ((j : Nat) : Int)) (w' := w_L1) rfl rfl rfl rfl rfl ?_
    obtain ⟨ad6, hA7, hc8⟩ := sl_el (Kd.C_below hss hB_L1) [] j (by first | omega | decide)
    subst hA7
    have he9 : w_L1.cell? (ad6.add (j)) = some (.string (strOfNums (ss.getD j []))) := cell_0 (hc8 0 _ rfl)
    refine rw_val (v := .pointer (some (ad6.add (j)))) (w' := w_L1) rfl rfl rfl rfl (run_as (run_at_1 (P := Try.prog) (e := 9) (by kernel_rfl) (by kernel_rfl) j (by first | omega | decide) _)) ?_
    refine rw_val (v := .string (strOfNums (ss.getD j []))) (w' := w_L1) rfl rfl rfl rfl (by have e0_ := cellOn he9 (Below.refl _ _); simp [go_sem, sEv, sLook, nbeq, i64_w, -List.getD_eq_getElem?_getD, e0_]) ?_
    obtain ⟨g10, cap11, w12, hr13, hb14, hg15, hz16, hc17, hC18⟩ := conv_row w_L1 (ss.getD j []) (hby _ (getD_mem ss j [] (by omega))) (hall _ (getD_mem ss j [] (by omega)))
    refine rw_val (v := .slice (some ⟨g10, 0, none⟩) ((ss.getD j []).length) cap11) (w' := w12) rfl rfl rfl rfl (run_as hr13) ?_
    have hs_w12 := hb14.size
    refine rw_call rfl rfl rfl rfl (f := 56) (args := #[.slice (some ⟨g10, 0, none⟩) ((ss.getD j []).length) cap11]) (by simp [go_sem, sEv, sLook, nbeq, i64_w, -List.getD_eq_getElem?_getD]) (refwrap_any w12 (some ⟨g10, 0, none⟩) cap11 (ss.getD j []) (Kd.C_below hC18 (Below.refl _ _)) hc17 (hby _ (getD_mem ss j [] (by omega)))) ?_
    rintro e_ w22 ⟨A19, n20, c21, rfl, hO23, hB24⟩
    refine ⟨_, rfl, ?_⟩
    have hl25 : n20 = (frameB (ss.getD j [])).length := Own.len hO23
    subst hl25
    have hs_w22 := hB24.size
    have hL26 : OwnK (Kd.int .u8) 5 w22 w.heap.size w12.heap.size A19 (frameB (ss.getD j [])).length c21 (frameB (ss.getD j [])) := OwnK.lower (d := (Kd.int .u8)) hO23 (by omega)
    have hfs_ := frameB_short (ss.getD j [])
    refine rw_val (v := .tuple #[.slice A19 ((frameB (ss.getD j [])).length) c21, .int .i64 (errN (ss.getD j []))]) (w' := w22) rfl rfl rfl rfl rfl ?_
    refine rw_val (v := .slice A19 ((frameB (ss.getD j [])).length) c21) (w' := w22) rfl rfl rfl rfl (by simp [go_sem, sEv, sLook, nbeq, i64_w, -List.getD_eq_getElem?_getD]) ?_
    refine rw_val (v := .int .i64 (errN (ss.getD j []))) (w' := w22) rfl rfl rfl rfl (by simp [go_sem, sEv, sLook, nbeq, i64_w, -List.getD_eq_getElem?_getD]) ?_
    refine rw_val (v := .slice A19 ((frameB (ss.getD j [])).length) c21) (w' := w22) rfl rfl rfl rfl rfl ?_
    refine rw_val (v := .int .i64 (errN (ss.getD j []))) (w' := w22) rfl rfl rfl rfl rfl ?_
    refine rw_end ?_
    refine w_weaken (G' := [(0, .slice (some ad6) ss.length c0), (4, .string (strOfNums (FC (ss.take j)))), (5, .int .i64 ((j : Nat) : Int)), (6, .slice A19 ((frameB (ss.getD j [])).length) c21), (7, .int .i64 (errN (ss.getD j [])))]) ⟨rfl, rfl, rfl, rfl, rfl, trivial⟩ ?_
    refine w_seq ?_
    refine w_seq ?_
    refine w_region ?_
    refine rw_val (v := .int .i64 (errN (ss.getD j []))) (w' := w22) rfl rfl rfl rfl rfl ?_
    refine rw_val (v := .bool ((errN (ss.getD j [])) != 0)) (w' := w22) rfl rfl rfl rfl (by simp [go_sem, sEv, sLook, nbeq, i64_w, -List.getD_eq_getElem?_getD]) ?_
    refine rw_end ?_
    refine w_cond rfl rfl (fun cE => ?_) (fun cE => ?_)
    · have l27 : ¬ (errN (ss.getD j [])) = 0 := by simpa using cE
      refine w_seq ?_
      refine w_region ?_
      refine rw_val (v := .int .i64 (errN (ss.getD j []))) (w' := w22) rfl rfl rfl rfl rfl ?_
      refine rw_val (v := .string (⟨#[]⟩ : ByteArray)) (w' := w22) rfl rfl rfl rfl rfl ?_
      refine rw_val (v := .int .i64 (errN (ss.getD j []))) (w' := w22) rfl rfl rfl rfl rfl ?_
      refine rw_end ?_
      refine w_ret (post_ret2 rfl rfl rfl ?_)
      obtain ⟨e1_, e2_⟩ := errN_long cE
      have hf_ := fr_full (rwFull_long (j := j) (by omega) (frameE_long.2 e1_))
      rw [hf_.1, hf_.2, e2_]
      exact ⟨rfl, (chain (chain hB_L1 hb14) hB24)⟩
    · have l28 : (errN (ss.getD j [])) = 0 := by simpa using cE
      refine w_skip ?_
      refine w_region ?_
      refine rw_val (v := .string (strOfNums (FC (ss.take j)))) (w' := w22) rfl rfl rfl rfl rfl ?_
      refine rw_val (v := .slice A19 ((frameB (ss.getD j [])).length) c21) (w' := w22) rfl rfl rfl rfl rfl ?_
      refine rw_val (v := .string (strOfNums (frameB (ss.getD j [])))) (w' := w22) rfl rfl rfl rfl (run_as (run_str_of (P := Try.prog) (e := 5) (by kernel_rfl) (by kernel_rfl) (by kernel_rfl) (Kd.C_below (OwnK.C (d := (Kd.int .u8)) hL26) (Below.refl _ _)))) ?_
      refine rw_val (v := .string (strOfNums (FC (ss.take (j + 1))))) (w' := w22) rfl rfl rfl rfl (by rw [FC_take_getD ss j (by omega)]; exact run_as (run_str_add (t := 9) (FC (ss.take j)) (frameB (ss.getD j [])) (by omega) _)) ?_
      refine rw_val (v := .string (strOfNums (FC (ss.take (j + 1))))) (w' := w22) rfl rfl rfl rfl rfl ?_
      refine rw_end ?_
      refine w_weaken (G' := [(0, .slice (some ad6) ss.length c0), (4, .string (strOfNums (FC (ss.take (j + 1))))), (5, .int .i64 ((j : Nat) : Int))]) ⟨rfl, rfl, rfl, trivial⟩ ?_
      refine w_blk ?_
      refine w_region ?_
      refine rw_val (v := .int .i64 ((j : Nat) : Int)) (w' := w22) rfl rfl rfl rfl rfl ?_
      refine rw_val (v := .int .i64 ((j + 1 : Nat) : Int)) (w' := w22) rfl rfl rfl rfl (by simp [go_sem, sEv, sLook, nbeq, i64_w, -List.getD_eq_getElem?_getD]; exact wrap_id (by omega) (by omega)) ?_
      refine rw_val (v := .int .i64 ((j + 1 : Nat) : Int)) (w' := w22) rfl rfl rfl rfl rfl ?_
      refine rw_end ?_
      exact w_back (m_ - 1) [(0, .slice (some ad6) ss.length c0), (4, .string (strOfNums (FC (ss.take (j + 1))))), (5, .int .i64 ((j + 1 : Nat) : Int))] (by omega) ⟨rfl, rfl, rfl, trivial⟩ ⟨(j + 1), by omega, (chain (chain hB_L1 hb14) hB24), (by intro p hp; rw [take_snoc ss j (by omega)] at hp; exact (List.mem_append.1 hp).elim (fun hp => hf3 p hp) (fun hp => by rw [List.mem_singleton.1 hp]; exact errN_short cE)), (by rw [FC_take_getD ss j (by omega), List.length_append]; omega), rfl⟩
  · have l29 : ¬ (((j : Nat) : Int) < ((ss.length : Nat) : Int)) := of_decide_eq_false cJ
    refine w_exit rfl ?_
    refine w_seq ?_
    refine w_seq ?_
    refine w_region ?_
    refine rw_val (v := .string (strOfNums (FC (ss.take j)))) (w' := w_L1) rfl rfl rfl rfl rfl ?_
    refine rw_val (v := .int .i64 (((FC (ss.take j)).length : Nat) : Int)) (w' := w_L1) rfl rfl rfl rfl (by simp [go_sem, sEv, sLook, nbeq, i64_w, -List.getD_eq_getElem?_getD, strOfNums_size]) ?_
    refine rw_val (v := .bool (decide (1048576 < (((FC (ss.take j)).length : Nat) : Int)))) (w' := w_L1) rfl rfl rfl rfl (by simp [go_sem, sEv, sLook, nbeq, i64_w, -List.getD_eq_getElem?_getD]) ?_
    refine rw_end ?_
    refine w_cond rfl rfl (fun cB => ?_) (fun cB => ?_)
    · have l30 : (1048576 < (((FC (ss.take j)).length : Nat) : Int)) := of_decide_eq_true cB
      refine w_seq ?_
      refine w_region ?_
      refine rw_val (v := .string (⟨#[]⟩ : ByteArray)) (w' := w_L1) rfl rfl rfl rfl rfl ?_
      refine rw_val (v := .int .i64 7) (w' := w_L1) rfl rfl rfl rfl rfl ?_
      refine rw_end ?_
      refine w_ret (post_ret2 rfl rfl rfl ?_)
      have hf_ := fr_full (rwFull_big (rows := ss) (j := j) (by omega))
      rw [hf_.1, hf_.2]
      exact ⟨rfl, hB_L1⟩
    · have l31 : ¬ (1048576 < (((FC (ss.take j)).length : Nat) : Int)) := of_decide_eq_false cB
      refine w_skip ?_
      refine w_seq ?_
      refine w_region ?_
      refine rw_val (v := .string (strOfNums (FC (ss.take j)))) (w' := w_L1) rfl rfl rfl rfl rfl ?_
      refine rw_val (v := .string (strOfNums (FC (ss.take j)))) (w' := w_L1) rfl rfl rfl rfl rfl ?_
      refine rw_val (v := .int .i64 0) (w' := w_L1) rfl rfl rfl rfl rfl ?_
      refine rw_end ?_
      refine w_ret (post_ret2 rfl rfl rfl ?_)
      have et_ : ss.take j = ss := by rw [show j = ss.length by omega, List.take_length]
      have hf_ := fr_fit (rwFull_no (rows := ss) (fun p hp => hf3 p (by rw [et_]; exact hp)) (by rw [← et_]; omega))
      rw [hf_.1, hf_.2, et_]
      exact ⟨rfl, hB_L1⟩
set_option maxHeartbeats 4000000 in
theorem radd_calls (w1 w : World) (hB0 : Below w.heap.size w w1) (u md : Nat) (ok : Nat → Prop) (hfr : ∀ q, w1.heap.size ≤ q → ok q) (hoku : ∀ q, ok q → q ≠ u ∧ q ≠ md) (r : RS) (rs : List (List Int)) (hR : RDAt w w1 ok u md r rs) (hro : r.Ok) (h9 : r.st ≤ 999999999999990) (row : List Int) (hby : Bytes row) (hl : row.length ≤ 140737488355328) (hlr : rs.length ≤ 2000000) :
    Calls Try.prog 28 #[.pointer (some ⟨md, 0, none⟩), .string (strOfNums row)] w1 fun e w' => e = .returned (.int .i64 (r.addE row)) ∧ Kept w1 w' (fun q => q = u ∨ q = md) ∧ QT w1 w' ∧ RDAt w w' ok u md (r.addS row) (if r.addE row == 0 then rs ++ [row] else rs) := by
  obtain ⟨hbu, hu0, hmd0, A1, c1, hbm, hrs⟩ := hR
  have hmu : md ≠ u := blk_ne hbm hbu (by decide)
  have hlu := hbu.lt
  have hlm := hbm.lt
  have hs_w1 := hB0.size
  have hro1 := hro.st
  refine calls_flow Try.func28 rfl 51 rfl (Nat.le_of_ble_eq_true rfl) [(0, .pointer (some ⟨md, 0, none⟩)), (1, .string (strOfNums row))] ?_ ?_
  · intro t v h; exact args_look rfl t v h
  refine w_seq ?_
  refine w_region ?_
  refine rw_val (v := .int .i64 0) (w' := w1) rfl rfl rfl rfl rfl ?_
  refine rw_end ?_
  refine w_seq ?_
  refine w_region ?_
  refine rw_val (v := .string (strOfNums row)) (w' := w1) rfl rfl rfl rfl rfl ?_
  refine rw_new (cs := #[.string (strOfNums row)]) (t := 9) (fun g => .slice (some ⟨g, 0, none⟩) 1 1) rfl rfl rfl rfl (by kernel_rfl) ?_
  intro g11 w12 hg16 hz15 hb13 hk14
  have hs_w12 := hb13.size
  have hk14r : OwnK kSL 9 w12 w.heap.size g11 (some ⟨g11, 0, none⟩) 1 1 ([row] : List (List Int)) := scal_own w.heap.size hk14 (by omega) rfl rfl (by simp)
  refine rw_call rfl rfl rfl rfl (f := 45) (args := #[.slice (some ⟨g11, 0, none⟩) 1 1]) (by simp [go_sem, sEv, sLook, nbeq, i64_w, -List.getD_eq_getElem?_getD]) (frames_calls w12 (some ⟨g11, 0, none⟩) 1 ([row] : List (List Int)) (OwnK.Cn (d := kSL) hk14r) (OwnK.cap (d := kSL) hk14r) (by intro p hp; rw [List.mem_singleton.1 hp]; exact hby) (by intro p hp; rw [List.mem_singleton.1 hp]; omega) (by simp)) ?_
  rintro e_ w17 ⟨rfl, hb18⟩
  refine ⟨_, rfl, ?_⟩
  have hs_w17 := hb18.size
  have hfx_ := fr_len ([row] : List (List Int))
  refine rw_val (v := .tuple #[.string (strOfNums (frX ([row] : List (List Int)))), .int .i64 (frN ([row] : List (List Int)))]) (w' := w17) rfl rfl rfl rfl rfl ?_
  refine rw_val (v := .string (strOfNums (frX ([row] : List (List Int))))) (w' := w17) rfl rfl rfl rfl (by simp [go_sem, sEv, sLook, nbeq, i64_w, -List.getD_eq_getElem?_getD]) ?_
  refine rw_val (v := .int .i64 (frN ([row] : List (List Int)))) (w' := w17) rfl rfl rfl rfl (by simp [go_sem, sEv, sLook, nbeq, i64_w, -List.getD_eq_getElem?_getD]) ?_
  refine rw_val (v := .string (strOfNums (frX ([row] : List (List Int))))) (w' := w17) rfl rfl rfl rfl rfl ?_
  refine rw_val (v := .int .i64 (frN ([row] : List (List Int)))) (w' := w17) rfl rfl rfl rfl rfl ?_
  refine rw_end ?_
  refine w_weaken (G' := [(0, .pointer (some ⟨md, 0, none⟩)), (1, .string (strOfNums row)), (4, .int .i64 0), (5, .string (strOfNums (frX ([row] : List (List Int))))), (6, .int .i64 (frN ([row] : List (List Int))))]) ⟨rfl, rfl, rfl, rfl, rfl, trivial⟩ ?_
  refine w_seq ?_
  refine w_seq ?_
  refine w_region ?_
  refine rw_val (v := .int .i64 (frN ([row] : List (List Int)))) (w' := w17) rfl rfl rfl rfl rfl ?_
  refine rw_val (v := .bool ((frN ([row] : List (List Int))) == 0)) (w' := w17) rfl rfl rfl rfl (by simp [go_sem, sEv, sLook, nbeq, i64_w, -List.getD_eq_getElem?_getD]) ?_
  refine rw_end ?_
  refine w_cond rfl rfl (fun cF => ?_) (fun cF => ?_)
  · have l19 : (frN ([row] : List (List Int))) = 0 := by simpa using cF
    refine w_region ?_
    refine rw_val (v := .pointer (some ⟨md, 0, none⟩)) (w' := w17) rfl rfl rfl rfl rfl ?_
    refine rw_val (v := .pointer (some ⟨md, 0, none⟩)) (w' := w17) rfl rfl rfl rfl (by simp [go_sem, sEv, sLook, nbeq, i64_w, -List.getD_eq_getElem?_getD]) ?_
    refine rw_val (v := .pointer (some ⟨md, 0, none⟩)) (w' := w17) rfl rfl rfl rfl (by simp [go_sem, sEv, sLook, nbeq, i64_w, -List.getD_eq_getElem?_getD, Try.underlying71]) ?_
    refine rw_val (v := .pointer (some ⟨u, 0, none⟩)) (w' := w17) rfl rfl rfl rfl (by have eb_ := ((hbm.on hb13).on hb18); have e0_ := eb_.cellv (i := 0) (v := (.pointer (some ⟨u, 0, none⟩) : Value)) rfl; simp [go_sem, sEv, sLook, nbeq, i64_w, -List.getD_eq_getElem?_getD, e0_]) ?_
    refine rw_val (v := .string (strOfNums (frX ([row] : List (List Int))))) (w' := w17) rfl rfl rfl rfl rfl ?_
    have h9_ho23 := hro.st
    refine rw_call rfl rfl rfl rfl (f := 46) (args := #[.pointer (some ⟨u, 0, none⟩), .string (strOfNums (frX ([row] : List (List Int))))]) (by simp [go_sem, sEv, sLook, nbeq, i64_w, -List.getD_eq_getElem?_getD]) (rappend w17 u r ⟨hro.st.1, by omega⟩ hro.l hro.u hro.len (frX ([row] : List (List Int))) (by omega) ((hbu.on hb13).on hb18)) ?_
    rintro e_ w20 ⟨rfl, hG21, hb22⟩
    refine ⟨_, rfl, ?_⟩
    have hs_w20 := hG21.size
    have ho23 := RS.app_ok2 hro (by omega) (frX ([row] : List (List Int)))
    refine rw_val (v := .int .i64 (r.appE (frX ([row] : List (List Int))))) (w' := w20) rfl rfl rfl rfl rfl ?_
    refine rw_end ?_
    refine w_weaken (G' := [(0, .pointer (some ⟨md, 0, none⟩)), (1, .string (strOfNums row)), (4, .int .i64 0), (6, .int .i64 (r.appE (frX ([row] : List (List Int)))))]) ⟨rfl, rfl, rfl, rfl, trivial⟩ ?_
    refine w_seq ?_
    refine w_seq ?_
    refine w_region ?_
    refine rw_val (v := .int .i64 (r.appE (frX ([row] : List (List Int))))) (w' := w20) rfl rfl rfl rfl rfl ?_
    refine rw_val (v := .bool ((r.appE (frX ([row] : List (List Int)))) == 7)) (w' := w20) rfl rfl rfl rfl (by simp [go_sem, sEv, sLook, nbeq, i64_w, -List.getD_eq_getElem?_getD]) ?_
    refine rw_end ?_
    refine w_cond rfl rfl (fun cG => ?_) (fun cG => ?_)
    · have l24 : (r.appE (frX ([row] : List (List Int)))) = 7 := by simpa using cG
      refine w_seq ?_
      refine w_region ?_
      refine rw_val (v := .int .i64 (r.appE (frX ([row] : List (List Int))))) (w' := w20) rfl rfl rfl rfl rfl ?_
      refine rw_val (v := .int .i64 (r.appE (frX ([row] : List (List Int))))) (w' := w20) rfl rfl rfl rfl rfl ?_
      refine rw_end ?_
      refine w_ret (post_ret1 rfl rfl ?_)
      have hl_ : ¬ 16376 < row.length := of_decide_eq_false ((rwFull_one row).symm.trans (fr_zero cF))
      have ef_ : frX [row] = frameB row := (fr_fit (fr_zero cF)).1.trans (FC_one row)
      have e0_ : ¬ (r.appE (frameB row) == 0) = true := by rw [← ef_, eq_of_beq cG]; decide
      have e1_ : r.addE row = r.appE (frX [row]) := by rw [RS.addE, if_neg hl_, if_neg e0_, ef_]
      have e2_ : r.addS row = r.app (frX [row]) := by rw [RS.addS, if_neg hl_, ef_, if_pos (by rw [← ef_]; exact cG)]
      have e3_ : (r.appE (frX [row]) == 0) = false := by rw [eq_of_beq cG]; rfl
      rw [e1_, e2_, if_neg (by rw [e3_]; simp)]
      exact ⟨rfl, (Grow.keptS (kept_trans (kept_trans (kept_refl w1 (fun q => q = u ∨ q = md)) (below_kept hb13)) (below_kept hb18)) hG21 (.inl (.inl rfl))), qt_of hB0 (hG21.below (by omega) (chain (chain hB0 hb13) hb18)), hb22, hu0, hmd0, _, _, (Blk.grow ((hbm.on hb13).on hb18) hG21 (by omega)), (Kd.R_step (Kd.R_below (Kd.R_below hrs hb13) hb18) (fun q hq_ hlt_ => hG21.block q hlt_ (hoku q hq_).1))⟩
    · have l25 : ¬ (r.appE (frX ([row] : List (List Int)))) = 7 := by simpa using cG
      refine w_skip ?_
      refine w_seq ?_
      refine w_seq ?_
      refine w_region ?_
      refine rw_val (v := .int .i64 (r.appE (frX ([row] : List (List Int))))) (w' := w20) rfl rfl rfl rfl rfl ?_
      refine rw_val (v := .bool ((r.appE (frX ([row] : List (List Int)))) == 0)) (w' := w20) rfl rfl rfl rfl (by simp [go_sem, sEv, sLook, nbeq, i64_w, -List.getD_eq_getElem?_getD]) ?_
      refine rw_end ?_
      refine w_cond rfl rfl (fun cA => ?_) (fun cA => ?_)
      · have l26 : (r.appE (frX ([row] : List (List Int)))) = 0 := by simpa using cA
        refine w_region ?_
        refine rw_val (v := .pointer (some ⟨md, 0, none⟩)) (w' := w20) rfl rfl rfl rfl rfl ?_
        refine rw_val (v := .pointer (some ⟨md, 0, none⟩)) (w' := w20) rfl rfl rfl rfl (by simp [go_sem, sEv, sLook, nbeq, i64_w, -List.getD_eq_getElem?_getD]) ?_
        refine rw_val (v := .pointer (some ⟨md, 0, none⟩)) (w' := w20) rfl rfl rfl rfl (by simp [go_sem, sEv, sLook, nbeq, i64_w, -List.getD_eq_getElem?_getD, Try.underlying71]) ?_
        refine rw_val (v := .pointer (some ⟨u, 0, none⟩)) (w' := w20) rfl rfl rfl rfl (by have eb_ := (Blk.grow ((hbm.on hb13).on hb18) hG21 (by omega)); have e0_ := eb_.cellv (i := 0) (v := (.pointer (some ⟨u, 0, none⟩) : Value)) rfl; simp [go_sem, sEv, sLook, nbeq, i64_w, -List.getD_eq_getElem?_getD, e0_]) ?_
        have h9_ho30 := ho23.1.st
        refine rw_call rfl rfl rfl rfl (f := 47) (args := #[.pointer (some ⟨u, 0, none⟩)]) (by simp [go_sem, sEv, sLook, nbeq, i64_w, -List.getD_eq_getElem?_getD]) (rsync w20 u (r.app (frX ([row] : List (List Int)))) ⟨ho23.1.st.1, by omega⟩ ho23.1.l ho23.1.u ho23.1.len hb22) ?_
        rintro e_ w27 ⟨rfl, hG28, hb29⟩
        refine ⟨_, rfl, ?_⟩
        have hs_w27 := hG28.size
        have ho30 := RS.sync_ok2 ho23.1 (by omega)
        refine rw_val (v := .int .i64 ((r.app (frX ([row] : List (List Int)))).err)) (w' := w27) rfl rfl rfl rfl rfl ?_
        refine rw_end ?_
        refine w_weaken (G' := [(0, .pointer (some ⟨md, 0, none⟩)), (1, .string (strOfNums row)), (4, .int .i64 0), (6, .int .i64 ((r.app (frX ([row] : List (List Int)))).err))]) ⟨rfl, rfl, rfl, rfl, trivial⟩ ?_
        refine w_seq ?_
        refine w_seq ?_
        refine w_region ?_
        refine rw_val (v := .int .i64 ((r.app (frX ([row] : List (List Int)))).err)) (w' := w27) rfl rfl rfl rfl rfl ?_
        refine rw_val (v := .bool (((r.app (frX ([row] : List (List Int)))).err) != 0)) (w' := w27) rfl rfl rfl rfl (by simp [go_sem, sEv, sLook, nbeq, i64_w, -List.getD_eq_getElem?_getD]) ?_
        refine rw_end ?_
        refine w_cond rfl rfl (fun cS => ?_) (fun cS => ?_)
        · have l31 : ¬ ((r.app (frX ([row] : List (List Int)))).err) = 0 := by simpa using cS
          refine w_seq ?_
          refine w_region ?_
          refine rw_val (v := .pointer (some ⟨md, 0, none⟩)) (w' := w27) rfl rfl rfl rfl rfl ?_
          refine rw_val (v := .pointer (some ⟨md, 0, none⟩)) (w' := w27) rfl rfl rfl rfl (by simp [go_sem, sEv, sLook, nbeq, i64_w, -List.getD_eq_getElem?_getD]) ?_
          refine rw_val (v := .pointer (some ⟨md, 0, none⟩)) (w' := w27) rfl rfl rfl rfl (by simp [go_sem, sEv, sLook, nbeq, i64_w, -List.getD_eq_getElem?_getD, Try.underlying71]) ?_
          refine rw_val (v := .pointer (some ⟨u, 0, none⟩)) (w' := w27) rfl rfl rfl rfl (by have eb_ := (Blk.grow (Blk.grow ((hbm.on hb13).on hb18) hG21 (by omega)) hG28 (by omega)); have e0_ := eb_.cellv (i := 0) (v := (.pointer (some ⟨u, 0, none⟩) : Value)) rfl; simp [go_sem, sEv, sLook, nbeq, i64_w, -List.getD_eq_getElem?_getD, e0_]) ?_
          have h9_ho35 := ho30.1.st
          refine rw_call rfl rfl rfl rfl (f := 48) (args := #[.pointer (some ⟨u, 0, none⟩)]) (by simp [go_sem, sEv, sLook, nbeq, i64_w, -List.getD_eq_getElem?_getD]) (rcut w27 u (r.app (frX ([row] : List (List Int)))).sync ⟨ho30.1.st.1, by omega⟩ ho30.1.l ho30.1.u ho30.1.len hb29) ?_
          rintro e_ w32 ⟨rfl, hG33, hb34⟩
          refine ⟨.tuple #[], rfl, ?_⟩
          have hs_w32 := hG33.size
          refine rw_end ?_
          refine w_weaken (G' := [(0, .pointer (some ⟨md, 0, none⟩)), (1, .string (strOfNums row)), (4, .int .i64 0), (6, .int .i64 ((r.app (frX ([row] : List (List Int)))).err))]) ⟨rfl, rfl, rfl, rfl, trivial⟩ ?_
          refine w_seq ?_
          refine w_region ?_
          refine rw_val (v := .int .i64 ((r.app (frX ([row] : List (List Int)))).err)) (w' := w32) rfl rfl rfl rfl rfl ?_
          refine rw_val (v := .int .i64 ((r.app (frX ([row] : List (List Int)))).err)) (w' := w32) rfl rfl rfl rfl rfl ?_
          refine rw_end ?_
          refine w_ret (post_ret1 rfl rfl ?_)
          have hl_ : ¬ 16376 < row.length := of_decide_eq_false ((rwFull_one row).symm.trans (fr_zero cF))
          have ef_ : frX [row] = frameB row := (fr_fit (fr_zero cF)).1.trans (FC_one row)
          have n7_ : ¬ (r.appE (frameB row) == 7) = true := by rw [← ef_, cG]; decide
          have e1_ : r.addE row = (r.app (frX [row])).err := by rw [RS.addE, if_neg hl_, ef_, if_pos (by rw [← ef_]; exact cA)]
          have s0_ : ¬ ((r.app (frameB row)).err == 0) = true := by rw [← ef_]; simpa using cS
          have e2_ : r.addS row = (r.app (frX [row])).sync.cut := by rw [RS.addS, if_neg hl_, if_neg n7_, ef_, if_pos (by rw [← ef_]; exact cA), if_neg s0_]
          have e3_ : ((r.app (frX [row])).err == 0) = false := by simpa using cS
          rw [e1_, e2_, if_neg (by rw [e3_]; simp)]
          exact ⟨rfl, (Grow.keptS (Grow.keptS (Grow.keptS (kept_trans (kept_trans (kept_refl w1 (fun q => q = u ∨ q = md)) (below_kept hb13)) (below_kept hb18)) hG21 (.inl (.inl rfl))) hG28 (.inl (.inl rfl))) hG33 (.inl (.inl rfl))), qt_of hB0 (hG33.below (by omega) (hG28.below (by omega) (hG21.below (by omega) (chain (chain hB0 hb13) hb18)))), hb34, hu0, hmd0, _, _, (Blk.grow (Blk.grow (Blk.grow ((hbm.on hb13).on hb18) hG21 (by omega)) hG28 (by omega)) hG33 (by omega)), (Kd.R_step (Kd.R_step (Kd.R_step (Kd.R_below (Kd.R_below hrs hb13) hb18) (fun q hq_ hlt_ => hG21.block q hlt_ (hoku q hq_).1)) (fun q hq_ hlt_ => hG28.block q hlt_ (hoku q hq_).1)) (fun q hq_ hlt_ => hG33.block q hlt_ (hoku q hq_).1))⟩
        · have l36 : ((r.app (frX ([row] : List (List Int)))).err) = 0 := by simpa using cS
          refine w_skip ?_
          refine w_seq ?_
          refine w_region ?_
          refine rw_val (v := .pointer (some ⟨md, 0, none⟩)) (w' := w27) rfl rfl rfl rfl rfl ?_
          refine rw_new (cs := #[]) (t := 9) (fun g => .slice (some ⟨g, 0, none⟩) 0 0) rfl rfl rfl rfl (by kernel_rfl) ?_
          intro g37 w38 hg42 hz41 hb39 hk40
          have hs_w38 := hb39.size
          have hk40r : OwnK kSL 9 w38 w.heap.size g37 (some ⟨g37, 0, none⟩) 0 0 ([] : List (List Int)) := lit_nilK _ w.heap.size hk40 (by omega)
          refine rw_val (v := .pointer (some ⟨md, 0, none⟩)) (w' := w38) rfl rfl rfl rfl rfl ?_
          refine rw_val (v := .pointer (some ⟨md, 0, none⟩)) (w' := w38) rfl rfl rfl rfl (by simp [go_sem, sEv, sLook, nbeq, i64_w, -List.getD_eq_getElem?_getD]) ?_
          refine rw_val (v := .pointer (some ⟨md, 1, none⟩)) (w' := w38) rfl rfl rfl rfl (by simp [go_sem, sEv, sLook, nbeq, i64_w, -List.getD_eq_getElem?_getD, Try.underlying71]) ?_
          have hrn43 := (Kd.R_below (Kd.R_step (Kd.R_step (Kd.R_below (Kd.R_below hrs hb13) hb18) (fun q hq_ hlt_ => hG21.block q hlt_ (hoku q hq_).1)) (fun q hq_ hlt_ => hG28.block q hlt_ (hoku q hq_).1)) hb39)
          refine rw_val (v := .slice A1 rs.length c1) (w' := w38) rfl rfl rfl rfl (by have eb_ := ((Blk.grow (Blk.grow ((hbm.on hb13).on hb18) hG21 (by omega)) hG28 (by omega)).on hb39); have e0_ := eb_.cellv (i := 1) (v := (.slice A1 rs.length c1 : Value)) rfl; simp [go_sem, sEv, sLook, nbeq, i64_w, -List.getD_eq_getElem?_getD, e0_, Try.underlying35]) ?_
          have oA50 : OwnK kSL 9 w38 w.heap.size g37 (some ⟨g37, 0, none⟩) 0 0 ([] : List (List Int)) := hk40r
          refine rw_append_kd (d := kSL) w.heap.size rfl rfl rfl (.tmp 40) (.tmp 44) rfl rfl 35 9 (.string ByteArray.empty) 16 rfl (by kernel_rfl) (by kernel_rfl) rfl (show 0 < 1 by decide) (by decide) (fun _ _ h => h) (b := g37) rfl rfl (by omega) oA50 (Kd.C_below (Kd.R_reads' hrn43).2.2 (Below.refl _ _)) (chain (hG28.below (by omega) (hG21.below (by omega) (chain (chain hB0 hb13) hb18))) hb39) (by omega) (by first | omega | (simp only [List.length_append, List.length_nil, List.length_cons]; omega)) ?_
          intro A44 c45 w46 hO47 hB48 hG49
          rw [List.nil_append] at hO47
          try rw [List.nil_append]
          have hs_w46 := hB48.size
          have hgs_w46 := hG49.size
          have hk51 := OwnK.blk_grown (hb29.on hb39) oA50 (.inr (by decide)) hG49
          have hk52 := OwnK.blk_grown ((Blk.grow (Blk.grow ((hbm.on hb13).on hb18) hG21 (by omega)) hG28 (by omega)).on hb39) oA50 (.inr (by decide)) hG49
          refine rw_val (v := .string (strOfNums row)) (w' := w46) rfl rfl rfl rfl rfl ?_
          refine rw_new (cs := #[.string (strOfNums row)]) (t := 9) (fun g => .slice (some ⟨g, 0, none⟩) 1 1) rfl rfl rfl rfl (by kernel_rfl) ?_
          intro g53 w54 hg58 hz57 hb55 hk56
          have hs_w54 := hb55.size
          have hk56r : OwnK kSL 9 w54 w.heap.size g53 (some ⟨g53, 0, none⟩) 1 1 ([row] : List (List Int)) := scal_own w.heap.size hk56 (by omega) rfl rfl (by simp)
          have oA65 : OwnK kSL 9 w54 w.heap.size g37 A44 rs.length c45 rs := (OwnK.on (d := kSL) hO47 hb55)
          refine rw_append_kd (d := kSL) w.heap.size rfl rfl rfl (.tmp 45) (.tmp 47) rfl rfl 35 9 (.string ByteArray.empty) 16 rfl (by kernel_rfl) (by kernel_rfl) rfl (show 0 < 1 by decide) (by decide) (fun _ _ h => h) (b := g37) rfl rfl (by omega) oA65 (OwnK.Cn (d := kSL) hk56r) (chain hB48 hb55) (by omega) (by first | omega | (simp only [List.length_append, List.length_nil, List.length_cons]; omega)) ?_
          intro A59 c60 w61 hO62 hB63 hG64
          have hs_w61 := hB63.size
          have hgs_w61 := hG64.size
          have hk67 := OwnK.blk_grown (hk51.on hb55) oA65 (.inr (by decide)) hG64
          have hk68 := OwnK.blk_grown (hk52.on hb55) oA65 (.inr (by decide)) hG64
          refine rw_val (v := .pointer (some ⟨md, 0, none⟩)) (w' := w61) rfl rfl rfl rfl (by simp [go_sem, sEv, sLook, nbeq, i64_w, -List.getD_eq_getElem?_getD]) ?_
          refine rw_val (v := .pointer (some ⟨md, 1, none⟩)) (w' := w61) rfl rfl rfl rfl (by simp [go_sem, sEv, sLook, nbeq, i64_w, -List.getD_eq_getElem?_getD, Try.underlying71]) ?_
          have hb72 := hk68
          refine rw_store (g := md) (i := 1) (l := [.slice A59 ((rs ++ ([row] : List (List Int))).length) c60]) (cs' := #[.pointer (some ⟨u, 0, none⟩), .slice A59 ((rs ++ ([row] : List (List Int))).length) c60]) rfl rfl rfl hb72 rfl (by have e0_ := hb72.cellv (i := 1) (v := (.slice A1 rs.length c1 : Value)) rfl; have f0_ := hb72.frozen 1; simp [go_sem, sEv, sLook, nbeq, i64_w, -List.getD_eq_getElem?_getD, putCells, e0_, f0_, Try.underlying35]) ?_
          intro w69 hk70 hk71
          have hs_w69 := hk70.size
          refine rw_end ?_
          refine w_weaken (G' := [(4, .int .i64 0)]) ⟨rfl, trivial⟩ ?_
          refine w_seq ?_
          refine w_region ?_
          refine rw_val (v := .int .i64 0) (w' := w69) rfl rfl rfl rfl rfl ?_
          refine rw_end ?_
          refine w_ret (post_ret1 rfl rfl ?_)
          have hl_ : ¬ 16376 < row.length := of_decide_eq_false ((rwFull_one row).symm.trans (fr_zero cF))
          have ef_ : frX [row] = frameB row := (fr_fit (fr_zero cF)).1.trans (FC_one row)
          have n7_ : ¬ (r.appE (frameB row) == 7) = true := by rw [← ef_, cG]; decide
          have e1_ : r.addE row = (r.app (frX [row])).err := by rw [RS.addE, if_neg hl_, ef_, if_pos (by rw [← ef_]; exact cA)]
          have s0_ : ((r.app (frameB row)).err == 0) = true := by rw [← ef_]; simpa using cS
          have e2_ : r.addS row = (r.app (frX [row])).sync := by rw [RS.addS, if_neg hl_, if_neg n7_, ef_, if_pos (by rw [← ef_]; exact cA), if_pos s0_]
          have e3_ : ((r.app (frX [row])).err == 0) = true := by rw [ef_]; exact s0_
          rw [e1_, e2_, if_pos e3_]
          have e4_ : (r.app (frX [row])).err = 0 := eq_of_beq e3_
          rw [e4_]
          exact ⟨rfl, (Grow.keptS (Kept.grownO (d := kSL) (kept_trans (Kept.grownO (d := kSL) (kept_trans (Grow.keptS (Grow.keptS (kept_trans (kept_trans (kept_refl w1 (fun q => q = u ∨ q = md)) (below_kept hb13)) (below_kept hb18)) hG21 (.inl (.inl rfl))) hG28 (.inl (.inl rfl))) (below_kept hb39)) hG49 oA50 (by omega)) (below_kept hb55)) hG64 oA65 (by omega)) (Grow.ofK hk70) (.inl (.inr rfl))), qt_of hB0 (hk70.below (by omega) hB63), (hk67.keep hk70 (by omega)), hu0, hmd0, _, _, hk71, (Kd.R_mono (OwnK.step (d := kSL) hO62 (fun q hq_ hlt_ => hk70.block q (by omega))) (fun q hq_ => hfr q (by omega)))⟩
      · have l73 : ¬ (r.appE (frX ([row] : List (List Int)))) = 0 := by simpa using cA
        refine w_skip ?_
        refine w_seq ?_
        refine w_seq ?_
        refine w_region ?_
        refine rw_val (v := .int .i64 (r.appE (frX ([row] : List (List Int))))) (w' := w20) rfl rfl rfl rfl rfl ?_
        refine rw_val (v := .bool ((r.appE (frX ([row] : List (List Int)))) != 0)) (w' := w20) rfl rfl rfl rfl (by simp [go_sem, sEv, sLook, nbeq, i64_w, -List.getD_eq_getElem?_getD]) ?_
        refine rw_end ?_
        have hq74 : ((r.appE (frX ([row] : List (List Int)))) != 0) = true := by simpa using cA
        refine w_cond_t rfl rfl hq74 ?_
        refine w_seq ?_
        refine w_region ?_
        refine rw_val (v := .pointer (some ⟨md, 0, none⟩)) (w' := w20) rfl rfl rfl rfl rfl ?_
        refine rw_val (v := .pointer (some ⟨md, 0, none⟩)) (w' := w20) rfl rfl rfl rfl (by simp [go_sem, sEv, sLook, nbeq, i64_w, -List.getD_eq_getElem?_getD]) ?_
        refine rw_val (v := .pointer (some ⟨md, 0, none⟩)) (w' := w20) rfl rfl rfl rfl (by simp [go_sem, sEv, sLook, nbeq, i64_w, -List.getD_eq_getElem?_getD, Try.underlying71]) ?_
        refine rw_val (v := .pointer (some ⟨u, 0, none⟩)) (w' := w20) rfl rfl rfl rfl (by have eb_ := (Blk.grow ((hbm.on hb13).on hb18) hG21 (by omega)); have e0_ := eb_.cellv (i := 0) (v := (.pointer (some ⟨u, 0, none⟩) : Value)) rfl; simp [go_sem, sEv, sLook, nbeq, i64_w, -List.getD_eq_getElem?_getD, e0_]) ?_
        have h9_ho78 := ho23.1.st
        refine rw_call rfl rfl rfl rfl (f := 48) (args := #[.pointer (some ⟨u, 0, none⟩)]) (by simp [go_sem, sEv, sLook, nbeq, i64_w, -List.getD_eq_getElem?_getD]) (rcut w20 u (r.app (frX ([row] : List (List Int)))) ⟨ho23.1.st.1, by omega⟩ ho23.1.l ho23.1.u ho23.1.len hb22) ?_
        rintro e_ w75 ⟨rfl, hG76, hb77⟩
        refine ⟨.tuple #[], rfl, ?_⟩
        have hs_w75 := hG76.size
        refine rw_end ?_
        refine w_weaken (G' := [(0, .pointer (some ⟨md, 0, none⟩)), (1, .string (strOfNums row)), (4, .int .i64 0), (6, .int .i64 (r.appE (frX ([row] : List (List Int)))))]) ⟨rfl, rfl, rfl, rfl, trivial⟩ ?_
        refine w_seq ?_
        refine w_region ?_
        refine rw_val (v := .int .i64 (r.appE (frX ([row] : List (List Int))))) (w' := w75) rfl rfl rfl rfl rfl ?_
        refine rw_val (v := .int .i64 (r.appE (frX ([row] : List (List Int))))) (w' := w75) rfl rfl rfl rfl rfl ?_
        refine rw_end ?_
        refine w_ret (post_ret1 rfl rfl ?_)
        have hl_ : ¬ 16376 < row.length := of_decide_eq_false ((rwFull_one row).symm.trans (fr_zero cF))
        have ef_ : frX [row] = frameB row := (fr_fit (fr_zero cF)).1.trans (FC_one row)
        have n7_ : ¬ (r.appE (frameB row) == 7) = true := by rw [← ef_, cG]; decide
        have n0_ : ¬ (r.appE (frameB row) == 0) = true := by rw [← ef_, cA]; decide
        have e1_ : r.addE row = r.appE (frX [row]) := by rw [RS.addE, if_neg hl_, if_neg n0_, ef_]
        have e2_ : r.addS row = (r.app (frX [row])).cut := by rw [RS.addS, if_neg hl_, if_neg n7_, if_neg n0_, ef_]
        have e3_ : (r.appE (frX [row]) == 0) = false := cA
        rw [e1_, e2_, if_neg (by rw [e3_]; simp)]
        exact ⟨rfl, (Grow.keptS (Grow.keptS (kept_trans (kept_trans (kept_refl w1 (fun q => q = u ∨ q = md)) (below_kept hb13)) (below_kept hb18)) hG21 (.inl (.inl rfl))) hG76 (.inl (.inl rfl))), qt_of hB0 (hG76.below (by omega) (hG21.below (by omega) (chain (chain hB0 hb13) hb18))), hb77, hu0, hmd0, _, _, (Blk.grow (Blk.grow ((hbm.on hb13).on hb18) hG21 (by omega)) hG76 (by omega)), (Kd.R_step (Kd.R_step (Kd.R_below (Kd.R_below hrs hb13) hb18) (fun q hq_ hlt_ => hG21.block q hlt_ (hoku q hq_).1)) (fun q hq_ hlt_ => hG76.block q hlt_ (hoku q hq_).1))⟩
  · have l79 : ¬ (frN ([row] : List (List Int))) = 0 := by simpa using cF
    refine w_skip ?_
    refine w_seq ?_
    refine w_seq ?_
    refine w_region ?_
    refine rw_val (v := .int .i64 (frN ([row] : List (List Int)))) (w' := w17) rfl rfl rfl rfl rfl ?_
    refine rw_val (v := .bool ((frN ([row] : List (List Int))) == 7)) (w' := w17) rfl rfl rfl rfl (by simp [go_sem, sEv, sLook, nbeq, i64_w, -List.getD_eq_getElem?_getD]) ?_
    refine rw_end ?_
    have hq80 : ((frN ([row] : List (List Int))) == 7) = true := by rw [(fr_full (fr_some cF)).2]; rfl
    refine w_cond_t rfl rfl hq80 ?_
    refine w_seq ?_
    refine w_region ?_
    refine rw_val (v := .int .i64 (frN ([row] : List (List Int)))) (w' := w17) rfl rfl rfl rfl rfl ?_
    refine rw_val (v := .int .i64 (frN ([row] : List (List Int)))) (w' := w17) rfl rfl rfl rfl rfl ?_
    refine rw_end ?_
    refine w_ret (post_ret1 rfl rfl ?_)
    have hl_ : 16376 < row.length := of_decide_eq_true ((rwFull_one row).symm.trans (fr_some cF))
    have e1_ : r.addE row = frN [row] := by rw [RS.addE, if_pos hl_, (fr_full (fr_some cF)).2]
    have e2_ : r.addS row = r := by rw [RS.addS, if_pos hl_]
    have e3_ : (frN [row] == 0) = false := cF
    rw [e1_, e2_, if_neg (by rw [e3_]; simp)]
    exact ⟨rfl, (kept_trans (kept_trans (kept_refl w1 (fun q => q = u ∨ q = md)) (below_kept hb13)) (below_kept hb18)), qt_of hB0 (chain (chain hB0 hb13) hb18), ((hbu.on hb13).on hb18), hu0, hmd0, _, _, ((hbm.on hb13).on hb18), (Kd.R_below (Kd.R_below hrs hb13) hb18)⟩
set_option maxHeartbeats 4000000 in
theorem rrw_calls (w1 w : World) (hB0 : Below w.heap.size w w1) (u md : Nat) (ok : Nat → Prop) (hfr : ∀ q, w1.heap.size ≤ q → ok q) (hoku : ∀ q, ok q → q ≠ u ∧ q ≠ md) (r : RS) (rs : List (List Int)) (hR : RDAt w w1 ok u md r rs) (hro : r.Ok) (h9 : r.st ≤ 999999999999990) (A2 : Option Addr) (c2 : Nat) (ss : List (List Int)) (hss : kSL.C w1 A2 ss.length ss) (hssk : ∀ W_, Kept w1 W_ (fun q => q = u ∨ q = md) → kSL.C W_ A2 ss.length ss) (hcs : ss.length ≤ c2) (hby : ∀ p ∈ ss, Bytes p) (hall : ∀ p ∈ ss, p.length ≤ 140737488355328) (hn : ss.length ≤ 6000000000000) :
    Calls Try.prog 29 #[.pointer (some ⟨md, 0, none⟩), .slice A2 ss.length c2] w1 fun e w' => e = .returned (.int .i64 (r.rwE ss)) ∧ Kept w1 w' (fun q => q = u ∨ q = md) ∧ QT w1 w' ∧ RDAt w w' ok u md (r.rwS ss) (if r.rwE ss == 0 then ss else rs) := by
  obtain ⟨hbu, hu0, hmd0, A1, c1, hbm, hrs⟩ := hR
  have hmu : md ≠ u := blk_ne hbm hbu (by decide)
  have hlu := hbu.lt
  have hlm := hbm.lt
  have hs_w1 := hB0.size
  have hro1 := hro.st
  have hfew : rwFull ss = false → ss.length ≤ 1048576 := fun h => by have h1_ := rwFull_all h; have h2_ := rows_le ss h1_.1; omega
  refine calls_flow Try.func29 rfl 29 rfl (Nat.le_of_ble_eq_true rfl) [(0, .pointer (some ⟨md, 0, none⟩)), (1, .slice A2 ss.length c2)] ?_ ?_
  · intro t v h; exact args_look rfl t v h
  refine w_seq ?_
  refine w_region ?_
  refine rw_val (v := .int .i64 0) (w' := w1) rfl rfl rfl rfl rfl ?_
  refine rw_end ?_
  refine w_seq ?_
  refine w_region ?_
  refine rw_val (v := .slice A2 ss.length c2) (w' := w1) rfl rfl rfl rfl rfl ?_
  refine rw_call rfl rfl rfl rfl (f := 45) (args := #[.slice A2 ss.length c2]) (by simp [go_sem, sEv, sLook, nbeq, i64_w, -List.getD_eq_getElem?_getD]) (frames_calls w1 A2 c2 ss (Kd.C_below hss (Below.refl _ _)) hcs hby hall hn) ?_
  rintro e_ w11 ⟨rfl, hb12⟩
  refine ⟨_, rfl, ?_⟩
  have hs_w11 := hb12.size
  have hfx_ := fr_len ss
  refine rw_val (v := .tuple #[.string (strOfNums (frX ss)), .int .i64 (frN ss)]) (w' := w11) rfl rfl rfl rfl rfl ?_
  refine rw_val (v := .string (strOfNums (frX ss))) (w' := w11) rfl rfl rfl rfl (by simp [go_sem, sEv, sLook, nbeq, i64_w, -List.getD_eq_getElem?_getD]) ?_
  refine rw_val (v := .int .i64 (frN ss)) (w' := w11) rfl rfl rfl rfl (by simp [go_sem, sEv, sLook, nbeq, i64_w, -List.getD_eq_getElem?_getD]) ?_
  refine rw_val (v := .string (strOfNums (frX ss))) (w' := w11) rfl rfl rfl rfl rfl ?_
  refine rw_val (v := .int .i64 (frN ss)) (w' := w11) rfl rfl rfl rfl rfl ?_
  refine rw_end ?_
  refine w_weaken (G' := [(0, .pointer (some ⟨md, 0, none⟩)), (1, .slice A2 ss.length c2), (4, .int .i64 0), (5, .string (strOfNums (frX ss))), (6, .int .i64 (frN ss))]) ⟨rfl, rfl, rfl, rfl, rfl, trivial⟩ ?_
  refine w_seq ?_
  refine w_seq ?_
  refine w_region ?_
  refine rw_val (v := .int .i64 (frN ss)) (w' := w11) rfl rfl rfl rfl rfl ?_
  refine rw_val (v := .bool ((frN ss) == 0)) (w' := w11) rfl rfl rfl rfl (by simp [go_sem, sEv, sLook, nbeq, i64_w, -List.getD_eq_getElem?_getD]) ?_
  refine rw_end ?_
  refine w_cond rfl rfl (fun cF => ?_) (fun cF => ?_)
  · have l13 : (frN ss) = 0 := by simpa using cF
    refine w_region ?_
    refine rw_val (v := .pointer (some ⟨md, 0, none⟩)) (w' := w11) rfl rfl rfl rfl rfl ?_
    refine rw_val (v := .pointer (some ⟨md, 0, none⟩)) (w' := w11) rfl rfl rfl rfl (by simp [go_sem, sEv, sLook, nbeq, i64_w, -List.getD_eq_getElem?_getD]) ?_
    refine rw_val (v := .pointer (some ⟨md, 0, none⟩)) (w' := w11) rfl rfl rfl rfl (by simp [go_sem, sEv, sLook, nbeq, i64_w, -List.getD_eq_getElem?_getD, Try.underlying71]) ?_
    refine rw_val (v := .pointer (some ⟨u, 0, none⟩)) (w' := w11) rfl rfl rfl rfl (by have eb_ := (hbm.on hb12); have e0_ := eb_.cellv (i := 0) (v := (.pointer (some ⟨u, 0, none⟩) : Value)) rfl; simp [go_sem, sEv, sLook, nbeq, i64_w, -List.getD_eq_getElem?_getD, e0_]) ?_
    refine rw_val (v := .string (strOfNums (frX ss))) (w' := w11) rfl rfl rfl rfl rfl ?_
    have h9_ho17 := hro.st
    refine rw_call rfl rfl rfl rfl (f := 44) (args := #[.pointer (some ⟨u, 0, none⟩), .string (strOfNums (frX ss))]) (by simp [go_sem, sEv, sLook, nbeq, i64_w, -List.getD_eq_getElem?_getD]) (rreplace w11 u r ⟨hro.st.1, by omega⟩ hro.l hro.u hro.len (frX ss) (by omega) (hbu.on hb12)) ?_
    rintro e_ w14 ⟨rfl, hG15, hb16⟩
    refine ⟨_, rfl, ?_⟩
    have hs_w14 := hG15.size
    have ho17 := RS.rep_ok2 hro (by omega) (frX ss)
    refine rw_val (v := .int .i64 (r.repE (frX ss))) (w' := w14) rfl rfl rfl rfl rfl ?_
    refine rw_end ?_
    refine w_weaken (G' := [(0, .pointer (some ⟨md, 0, none⟩)), (1, .slice A2 ss.length c2), (4, .int .i64 0), (6, .int .i64 (r.repE (frX ss)))]) ⟨rfl, rfl, rfl, rfl, trivial⟩ ?_
    refine w_seq ?_
    refine w_seq ?_
    refine w_region ?_
    refine rw_val (v := .int .i64 (r.repE (frX ss))) (w' := w14) rfl rfl rfl rfl rfl ?_
    refine rw_val (v := .bool ((r.repE (frX ss)) == 0)) (w' := w14) rfl rfl rfl rfl (by simp [go_sem, sEv, sLook, nbeq, i64_w, -List.getD_eq_getElem?_getD]) ?_
    refine rw_end ?_
    refine w_cond rfl rfl (fun cA => ?_) (fun cA => ?_)
    · have l18 : (r.repE (frX ss)) = 0 := by simpa using cA
      refine w_region ?_
      refine rw_val (v := .pointer (some ⟨md, 0, none⟩)) (w' := w14) rfl rfl rfl rfl rfl ?_
      refine rw_new (cs := #[]) (t := 9) (fun g => .slice (some ⟨g, 0, none⟩) 0 0) rfl rfl rfl rfl (by kernel_rfl) ?_
      intro g19 w20 hg24 hz23 hb21 hk22
      have hs_w20 := hb21.size
      have hk22r : OwnK kSL 9 w20 w.heap.size g19 (some ⟨g19, 0, none⟩) 0 0 ([] : List (List Int)) := lit_nilK _ w.heap.size hk22 (by omega)
      have hss25 := hssk w20 (kept_trans (Grow.keptS (kept_trans (kept_refl w1 (fun q => q = u ∨ q = md)) (below_kept hb12)) hG15 (.inl (.inl rfl))) (below_kept hb21))
      refine rw_val (v := .slice A2 ss.length c2) (w' := w20) rfl rfl rfl rfl rfl ?_
      have oA32 : OwnK kSL 9 w20 w.heap.size g19 (some ⟨g19, 0, none⟩) 0 0 ([] : List (List Int)) := hk22r
      refine rw_append_kd (d := kSL) w.heap.size rfl rfl rfl (.tmp 23) (.tmp 24) rfl rfl 35 9 (.string ByteArray.empty) 16 rfl (by kernel_rfl) (by kernel_rfl) rfl (show 0 < 1 by decide) (by decide) (fun _ _ h => h) (b := g19) rfl rfl (by omega) oA32 (Kd.C_below hss25 (Below.refl _ _)) (chain (hG15.below (by omega) (chain hB0 hb12)) hb21) (by omega) (by have h_ := hfew (fr_zero cF); simp only [List.length_nil]; omega) ?_
      intro A26 c27 w28 hO29 hB30 hG31
      rw [List.nil_append] at hO29
      try rw [List.nil_append]
      have hs_w28 := hB30.size
      have hgs_w28 := hG31.size
      have hk33 := OwnK.blk_grown (hb16.on hb21) oA32 (.inr (by decide)) hG31
      have hk34 := OwnK.blk_grown ((Blk.grow (hbm.on hb12) hG15 (by omega)).on hb21) oA32 (.inr (by decide)) hG31
      refine rw_val (v := .pointer (some ⟨md, 0, none⟩)) (w' := w28) rfl rfl rfl rfl (by simp [go_sem, sEv, sLook, nbeq, i64_w, -List.getD_eq_getElem?_getD]) ?_
      refine rw_val (v := .pointer (some ⟨md, 1, none⟩)) (w' := w28) rfl rfl rfl rfl (by simp [go_sem, sEv, sLook, nbeq, i64_w, -List.getD_eq_getElem?_getD, Try.underlying71]) ?_
      have hb38 := hk34
      refine rw_store (g := md) (i := 1) (l := [.slice A26 ss.length c27]) (cs' := #[.pointer (some ⟨u, 0, none⟩), .slice A26 ss.length c27]) rfl rfl rfl hb38 rfl (by have e0_ := hb38.cellv (i := 1) (v := (.slice A1 rs.length c1 : Value)) rfl; have f0_ := hb38.frozen 1; simp [go_sem, sEv, sLook, nbeq, i64_w, -List.getD_eq_getElem?_getD, putCells, e0_, f0_, Try.underlying35]) ?_
      intro w35 hk36 hk37
      have hs_w35 := hk36.size
      refine rw_end ?_
      refine w_weaken (G' := [(4, .int .i64 0), (6, .int .i64 (r.repE (frX ss)))]) ⟨rfl, rfl, trivial⟩ ?_
      refine w_seq ?_
      refine w_region ?_
      refine rw_val (v := .int .i64 (r.repE (frX ss))) (w' := w35) rfl rfl rfl rfl rfl ?_
      refine rw_val (v := .int .i64 (r.repE (frX ss))) (w' := w35) rfl rfl rfl rfl rfl ?_
      refine rw_end ?_
      refine w_ret (post_ret1 rfl rfl ?_)
      have hf_ := fr_zero cF
      have nf_ : ¬ rwFull ss = true := by rw [hf_]; simp
      have ef_ := (fr_fit hf_).1
      have e1_ : r.rwE ss = r.repE (frX ss) := by rw [RS.rwE, if_neg nf_, ef_]
      have e2_ : r.rwS ss = r.rep (frX ss) := by rw [RS.rwS, if_neg nf_, ef_]
      rw [e1_, e2_, if_pos cA]
      exact ⟨rfl, (Grow.keptS (Kept.grownO (d := kSL) (kept_trans (Grow.keptS (kept_trans (kept_refl w1 (fun q => q = u ∨ q = md)) (below_kept hb12)) hG15 (.inl (.inl rfl))) (below_kept hb21)) hG31 oA32 (by omega)) (Grow.ofK hk36) (.inl (.inr rfl))), qt_of hB0 (hk36.below (by omega) hB30), (hk33.keep hk36 (by omega)), hu0, hmd0, _, _, hk37, (Kd.R_mono (OwnK.step (d := kSL) hO29 (fun q hq_ hlt_ => hk36.block q (by omega))) (fun q hq_ => hfr q (by omega)))⟩
    · have l39 : ¬ (r.repE (frX ss)) = 0 := by simpa using cA
      refine w_skip ?_
      refine w_seq ?_
      refine w_region ?_
      refine rw_val (v := .int .i64 (r.repE (frX ss))) (w' := w14) rfl rfl rfl rfl rfl ?_
      refine rw_val (v := .int .i64 (r.repE (frX ss))) (w' := w14) rfl rfl rfl rfl rfl ?_
      refine rw_end ?_
      refine w_ret (post_ret1 rfl rfl ?_)
      have hf_ := fr_zero cF
      have nf_ : ¬ rwFull ss = true := by rw [hf_]; simp
      have ef_ := (fr_fit hf_).1
      have e1_ : r.rwE ss = r.repE (frX ss) := by rw [RS.rwE, if_neg nf_, ef_]
      have e2_ : r.rwS ss = r.rep (frX ss) := by rw [RS.rwS, if_neg nf_, ef_]
      rw [e1_, e2_, if_neg (by rw [cA]; simp)]
      exact ⟨rfl, (Grow.keptS (kept_trans (kept_refl w1 (fun q => q = u ∨ q = md)) (below_kept hb12)) hG15 (.inl (.inl rfl))), qt_of hB0 (hG15.below (by omega) (chain hB0 hb12)), hb16, hu0, hmd0, _, _, (Blk.grow (hbm.on hb12) hG15 (by omega)), (Kd.R_step (Kd.R_below hrs hb12) (fun q hq_ hlt_ => hG15.block q hlt_ (hoku q hq_).1))⟩
  · have l40 : ¬ (frN ss) = 0 := by simpa using cF
    refine w_skip ?_
    refine w_seq ?_
    refine w_seq ?_
    refine w_region ?_
    refine rw_val (v := .int .i64 (frN ss)) (w' := w11) rfl rfl rfl rfl rfl ?_
    refine rw_val (v := .bool ((frN ss) == 0)) (w' := w11) rfl rfl rfl rfl (by simp [go_sem, sEv, sLook, nbeq, i64_w, -List.getD_eq_getElem?_getD]) ?_
    refine rw_end ?_
    refine w_cond_f rfl rfl cF ?_
    refine w_skip ?_
    refine w_seq ?_
    refine w_region ?_
    refine rw_val (v := .int .i64 (frN ss)) (w' := w11) rfl rfl rfl rfl rfl ?_
    refine rw_val (v := .int .i64 (frN ss)) (w' := w11) rfl rfl rfl rfl rfl ?_
    refine rw_end ?_
    refine w_ret (post_ret1 rfl rfl ?_)
    have hf_ := fr_some cF
    have e1_ : r.rwE ss = frN ss := by rw [RS.rwE, if_pos hf_, (fr_full hf_).2]
    have e2_ : r.rwS ss = r := by rw [RS.rwS, if_pos hf_]
    rw [e1_, e2_, if_neg (by rw [cF]; simp)]
    exact ⟨rfl, (kept_trans (kept_refl w1 (fun q => q = u ∨ q = md)) (below_kept hb12)), qt_of hB0 (chain hB0 hb12), (hbu.on hb12), hu0, hmd0, _, _, (hbm.on hb12), (Kd.R_below hrs hb12)⟩
set_option maxHeartbeats 4000000 in
theorem rbytes_calls (w1 w : World) (hB0 : Below w.heap.size w w1) (u md : Nat) (ok : Nat → Prop) (hfr : ∀ q, w1.heap.size ≤ q → ok q) (hoku : ∀ q, ok q → q ≠ u ∧ q ≠ md) (r : RS) (rs : List (List Int)) (hR : RDAt w w1 ok u md r rs) (hro : r.Ok) (h9 : r.st ≤ 999999999999990) (hby : ∀ p ∈ rs, Bytes p) (hall : ∀ p ∈ rs, p.length ≤ 140737488355328) (hlr : rs.length ≤ 2000000) :
    Calls Try.prog 34 #[.pointer (some ⟨md, 0, none⟩)] w1 fun e w' => e = .returned (.int .i64 ((frX rs).length : Int)) ∧ Below w1.heap.size w1 w' := by
  obtain ⟨hbu, hu0, hmd0, A1, c1, hbm, hrs⟩ := hR
  have hmu : md ≠ u := blk_ne hbm hbu (by decide)
  have hlu := hbu.lt
  have hlm := hbm.lt
  have hs_w1 := hB0.size
  have hro1 := hro.st
  refine calls_flow Try.func34 rfl 15 rfl (Nat.le_of_ble_eq_true rfl) [(0, .pointer (some ⟨md, 0, none⟩))] ?_ ?_
  · intro t v h; exact args_look rfl t v h
  refine w_seq ?_
  refine w_region ?_
  refine rw_val (v := .int .i64 0) (w' := w1) rfl rfl rfl rfl rfl ?_
  refine rw_end ?_
  refine w_seq ?_
  refine w_region ?_
  refine rw_val (v := .pointer (some ⟨md, 0, none⟩)) (w' := w1) rfl rfl rfl rfl rfl ?_
  refine rw_val (v := .pointer (some ⟨md, 0, none⟩)) (w' := w1) rfl rfl rfl rfl (by simp [go_sem, sEv, sLook, nbeq, i64_w, -List.getD_eq_getElem?_getD]) ?_
  refine rw_val (v := .pointer (some ⟨md, 1, none⟩)) (w' := w1) rfl rfl rfl rfl (by simp [go_sem, sEv, sLook, nbeq, i64_w, -List.getD_eq_getElem?_getD, Try.underlying71]) ?_
  have hrn11 := hrs
  refine rw_val (v := .slice A1 rs.length c1) (w' := w1) rfl rfl rfl rfl (by have eb_ := hbm; have e0_ := eb_.cellv (i := 1) (v := (.slice A1 rs.length c1 : Value)) rfl; simp [go_sem, sEv, sLook, nbeq, i64_w, -List.getD_eq_getElem?_getD, e0_, Try.underlying35]) ?_
  refine rw_call rfl rfl rfl rfl (f := 45) (args := #[.slice A1 rs.length c1]) (by simp [go_sem, sEv, sLook, nbeq, i64_w, -List.getD_eq_getElem?_getD]) (frames_calls w1 A1 c1 rs (Kd.C_below (Kd.R_reads' hrn11).2.2 (Below.refl _ _)) (Kd.R_reads' hrn11).2.1 hby hall (by omega)) ?_
  rintro e_ w12 ⟨rfl, hb13⟩
  refine ⟨_, rfl, ?_⟩
  have hs_w12 := hb13.size
  have hfx_ := fr_len rs
  refine rw_val (v := .tuple #[.string (strOfNums (frX rs)), .int .i64 (frN rs)]) (w' := w12) rfl rfl rfl rfl rfl ?_
  refine rw_val (v := .string (strOfNums (frX rs))) (w' := w12) rfl rfl rfl rfl (by simp [go_sem, sEv, sLook, nbeq, i64_w, -List.getD_eq_getElem?_getD]) ?_
  refine rw_val (v := .int .i64 (frN rs)) (w' := w12) rfl rfl rfl rfl (by simp [go_sem, sEv, sLook, nbeq, i64_w, -List.getD_eq_getElem?_getD]) ?_
  refine rw_val (v := .string (strOfNums (frX rs))) (w' := w12) rfl rfl rfl rfl rfl ?_
  refine rw_val (v := .int .i64 (frN rs)) (w' := w12) rfl rfl rfl rfl rfl ?_
  refine rw_end ?_
  refine w_weaken (G' := [(2, .int .i64 0), (3, .string (strOfNums (frX rs)))]) ⟨rfl, rfl, trivial⟩ ?_
  refine w_seq ?_
  refine w_region ?_
  refine rw_val (v := .string (strOfNums (frX rs))) (w' := w12) rfl rfl rfl rfl rfl ?_
  refine rw_val (v := .int .i64 (((frX rs).length : Nat) : Int)) (w' := w12) rfl rfl rfl rfl (by simp [go_sem, sEv, sLook, nbeq, i64_w, -List.getD_eq_getElem?_getD, strOfNums_size]) ?_
  refine rw_val (v := .int .i64 (((frX rs).length : Nat) : Int)) (w' := w12) rfl rfl rfl rfl rfl ?_
  refine rw_end ?_
  refine w_ret (post_ret1 rfl rfl ?_)
  exact ⟨rfl, hb13⟩
end Go.Proofs.Ytiiljpaedelhlaa.Tp
end
section
namespace Go.Proofs.Ytiiljpaedelhlaa.Tp
open Go.RowKit Go.Proofs.YtiiljpaedelhlaaW.PrintWords Go.Proofs.YtiiljpaedelhlaaW.PrintLast Go.Proofs.YtiiljpaedelhlaaW.PrintMore
open Go.Proofs.Ytiiljpaedelhlaa.Flow
open Go.Proofs.Ytiiljpaedelhlaa.PDiaryPlays (SplitR Bytes frameB frameE FC wholeP frameB_len frameB_bytes FC_cons errN refsplit_calls)
set_option linter.unusedVariables false
set_option linter.unusedSimpArgs false
theorem OwnK.keepM {α : Type} {d : Kd α} {e : TypeId} {w w' : World} {base b g t : Nat} {cs : Array Value} {A : Option Addr} {n c : Nat} {xs : List α} (h : OwnK d e w base b A n c xs) (hk : Keep g w w') (hb : Blk w g t cs) (hne : ∀ q, q ∈ e :: d.E → q ≠ t) : OwnK d e w' base b A n c xs := by
  refine Kd.R_mono (Kd.R_move (Kd.R_bound h) (fun k hk2 => hk.block k (fun he => ?_))) (fun q hq => hq.1)
  obtain ⟨_, _, _, q, hq, cells, hc⟩ := hk2
  rw [he] at hc
  have hb' : w.heap[g]? = some (.cells cs t (0, 0)) := hb
  rw [hb'] at hc
  injection hc with hc
  injection hc with _ hc
  exact hne q hq hc.symm
set_option maxHeartbeats 4000000 in
theorem ropen_calls (w1 w : World) (hB0 : Below w.heap.size w w1) (u : Nat) (r : RS) (hbu : Blk w1 u 59 (rcells r)) (hu0 : w.heap.size ≤ u) (hro : r.Ok) (h9 : r.st ≤ 999999999999990) (hby : Bytes (r.S ++ r.R)) :
    Calls Try.prog 26 #[.pointer (some ⟨u, 0, none⟩)] w1 fun e w' => ∃ (out : List (List Int)) (n : Nat), (r.d = false → SplitR (r.S ++ r.R) out n) ∧ Kept w1 w' (fun q => q = u) ∧ QT w1 w' ∧ ((r.openE n ≠ 0 ∧ e = .returned (.tuple #[.pointer none, .int .i64 (r.openE n)]) ∧ Blk w' u 59 (rcells (r.openS n))) ∨ (r.openE n = 0 ∧ ∃ md, e = .returned (.tuple #[.pointer (some ⟨md, 0, none⟩), .int .i64 0]) ∧ w1.heap.size ≤ md ∧ RDAt w w' (fun q => w1.heap.size ≤ q) u md (r.openS n) out)) := by
  have hlu := hbu.lt
  have hs_w1 := hB0.size
  have hro1 := hro.st
  have hro4 := hro.len
  refine calls_flow Try.func26 rfl 65 rfl (Nat.le_of_ble_eq_true rfl) [(0, .pointer (some ⟨u, 0, none⟩))] ?_ ?_
  · intro t v h; exact args_look rfl t v h
  refine w_seq ?_
  refine w_region ?_
  refine rw_val (v := .pointer none) (w' := w1) rfl rfl rfl rfl rfl ?_
  refine rw_val (v := .int .i64 0) (w' := w1) rfl rfl rfl rfl rfl ?_
  refine rw_end ?_
  refine w_seq ?_
  refine w_seq ?_
  refine w_region ?_
  refine rw_val (v := .pointer (some ⟨u, 0, none⟩)) (w' := w1) rfl rfl rfl rfl rfl ?_
  refine rw_val (v := .pointer (some ⟨u, 0, none⟩)) (w' := w1) rfl rfl rfl rfl (by simp [go_sem, sEv, sLook, nbeq, i64_w, -List.getD_eq_getElem?_getD]) ?_
  refine rw_val (v := .pointer (some ⟨u, 7, none⟩)) (w' := w1) rfl rfl rfl rfl (by simp [go_sem, sEv, sLook, nbeq, i64_w, -List.getD_eq_getElem?_getD, Try.underlying59]) ?_
  refine rw_val (v := .bool r.d) (w' := w1) rfl rfl rfl rfl (by have eb_ := hbu; have e0_ := eb_.cellv (i := 7) (v := (.bool r.d : Value)) rfl; simp [go_sem, sEv, sLook, nbeq, i64_w, -List.getD_eq_getElem?_getD, e0_]) ?_
  refine rw_end ?_
  refine w_weaken (G' := [(0, .pointer (some ⟨u, 0, none⟩)), (2, .pointer none), (3, .int .i64 0), (13, .bool r.d)]) ⟨rfl, rfl, rfl, rfl, trivial⟩ ?_
  refine w_cond rfl rfl (fun cD => ?_) (fun cD => ?_)
  · refine w_seq ?_
    refine w_region ?_
    refine rw_val (v := .pointer none) (w' := w1) rfl rfl rfl rfl rfl ?_
    refine rw_val (v := .int .i64 5) (w' := w1) rfl rfl rfl rfl rfl ?_
    refine rw_end ?_
    refine w_ret (post_ret2 rfl rfl rfl ?_)
    have eE_ : r.openE 0 = 5 := by rw [RS.openE, if_pos cD]
    have eS_ : r.openS 0 = r := by rw [RS.openS, if_pos cD]
    exact ⟨[], 0, (fun h => by rw [cD] at h; cases h), (Kept.mono' (kept_refl w1 (fun q => q = u ∨ q = u)) (fun _ _ h_ => h_.elim id id)), qt_of hB0 hB0, .inl ⟨by rw [eE_]; decide, by rw [eE_], by rw [eS_]; exact hbu⟩⟩
  · refine w_skip ?_
    refine w_seq ?_
    refine w_drawk (M := [0, 1, 3, 7, 0, 16, 48, 112, 255, 511]) (ss := [Is (.pointer (some ⟨u, 0, none⟩)), Is (.pointer (some ⟨u, 0, none⟩)), Is (.pointer (some ⟨u, 0, none⟩)), Is (.string (strOfNums r.S)), Is (.pointer (some ⟨u, 0, none⟩)), Is (.pointer (some ⟨u, 0, none⟩)), Is (.pointer (some ⟨u, 1, none⟩)), Is (.string (strOfNums r.R))]) 8 rfl (by decide +kernel) ?_
    refine t_is (.pointer (some ⟨u, 0, none⟩)) rfl rfl rfl rfl (fun W_ hW_ F_ => rfl) ?_
    refine t_is (.pointer (some ⟨u, 0, none⟩)) rfl rfl rfl rfl (fun W_ hW_ F_ => by simp [go_sem, sEv, sLook, nbeq, i64_w, -List.getD_eq_getElem?_getD]) ?_
    refine t_is (.pointer (some ⟨u, 0, none⟩)) rfl rfl rfl rfl (fun W_ hW_ F_ => by simp [go_sem, sEv, sLook, nbeq, i64_w, -List.getD_eq_getElem?_getD, Try.underlying59]) ?_
    refine t_is (.string (strOfNums r.S)) rfl rfl rfl rfl (fun W_ hW_ F_ => by have eb_ := (hbu.on (below_of_drew hW_)); have e0_ := eb_.cellv (i := 0) (v := (.string (strOfNums r.S) : Value)) rfl; simp [go_sem, sEv, sLook, nbeq, i64_w, -List.getD_eq_getElem?_getD, e0_]) ?_
    refine t_is (.pointer (some ⟨u, 0, none⟩)) rfl rfl rfl rfl (fun W_ hW_ F_ => rfl) ?_
    refine t_is (.pointer (some ⟨u, 0, none⟩)) rfl rfl rfl rfl (fun W_ hW_ F_ => by simp [go_sem, sEv, sLook, nbeq, i64_w, -List.getD_eq_getElem?_getD]) ?_
    refine t_is (.pointer (some ⟨u, 1, none⟩)) rfl rfl rfl rfl (fun W_ hW_ F_ => by simp [go_sem, sEv, sLook, nbeq, i64_w, -List.getD_eq_getElem?_getD, Try.underlying59]) ?_
    refine t_is (.string (strOfNums r.R)) rfl rfl rfl rfl (fun W_ hW_ F_ => by have eb_ := (hbu.on (below_of_drew hW_)); have e0_ := eb_.cellv (i := 1) (v := (.string (strOfNums r.R) : Value)) rfl; simp [go_sem, sEv, sLook, nbeq, i64_w, -List.getD_eq_getElem?_getD, e0_]) ?_
    refine t_tail ?_
    intro w11 hb12_ F13
    have hb12 := below_of_drew hb12_
    have hs_w11 := hb12.size
    refine rw_val (v := .string (strOfNums (r.S ++ r.R))) (w' := w11) rfl rfl rfl rfl (run_as (run_str_add (t := 9) r.S r.R (by omega) _)) ?_
    refine rw_val (v := .string (strOfNums (r.S ++ r.R))) (w' := w11) rfl rfl rfl rfl rfl ?_
    refine rw_end ?_
    refine w_weaken (G' := [(0, .pointer (some ⟨u, 0, none⟩)), (2, .pointer none), (3, .int .i64 0), (4, .string (strOfNums (r.S ++ r.R)))]) ⟨rfl, rfl, rfl, rfl, trivial⟩ ?_
    refine w_seq ?_
    refine w_region ?_
    refine rw_val (v := .string (strOfNums (r.S ++ r.R))) (w' := w11) rfl rfl rfl rfl rfl ?_
    obtain ⟨g14, cap15, w16, hr17, hb18, hg19, hz20, hc21, hC22⟩ := conv_row w11 (r.S ++ r.R) hby (by rw [List.length_append]; omega)
    refine rw_val (v := .slice (some ⟨g14, 0, none⟩) ((r.S ++ r.R).length) cap15) (w' := w16) rfl rfl rfl rfl (run_as hr17) ?_
    have hs_w16 := hb18.size
    refine rw_call rfl rfl rfl rfl (f := 43) (args := #[.slice (some ⟨g14, 0, none⟩) ((r.S ++ r.R).length) cap15]) (by simp [go_sem, sEv, sLook, nbeq, i64_w, -List.getD_eq_getElem?_getD]) (refsplit_calls w16 (some ⟨g14, 0, none⟩) cap15 (r.S ++ r.R) (Kd.C_below hC22 (Below.refl _ _)) hc21 hby (by rw [List.length_append]; omega)) ?_
    rintro e_ w25 ⟨out, n, A23, c24, rfl, hS26, hR27, hB28⟩
    refine ⟨_, rfl, ?_⟩
    have hs_w25 := hB28.size
    have hsp_ := splitR_bound hS26
    rw [List.length_append] at hsp_
    have hL29 : OwnK (Kd.slice 5 (Kd.int .u8)) 32 w25 w.heap.size w16.heap.size A23 out.length c24 out := OwnK.lower (d := (Kd.slice 5 (Kd.int .u8))) (Kd.S_R hR27) (by omega)
    refine rw_val (v := .tuple #[.slice A23 out.length c24, .int .i64 ((n : Nat) : Int)]) (w' := w25) rfl rfl rfl rfl rfl ?_
    refine rw_val (v := .slice A23 out.length c24) (w' := w25) rfl rfl rfl rfl (by simp [go_sem, sEv, sLook, nbeq, i64_w, -List.getD_eq_getElem?_getD]) ?_
    refine rw_val (v := .int .i64 ((n : Nat) : Int)) (w' := w25) rfl rfl rfl rfl (by simp [go_sem, sEv, sLook, nbeq, i64_w, -List.getD_eq_getElem?_getD]) ?_
    refine rw_val (v := .slice A23 out.length c24) (w' := w25) rfl rfl rfl rfl rfl ?_
    refine rw_val (v := .int .i64 ((n : Nat) : Int)) (w' := w25) rfl rfl rfl rfl rfl ?_
    refine rw_end ?_
    refine w_weaken (G' := [(0, .pointer (some ⟨u, 0, none⟩)), (2, .pointer none), (3, .int .i64 0), (4, .string (strOfNums (r.S ++ r.R))), (5, .slice A23 out.length c24), (6, .int .i64 ((n : Nat) : Int))]) ⟨rfl, rfl, rfl, rfl, rfl, rfl, trivial⟩ ?_
    refine w_seq ?_
    refine w_seq ?_
    refine w_region ?_
    refine rw_val (v := .int .i64 ((n : Nat) : Int)) (w' := w25) rfl rfl rfl rfl rfl ?_
    refine rw_val (v := .string (strOfNums (r.S ++ r.R))) (w' := w25) rfl rfl rfl rfl rfl ?_
    refine rw_val (v := .int .i64 (((r.S ++ r.R).length : Nat) : Int)) (w' := w25) rfl rfl rfl rfl (by simp [go_sem, sEv, sLook, nbeq, i64_w, -List.getD_eq_getElem?_getD, strOfNums_size]) ?_
    refine rw_val (v := .bool (decide (((n : Nat) : Int) < (((r.S ++ r.R).length : Nat) : Int)))) (w' := w25) rfl rfl rfl rfl (by simp [go_sem, sEv, sLook, nbeq, i64_w, -List.getD_eq_getElem?_getD]) ?_
    refine rw_end ?_
    refine w_weaken (G' := [(0, .pointer (some ⟨u, 0, none⟩)), (2, .pointer none), (3, .int .i64 0), (4, .string (strOfNums (r.S ++ r.R))), (5, .slice A23 out.length c24), (6, .int .i64 ((n : Nat) : Int)), (32, .bool (decide (((n : Nat) : Int) < (((r.S ++ r.R).length : Nat) : Int))))]) ⟨rfl, rfl, rfl, rfl, rfl, rfl, rfl, trivial⟩ ?_
    refine w_cond rfl rfl (fun cL => ?_) (fun cL => ?_)
    · have l30 : (((n : Nat) : Int) < (((r.S ++ r.R).length : Nat) : Int)) := of_decide_eq_true cL
      refine w_seq ?_
      refine w_region ?_
      refine rw_val (v := .pointer (some ⟨u, 0, none⟩)) (w' := w25) rfl rfl rfl rfl rfl ?_
      refine rw_val (v := .string (strOfNums (r.S ++ r.R))) (w' := w25) rfl rfl rfl rfl rfl ?_
      refine rw_val (v := .int .i64 ((n : Nat) : Int)) (w' := w25) rfl rfl rfl rfl rfl ?_
      refine rw_val (v := .string (strOfNums ((r.S ++ r.R).take n))) (w' := w25) rfl rfl rfl rfl (run_as (by have h_ := str_to (t := 9) (by kernel_rfl) (r.S ++ r.R) ((n : Nat) : Int) (by omega) (by rw [List.length_append]; omega) w25; rwa [Int.toNat_natCast] at h_)) ?_
      have h9_ho34 := hro.st
      refine rw_call rfl rfl rfl rfl (f := 44) (args := #[.pointer (some ⟨u, 0, none⟩), .string (strOfNums ((r.S ++ r.R).take n))]) (by simp [go_sem, sEv, sLook, nbeq, i64_w, -List.getD_eq_getElem?_getD]) (rreplace w25 u r ⟨hro.st.1, by omega⟩ hro.l hro.u hro.len ((r.S ++ r.R).take n) (by rw [List.length_take, List.length_append]; omega) (((hbu.on hb12).on hb18).on hB28)) ?_
      rintro e_ w31 ⟨rfl, hG32, hb33⟩
      refine ⟨_, rfl, ?_⟩
      have hs_w31 := hG32.size
      have ho34 := RS.rep_ok2 hro (by omega) ((r.S ++ r.R).take n)
      refine rw_val (v := .int .i64 (r.repE ((r.S ++ r.R).take n))) (w' := w31) rfl rfl rfl rfl rfl ?_
      refine rw_end ?_
      refine w_weaken (G' := [(0, .pointer (some ⟨u, 0, none⟩)), (2, .pointer none), (3, .int .i64 0), (5, .slice A23 out.length c24), (7, .int .i64 (r.repE ((r.S ++ r.R).take n)))]) ⟨rfl, rfl, rfl, rfl, rfl, trivial⟩ ?_
      refine w_seq ?_
      refine w_region ?_
      refine rw_val (v := .int .i64 (r.repE ((r.S ++ r.R).take n))) (w' := w31) rfl rfl rfl rfl rfl ?_
      refine rw_val (v := .bool ((r.repE ((r.S ++ r.R).take n)) != 0)) (w' := w31) rfl rfl rfl rfl (by simp [go_sem, sEv, sLook, nbeq, i64_w, -List.getD_eq_getElem?_getD]) ?_
      refine rw_end ?_
      refine w_cond rfl rfl (fun cE => ?_) (fun cE => ?_)
      · have l35 : ¬ (r.repE ((r.S ++ r.R).take n)) = 0 := by simpa using cE
        refine w_seq ?_
        refine w_region ?_
        refine rw_val (v := .int .i64 (r.repE ((r.S ++ r.R).take n))) (w' := w31) rfl rfl rfl rfl rfl ?_
        refine rw_val (v := .pointer none) (w' := w31) rfl rfl rfl rfl rfl ?_
        refine rw_val (v := .int .i64 (r.repE ((r.S ++ r.R).take n))) (w' := w31) rfl rfl rfl rfl rfl ?_
        refine rw_end ?_
        refine w_ret (post_ret2 rfl rfl rfl ?_)
        have nd_ : ¬ r.d = true := by rw [cD]; simp
        have lt_ : n < r.S.length + r.R.length := by have h_ := of_decide_eq_true cL; rw [List.length_append] at h_; omega
        have eE_ : r.openE n = r.repE ((r.S ++ r.R).take n) := by rw [RS.openE, if_neg nd_, if_pos lt_]
        have eS_ : r.openS n = r.rep ((r.S ++ r.R).take n) := by rw [RS.openS, if_neg nd_, if_pos lt_]
        exact ⟨out, n, (fun _ => hS26), (Kept.mono' (Grow.keptS (kept_trans (kept_trans (kept_trans (kept_refl w1 (fun q => q = u ∨ q = u)) (below_kept hb12)) (below_kept hb18)) (below_kept hB28)) hG32 (.inl (.inl rfl))) (fun _ _ h_ => h_.elim id id)), qt_of hB0 (hG32.below (by omega) (chain (chain (chain hB0 hb12) hb18) hB28)), .inl ⟨by rw [eE_]; simpa using cE, by rw [eE_], by rw [eS_]; exact hb33⟩⟩
      · have l36 : (r.repE ((r.S ++ r.R).take n)) = 0 := by simpa using cE
        refine w_skip ?_
        refine w_seq ?_
        refine w_region ?_
        refine rw_val (v := .pointer (some ⟨u, 0, none⟩)) (w' := w31) rfl rfl rfl rfl rfl ?_
        refine rw_val (v := .agg #[.pointer (some ⟨u, 0, none⟩), .slice none 0 0]) (w' := w31) rfl rfl rfl rfl (by kernel_rfl) ?_
        refine rw_new (cs := #[.pointer (some ⟨u, 0, none⟩), .slice none 0 0]) (t := 71) (fun g => .pointer (some ⟨g, 0, none⟩)) rfl rfl rfl rfl (by simp [go_sem, sEv, sLook, nbeq, i64_w, -List.getD_eq_getElem?_getD]) ?_
        intro g37 w38 hg42 hz41 hb39 hk40
        have hs_w38 := hb39.size
        refine rw_val (v := .pointer (some ⟨g37, 0, none⟩)) (w' := w38) rfl rfl rfl rfl rfl ?_
        refine rw_end ?_
        refine w_weaken (G' := [(2, .pointer none), (3, .int .i64 0), (5, .slice A23 out.length c24), (8, .pointer (some ⟨g37, 0, none⟩))]) ⟨rfl, rfl, rfl, rfl, trivial⟩ ?_
        refine w_seq ?_
        refine w_seq ?_
        refine w_region ?_
        refine rw_val (v := .int .i64 0) (w' := w38) rfl rfl rfl rfl rfl ?_
        refine rw_end ?_
        refine w_block ?_
        have nd_ : ¬ r.d = true := by rw [cD]; simp
        have lt_ : n < r.S.length + r.R.length := by have h_ := of_decide_eq_true cL; rw [List.length_append] at h_; omega
        have eE_ : r.openE n = r.repE ((r.S ++ r.R).take n) := by rw [RS.openE, if_neg nd_, if_pos lt_]
        have eS_ : r.openS n = r.rep ((r.S ++ r.R).take n) := by rw [RS.openS, if_neg nd_, if_pos lt_]
        have hE0_ : r.openE n = 0 := by rw [eE_]; simpa using cE
        have hU0_ : Blk w38 u 59 (rcells (r.openS n)) := by rw [eS_]; exact (hb33.on hb39)
        refine w_loop (fun m_ G W_ => ∃ (j : Nat) (A3 : Option Addr) (c3 : Nat), j + m_ = out.length ∧ Below w.heap.size w W_ ∧ Kept w1 W_ (fun q => q = u) ∧ Blk W_ u 59 (rcells (r.openS n)) ∧ Blk W_ g37 71 #[.pointer (some ⟨u, 0, none⟩), .slice A3 j c3] ∧ OwnK kSL 9 W_ w.heap.size w1.heap.size A3 j c3 (out.take j) ∧ OwnK (Kd.slice 5 (Kd.int .u8)) 32 W_ w.heap.size w1.heap.size A23 out.length c24 out ∧ g37 < W_.heap.size ∧ G = [(5, .slice A23 out.length c24), (8, .pointer (some ⟨g37, 0, none⟩)), (9, .int .i64 ((j : Nat) : Int))]) out.length [(5, .slice A23 out.length c24), (8, .pointer (some ⟨g37, 0, none⟩)), (9, .int .i64 ((0 : Nat) : Int))] ⟨0, none, 0, by omega, (chain (hG32.below (by omega) (chain (chain (chain hB0 hb12) hb18) hB28)) hb39), (Kept.mono' (kept_trans (Grow.keptS (kept_trans (kept_trans (kept_trans (kept_refl w1 (fun q => q = u ∨ q = u)) (below_kept hb12)) (below_kept hb18)) (below_kept hB28)) hG32 (.inl (.inl rfl))) (below_kept hb39)) (fun _ _ h_ => h_.elim id id)), hU0_, hk40, OwnK.nil _ _ _ _ _, OwnK.mono (d := (Kd.slice 5 (Kd.int .u8))) (OwnK.on (d := (Kd.slice 5 (Kd.int .u8))) (OwnK.step (d := (Kd.slice 5 (Kd.int .u8))) hL29 (fun q hq_ hlt_ => hG32.block q hlt_ (by omega))) hb39) (by omega), by omega, rfl⟩ ⟨rfl, rfl, rfl, trivial⟩ ?_
        rintro m_ G wL ⟨j, A3, c3, hj_, hB_, hK_, hU_, hM_, hO_, hL_, hg_, rfl⟩
        have hs_wL := hB_.size
        have hs1_wL := hK_.1
        have hlo_ := OwnK.cap (d := kSL) hO_
        refine w_seq ?_
        refine w_seq ?_
        refine w_region ?_
        refine rw_val (v := .int .i64 ((j : Nat) : Int)) (w' := wL) rfl rfl rfl rfl rfl ?_
        refine rw_val (v := .slice A23 out.length c24) (w' := wL) rfl rfl rfl rfl rfl ?_
        refine rw_val (v := .int .i64 ((out.length : Nat) : Int)) (w' := wL) rfl rfl rfl rfl (by simp [go_sem, sEv, sLook, nbeq, i64_w, -List.getD_eq_getElem?_getD]) ?_
        refine rw_val (v := .bool (decide (((j : Nat) : Int) < ((out.length : Nat) : Int)))) (w' := wL) rfl rfl rfl rfl (by simp [go_sem, sEv, sLook, nbeq, i64_w, -List.getD_eq_getElem?_getD]) ?_
        refine rw_end ?_
        refine w_weaken (G' := [(5, .slice A23 out.length c24), (8, .pointer (some ⟨g37, 0, none⟩)), (9, .int .i64 ((j : Nat) : Int)), (47, .bool (decide (((j : Nat) : Int) < ((out.length : Nat) : Int))))]) ⟨rfl, rfl, rfl, rfl, trivial⟩ ?_
        refine w_cond rfl rfl (fun cJ => ?_) (fun cJ => ?_)
        · have l43 : (((j : Nat) : Int) < ((out.length : Nat) : Int)) := of_decide_eq_true cJ
          refine w_skip ?_
          refine w_seq ?_
          refine w_block ?_
          have lj_ : j < out.length := by omega
          obtain ⟨ad, A0, c0, hA_, hcl_, hle_, hC_⟩ := rows_at (OwnK.C (d := (Kd.slice 5 (Kd.int .u8))) hL_) j lj_
          have hm_ : (out.take j).length = j := by rw [List.length_take]; omega
          subst hA_
          refine w_drawa (M := [0, 0, 2, 6, 14, 0, 0, 96, 224, 480, 992, 2046, 4095, 8191, 16383]) (ss := [Is (.pointer (some ⟨g37, 0, none⟩)), Is (.pointer (some ⟨g37, 0, none⟩)), Is (.pointer (some ⟨g37, 0, none⟩)), Is (.pointer (some ⟨g37, 1, none⟩)), Is (.slice A3 j c3), Is (.slice (some ad) out.length c24), Is (.int .i64 ((j : Nat) : Int)), Is (.pointer (some (ad.add j))), Is (.slice A0 (out.getD j []).length c0), Is (.string (strOfNums (out.getD j []))), SlcSpec wL.heap.size 9 #[.string (strOfNums (out.getD j []))] 1, (OwnKSpec kSL 9 w.heap.size w1.heap.size (out.take j ++ ([(out.getD j [])] : List (List Int))))]) (fun q_ => (Value.slice A3 j c3).ownBlock = some q_) 11 (fun W_ => Below wL.heap.size wL W_) (fun W_ => Below w.heap.size w W_) 12 rfl (by decide +kernel) (stabx (q := 11) (show StabX _ 11 _ from ⟨stab_is, ⟨stab_is, ⟨stab_is, ⟨stab_is, ⟨stab_is, ⟨stab_is, ⟨stab_is, ⟨stab_is, ⟨stab_is, ⟨stab_is, ⟨(stab_slc (fun q_ hq_ hs_ => by have q2_ := own_lt (d := kSL) hO_ hs_; omega)), (stab_nil)⟩⟩⟩⟩⟩⟩⟩⟩⟩⟩⟩)) (fun _ _ hb_ h_ => chain h_ hb_) (fun _ _ hb_ h_ => chain h_ hb_) (below_drew _) ?_
          refine u_is (by kernel_rfl) (.pointer (some ⟨g37, 0, none⟩)) rfl rfl rfl rfl (fun W_ hW_ h1_ F_ => rfl) ?_
          refine u_is (by kernel_rfl) (.pointer (some ⟨g37, 0, none⟩)) rfl rfl rfl rfl (fun W_ hW_ h1_ F_ => rfl) ?_
          refine u_is (by kernel_rfl) (.pointer (some ⟨g37, 0, none⟩)) rfl rfl rfl rfl (fun W_ hW_ h1_ F_ => by simp [go_sem, sEv, sLook, nbeq, i64_w, -List.getD_eq_getElem?_getD]) ?_
          refine u_is (by kernel_rfl) (.pointer (some ⟨g37, 1, none⟩)) rfl rfl rfl rfl (fun W_ hW_ h1_ F_ => by simp [go_sem, sEv, sLook, nbeq, i64_w, -List.getD_eq_getElem?_getD, Try.underlying71]) ?_
          refine u_is (by kernel_rfl) (.slice A3 j c3) rfl rfl rfl rfl (fun W_ hW_ h1_ F_ => by have eb_ := Blk.on hM_ (h1_.2 (by kernel_rfl)); have e0_ := eb_.cellv (i := 1) (v := (.slice A3 j c3 : Value)) rfl; simp [go_sem, sEv, sLook, nbeq, i64_w, -List.getD_eq_getElem?_getD, e0_, Try.underlying35]) ?_
          refine u_is (by kernel_rfl) (.slice (some ad) out.length c24) rfl rfl rfl rfl (fun W_ hW_ h1_ F_ => rfl) ?_
          refine u_is (by kernel_rfl) (.int .i64 ((j : Nat) : Int)) rfl rfl rfl rfl (fun W_ hW_ h1_ F_ => rfl) ?_
          refine u_is (by kernel_rfl) (.pointer (some (ad.add j))) rfl rfl rfl rfl (fun W_ hW_ h1_ F_ => run_as (run_at_1 (P := Try.prog) (e := 32) (by kernel_rfl) (by kernel_rfl) j lj_ _)) ?_
          refine u_is (by kernel_rfl) (.slice A0 (out.getD j []).length c0) rfl rfl rfl rfl (fun W_ hW_ h1_ F_ => by have e0_ := cellOn hcl_ (h1_.2 (by kernel_rfl)); simp [go_sem, sEv, sLook, nbeq, i64_w, -List.getD_eq_getElem?_getD, e0_, Try.underlying32]) ?_
          refine u_is (by kernel_rfl) (.string (strOfNums (out.getD j []))) rfl rfl rfl rfl (fun W_ hW_ h1_ F_ => run_as (run_str_of (P := Try.prog) (e := 5) (by kernel_rfl) (by kernel_rfl) (by kernel_rfl) (Kd.C_below hC_ (h1_.2 (by kernel_rfl))))) ?_
          refine u_val (by kernel_rfl) (SlcSpec wL.heap.size 9 #[.string (strOfNums (out.getD j []))] 1) rfl rfl rfl rfl (fun W_ hW_ h1_ F_ => slc_gives _ _ _ _ (drew_kept hW_).1 (by kernel_rfl)) ?_
          rintro _ ⟨g44, rfl⟩
          refine u_app (OwnKSpec kSL 9 w.heap.size w1.heap.size (out.take j ++ ([(out.getD j [])] : List (List Int)))) (by kernel_rfl) rfl rfl rfl rfl (fun W_ hW_ h0_ F_ => own_app_k (d := kSL) w.heap.size w1.heap.size (.tmp 54) (.tmp 60) 35 9 (.string ByteArray.empty) 16 rfl (by kernel_rfl) (by kernel_rfl) rfl (show 0 < 1 by decide) (by decide) (fun _ _ h => h) rfl rfl (by have q_ := h0_.size; omega) (by omega) ⟨chain hB_ h0_, OwnK.on (d := kSL) hO_ h0_⟩ (OwnK.C (d := kSL) (scal_own (e := 9) (cap := 1) (xs := ([(out.getD j [])] : List (List Int))) 0 (slc_fact (F_ 10 _ _ rfl rfl)).2 (Nat.zero_le _) rfl rfl (by simp))) (by have q_ := h0_.size; omega) (by first | omega | (simp only [List.length_cons, List.length_nil]; omega))) ?_
          rintro _ ⟨A45, c46, rfl, hle47⟩
          refine u_tail ?_
          intro w48 hK49_ h50 F51
          have hK49 := drew_kept hK49_
          have hs_w48 := h50.size
          have hs1_w48 := hK49.1
          have hO52 : OwnK kSL 9 w48 w.heap.size w1.heap.size A45 (out.take j ++ ([(out.getD j [])] : List (List Int))).length c46 (out.take j ++ ([(out.getD j [])] : List (List Int))) := ownk_fact (F51 11 (OwnKSpec kSL 9 w.heap.size w1.heap.size (out.take j ++ ([(out.getD j [])] : List (List Int)))) (.slice A45 (out.take j ++ ([(out.getD j [])] : List (List Int))).length c46) (by kernel_rfl))
          clear F51
          have hx_ : (out.take j ++ ([(out.getD j [])] : List (List Int))) = out.take (j + 1) := (take_snoc out j lj_).symm
          have hn_ : (out.take j ++ ([(out.getD j [])] : List (List Int))).length = j + 1 := by rw [hx_, List.length_take]; omega
          rw [hx_] at hO52 hn_
          rw [hn_] at hO52
          have hk53 := Blk.kept hM_ hK49 (blk_own_ne (d := kSL) hO_ hM_ (by decide))
          have hk54 := Blk.kept hU_ hK49 (blk_own_ne (d := kSL) hO_ hU_ (by decide))
          have hL55 := own_kept_ty (d := (Kd.slice 5 (Kd.int .u8))) (d2 := kSL) hL_ hO_ (by decide) hK49
          simp only [hx_, hn_]
          refine rw_val (v := .pointer (some ⟨g37, 0, none⟩)) (w' := w48) rfl rfl rfl rfl (by simp [go_sem, sEv, sLook, nbeq, i64_w, -List.getD_eq_getElem?_getD]) ?_
          refine rw_val (v := .pointer (some ⟨g37, 1, none⟩)) (w' := w48) rfl rfl rfl rfl (by simp [go_sem, sEv, sLook, nbeq, i64_w, -List.getD_eq_getElem?_getD, Try.underlying71]) ?_
          have hb59 := hk53
          refine rw_store (g := g37) (i := 1) (l := [.slice A45 (j + 1) c46]) (cs' := #[.pointer (some ⟨u, 0, none⟩), .slice A45 (j + 1) c46]) rfl rfl rfl hb59 rfl (by have e0_ := hb59.cellv (i := 1) (v := (.slice A3 j c3 : Value)) rfl; have f0_ := hb59.frozen 1; simp [go_sem, sEv, sLook, nbeq, i64_w, -List.getD_eq_getElem?_getD, putCells, e0_, f0_, Try.underlying35]) ?_
          intro w56 hk57 hk58
          have hs_w56 := hk57.size
          refine rw_end ?_
          refine w_weaken (G' := [(5, .slice (some ad) out.length c24), (8, .pointer (some ⟨g37, 0, none⟩)), (9, .int .i64 ((j : Nat) : Int))]) ⟨rfl, rfl, rfl, trivial⟩ ?_
          refine w_blk ?_
          refine w_region ?_
          refine rw_val (v := .int .i64 ((j : Nat) : Int)) (w' := w56) rfl rfl rfl rfl rfl ?_
          refine rw_val (v := .int .i64 ((j + 1 : Nat) : Int)) (w' := w56) rfl rfl rfl rfl (by simp [go_sem, sEv, sLook, nbeq, i64_w, -List.getD_eq_getElem?_getD]; exact wrap_id (by omega) (by omega)) ?_
          refine rw_val (v := .int .i64 ((j + 1 : Nat) : Int)) (w' := w56) rfl rfl rfl rfl rfl ?_
          refine rw_end ?_
          exact w_back (m_ - 1) [(5, .slice (some ad) out.length c24), (8, .pointer (some ⟨g37, 0, none⟩)), (9, .int .i64 ((j + 1 : Nat) : Int))] (by omega) ⟨rfl, rfl, rfl, trivial⟩ ⟨j + 1, A45, c46, by omega, (hk57.below (by omega) h50), (Grow.keptS (Kept.ownS (d := kSL) hK_ hK49 hO_ (by omega)) (Grow.ofK hk57) (.inr (by omega))), (hk54.keep hk57 (by omega)), hk58, (OwnK.keepM (d := kSL) hO52 hk57 hk53 (by decide)), (OwnK.keepM (d := (Kd.slice 5 (Kd.int .u8))) hL55 hk57 hk53 (by decide)), by omega, rfl⟩
        · have l60 : ¬ (((j : Nat) : Int) < ((out.length : Nat) : Int)) := of_decide_eq_false cJ
          refine w_exit rfl ?_
          refine w_seq ?_
          refine w_region ?_
          refine rw_val (v := .pointer (some ⟨g37, 0, none⟩)) (w' := wL) rfl rfl rfl rfl rfl ?_
          refine rw_val (v := .pointer (some ⟨g37, 0, none⟩)) (w' := wL) rfl rfl rfl rfl rfl ?_
          refine rw_val (v := .int .i64 0) (w' := wL) rfl rfl rfl rfl rfl ?_
          refine rw_end ?_
          refine w_ret (post_ret2 rfl rfl rfl ?_)
          have ej_ : j = out.length := by omega
          have et_ : out.take j = out := by rw [ej_, List.take_length]
          have hO2_ := OwnK.full (d := kSL) hO_
          have hM2_ := hM_
          rw [et_] at hO2_
          rw [ej_] at hM2_
          exact ⟨out, n, (fun _ => hS26), hK_, qt_of hB0 hB_, .inr ⟨hE0_, g37, rfl, by omega, hU_, hu0, by omega, _, _, hM2_, Kd.R_mono hO2_ (fun q hq_ => hq_)⟩⟩
    · have l61 : ¬ (((n : Nat) : Int) < (((r.S ++ r.R).length : Nat) : Int)) := of_decide_eq_false cL
      refine w_skip ?_
      refine w_seq ?_
      refine w_region ?_
      refine rw_val (v := .pointer (some ⟨u, 0, none⟩)) (w' := w25) rfl rfl rfl rfl rfl ?_
      refine rw_val (v := .agg #[.pointer (some ⟨u, 0, none⟩), .slice none 0 0]) (w' := w25) rfl rfl rfl rfl (by kernel_rfl) ?_
      refine rw_new (cs := #[.pointer (some ⟨u, 0, none⟩), .slice none 0 0]) (t := 71) (fun g => .pointer (some ⟨g, 0, none⟩)) rfl rfl rfl rfl (by simp [go_sem, sEv, sLook, nbeq, i64_w, -List.getD_eq_getElem?_getD]) ?_
      intro g62 w63 hg67 hz66 hb64 hk65
      have hs_w63 := hb64.size
      refine rw_val (v := .pointer (some ⟨g62, 0, none⟩)) (w' := w63) rfl rfl rfl rfl rfl ?_
      refine rw_end ?_
      refine w_weaken (G' := [(2, .pointer none), (3, .int .i64 0), (5, .slice A23 out.length c24), (8, .pointer (some ⟨g62, 0, none⟩))]) ⟨rfl, rfl, rfl, rfl, trivial⟩ ?_
      refine w_seq ?_
      refine w_seq ?_
      refine w_region ?_
      refine rw_val (v := .int .i64 0) (w' := w63) rfl rfl rfl rfl rfl ?_
      refine rw_end ?_
      refine w_block ?_
      have nd_ : ¬ r.d = true := by rw [cD]; simp
      have lt_ : ¬ n < r.S.length + r.R.length := by have h_ := of_decide_eq_false cL; rw [List.length_append] at h_; omega
      have eE_ : r.openE n = 0 := by rw [RS.openE, if_neg nd_, if_neg lt_]
      have eS_ : r.openS n = r := by rw [RS.openS, if_neg nd_, if_neg lt_]
      have hE0_ : r.openE n = 0 := by rw [eE_]
      have hU0_ : Blk w63 u 59 (rcells (r.openS n)) := by rw [eS_]; exact ((((hbu.on hb12).on hb18).on hB28).on hb64)
      refine w_loop (fun m_ G W_ => ∃ (j : Nat) (A3 : Option Addr) (c3 : Nat), j + m_ = out.length ∧ Below w.heap.size w W_ ∧ Kept w1 W_ (fun q => q = u) ∧ Blk W_ u 59 (rcells (r.openS n)) ∧ Blk W_ g62 71 #[.pointer (some ⟨u, 0, none⟩), .slice A3 j c3] ∧ OwnK kSL 9 W_ w.heap.size w1.heap.size A3 j c3 (out.take j) ∧ OwnK (Kd.slice 5 (Kd.int .u8)) 32 W_ w.heap.size w1.heap.size A23 out.length c24 out ∧ g62 < W_.heap.size ∧ G = [(5, .slice A23 out.length c24), (8, .pointer (some ⟨g62, 0, none⟩)), (9, .int .i64 ((j : Nat) : Int))]) out.length [(5, .slice A23 out.length c24), (8, .pointer (some ⟨g62, 0, none⟩)), (9, .int .i64 ((0 : Nat) : Int))] ⟨0, none, 0, by omega, (chain (chain (chain (chain hB0 hb12) hb18) hB28) hb64), (Kept.mono' (kept_trans (kept_trans (kept_trans (kept_trans (kept_refl w1 (fun q => q = u ∨ q = u)) (below_kept hb12)) (below_kept hb18)) (below_kept hB28)) (below_kept hb64)) (fun _ _ h_ => h_.elim id id)), hU0_, hk65, OwnK.nil _ _ _ _ _, OwnK.mono (d := (Kd.slice 5 (Kd.int .u8))) (OwnK.on (d := (Kd.slice 5 (Kd.int .u8))) hL29 hb64) (by omega), by omega, rfl⟩ ⟨rfl, rfl, rfl, trivial⟩ ?_
      rintro m_ G wL ⟨j, A3, c3, hj_, hB_, hK_, hU_, hM_, hO_, hL_, hg_, rfl⟩
      have hs_wL := hB_.size
      have hs1_wL := hK_.1
      have hlo_ := OwnK.cap (d := kSL) hO_
      refine w_seq ?_
      refine w_seq ?_
      refine w_region ?_
      refine rw_val (v := .int .i64 ((j : Nat) : Int)) (w' := wL) rfl rfl rfl rfl rfl ?_
      refine rw_val (v := .slice A23 out.length c24) (w' := wL) rfl rfl rfl rfl rfl ?_
      refine rw_val (v := .int .i64 ((out.length : Nat) : Int)) (w' := wL) rfl rfl rfl rfl (by simp [go_sem, sEv, sLook, nbeq, i64_w, -List.getD_eq_getElem?_getD]) ?_
      refine rw_val (v := .bool (decide (((j : Nat) : Int) < ((out.length : Nat) : Int)))) (w' := wL) rfl rfl rfl rfl (by simp [go_sem, sEv, sLook, nbeq, i64_w, -List.getD_eq_getElem?_getD]) ?_
      refine rw_end ?_
      refine w_weaken (G' := [(5, .slice A23 out.length c24), (8, .pointer (some ⟨g62, 0, none⟩)), (9, .int .i64 ((j : Nat) : Int)), (47, .bool (decide (((j : Nat) : Int) < ((out.length : Nat) : Int))))]) ⟨rfl, rfl, rfl, rfl, trivial⟩ ?_
      refine w_cond rfl rfl (fun cJ => ?_) (fun cJ => ?_)
      · have l68 : (((j : Nat) : Int) < ((out.length : Nat) : Int)) := of_decide_eq_true cJ
        refine w_skip ?_
        refine w_seq ?_
        refine w_block ?_
        have lj_ : j < out.length := by omega
        obtain ⟨ad, A0, c0, hA_, hcl_, hle_, hC_⟩ := rows_at (OwnK.C (d := (Kd.slice 5 (Kd.int .u8))) hL_) j lj_
        have hm_ : (out.take j).length = j := by rw [List.length_take]; omega
        subst hA_
        refine w_drawa (M := [0, 0, 2, 6, 14, 0, 0, 96, 224, 480, 992, 2046, 4095, 8191, 16383]) (ss := [Is (.pointer (some ⟨g62, 0, none⟩)), Is (.pointer (some ⟨g62, 0, none⟩)), Is (.pointer (some ⟨g62, 0, none⟩)), Is (.pointer (some ⟨g62, 1, none⟩)), Is (.slice A3 j c3), Is (.slice (some ad) out.length c24), Is (.int .i64 ((j : Nat) : Int)), Is (.pointer (some (ad.add j))), Is (.slice A0 (out.getD j []).length c0), Is (.string (strOfNums (out.getD j []))), SlcSpec wL.heap.size 9 #[.string (strOfNums (out.getD j []))] 1, (OwnKSpec kSL 9 w.heap.size w1.heap.size (out.take j ++ ([(out.getD j [])] : List (List Int))))]) (fun q_ => (Value.slice A3 j c3).ownBlock = some q_) 11 (fun W_ => Below wL.heap.size wL W_) (fun W_ => Below w.heap.size w W_) 12 rfl (by decide +kernel) (stabx (q := 11) (show StabX _ 11 _ from ⟨stab_is, ⟨stab_is, ⟨stab_is, ⟨stab_is, ⟨stab_is, ⟨stab_is, ⟨stab_is, ⟨stab_is, ⟨stab_is, ⟨stab_is, ⟨(stab_slc (fun q_ hq_ hs_ => by have q2_ := own_lt (d := kSL) hO_ hs_; omega)), (stab_nil)⟩⟩⟩⟩⟩⟩⟩⟩⟩⟩⟩)) (fun _ _ hb_ h_ => chain h_ hb_) (fun _ _ hb_ h_ => chain h_ hb_) (below_drew _) ?_
        refine u_is (by kernel_rfl) (.pointer (some ⟨g62, 0, none⟩)) rfl rfl rfl rfl (fun W_ hW_ h1_ F_ => rfl) ?_
        refine u_is (by kernel_rfl) (.pointer (some ⟨g62, 0, none⟩)) rfl rfl rfl rfl (fun W_ hW_ h1_ F_ => rfl) ?_
        refine u_is (by kernel_rfl) (.pointer (some ⟨g62, 0, none⟩)) rfl rfl rfl rfl (fun W_ hW_ h1_ F_ => by simp [go_sem, sEv, sLook, nbeq, i64_w, -List.getD_eq_getElem?_getD]) ?_
        refine u_is (by kernel_rfl) (.pointer (some ⟨g62, 1, none⟩)) rfl rfl rfl rfl (fun W_ hW_ h1_ F_ => by simp [go_sem, sEv, sLook, nbeq, i64_w, -List.getD_eq_getElem?_getD, Try.underlying71]) ?_
        refine u_is (by kernel_rfl) (.slice A3 j c3) rfl rfl rfl rfl (fun W_ hW_ h1_ F_ => by have eb_ := Blk.on hM_ (h1_.2 (by kernel_rfl)); have e0_ := eb_.cellv (i := 1) (v := (.slice A3 j c3 : Value)) rfl; simp [go_sem, sEv, sLook, nbeq, i64_w, -List.getD_eq_getElem?_getD, e0_, Try.underlying35]) ?_
        refine u_is (by kernel_rfl) (.slice (some ad) out.length c24) rfl rfl rfl rfl (fun W_ hW_ h1_ F_ => rfl) ?_
        refine u_is (by kernel_rfl) (.int .i64 ((j : Nat) : Int)) rfl rfl rfl rfl (fun W_ hW_ h1_ F_ => rfl) ?_
        refine u_is (by kernel_rfl) (.pointer (some (ad.add j))) rfl rfl rfl rfl (fun W_ hW_ h1_ F_ => run_as (run_at_1 (P := Try.prog) (e := 32) (by kernel_rfl) (by kernel_rfl) j lj_ _)) ?_
        refine u_is (by kernel_rfl) (.slice A0 (out.getD j []).length c0) rfl rfl rfl rfl (fun W_ hW_ h1_ F_ => by have e0_ := cellOn hcl_ (h1_.2 (by kernel_rfl)); simp [go_sem, sEv, sLook, nbeq, i64_w, -List.getD_eq_getElem?_getD, e0_, Try.underlying32]) ?_
        refine u_is (by kernel_rfl) (.string (strOfNums (out.getD j []))) rfl rfl rfl rfl (fun W_ hW_ h1_ F_ => run_as (run_str_of (P := Try.prog) (e := 5) (by kernel_rfl) (by kernel_rfl) (by kernel_rfl) (Kd.C_below hC_ (h1_.2 (by kernel_rfl))))) ?_
        refine u_val (by kernel_rfl) (SlcSpec wL.heap.size 9 #[.string (strOfNums (out.getD j []))] 1) rfl rfl rfl rfl (fun W_ hW_ h1_ F_ => slc_gives _ _ _ _ (drew_kept hW_).1 (by kernel_rfl)) ?_
        rintro _ ⟨g69, rfl⟩
        refine u_app (OwnKSpec kSL 9 w.heap.size w1.heap.size (out.take j ++ ([(out.getD j [])] : List (List Int)))) (by kernel_rfl) rfl rfl rfl rfl (fun W_ hW_ h0_ F_ => own_app_k (d := kSL) w.heap.size w1.heap.size (.tmp 54) (.tmp 60) 35 9 (.string ByteArray.empty) 16 rfl (by kernel_rfl) (by kernel_rfl) rfl (show 0 < 1 by decide) (by decide) (fun _ _ h => h) rfl rfl (by have q_ := h0_.size; omega) (by omega) ⟨chain hB_ h0_, OwnK.on (d := kSL) hO_ h0_⟩ (OwnK.C (d := kSL) (scal_own (e := 9) (cap := 1) (xs := ([(out.getD j [])] : List (List Int))) 0 (slc_fact (F_ 10 _ _ rfl rfl)).2 (Nat.zero_le _) rfl rfl (by simp))) (by have q_ := h0_.size; omega) (by first | omega | (simp only [List.length_cons, List.length_nil]; omega))) ?_
        rintro _ ⟨A70, c71, rfl, hle72⟩
        refine u_tail ?_
        intro w73 hK74_ h75 F76
        have hK74 := drew_kept hK74_
        have hs_w73 := h75.size
        have hs1_w73 := hK74.1
        have hO77 : OwnK kSL 9 w73 w.heap.size w1.heap.size A70 (out.take j ++ ([(out.getD j [])] : List (List Int))).length c71 (out.take j ++ ([(out.getD j [])] : List (List Int))) := ownk_fact (F76 11 (OwnKSpec kSL 9 w.heap.size w1.heap.size (out.take j ++ ([(out.getD j [])] : List (List Int)))) (.slice A70 (out.take j ++ ([(out.getD j [])] : List (List Int))).length c71) (by kernel_rfl))
        clear F76
        have hx_ : (out.take j ++ ([(out.getD j [])] : List (List Int))) = out.take (j + 1) := (take_snoc out j lj_).symm
        have hn_ : (out.take j ++ ([(out.getD j [])] : List (List Int))).length = j + 1 := by rw [hx_, List.length_take]; omega
        rw [hx_] at hO77 hn_
        rw [hn_] at hO77
        have hk78 := Blk.kept hM_ hK74 (blk_own_ne (d := kSL) hO_ hM_ (by decide))
        have hk79 := Blk.kept hU_ hK74 (blk_own_ne (d := kSL) hO_ hU_ (by decide))
        have hL80 := own_kept_ty (d := (Kd.slice 5 (Kd.int .u8))) (d2 := kSL) hL_ hO_ (by decide) hK74
        simp only [hx_, hn_]
        refine rw_val (v := .pointer (some ⟨g62, 0, none⟩)) (w' := w73) rfl rfl rfl rfl (by simp [go_sem, sEv, sLook, nbeq, i64_w, -List.getD_eq_getElem?_getD]) ?_
        refine rw_val (v := .pointer (some ⟨g62, 1, none⟩)) (w' := w73) rfl rfl rfl rfl (by simp [go_sem, sEv, sLook, nbeq, i64_w, -List.getD_eq_getElem?_getD, Try.underlying71]) ?_
        have hb84 := hk78
        refine rw_store (g := g62) (i := 1) (l := [.slice A70 (j + 1) c71]) (cs' := #[.pointer (some ⟨u, 0, none⟩), .slice A70 (j + 1) c71]) rfl rfl rfl hb84 rfl (by have e0_ := hb84.cellv (i := 1) (v := (.slice A3 j c3 : Value)) rfl; have f0_ := hb84.frozen 1; simp [go_sem, sEv, sLook, nbeq, i64_w, -List.getD_eq_getElem?_getD, putCells, e0_, f0_, Try.underlying35]) ?_
        intro w81 hk82 hk83
        have hs_w81 := hk82.size
        refine rw_end ?_
        refine w_weaken (G' := [(5, .slice (some ad) out.length c24), (8, .pointer (some ⟨g62, 0, none⟩)), (9, .int .i64 ((j : Nat) : Int))]) ⟨rfl, rfl, rfl, trivial⟩ ?_
        refine w_blk ?_
        refine w_region ?_
        refine rw_val (v := .int .i64 ((j : Nat) : Int)) (w' := w81) rfl rfl rfl rfl rfl ?_
        refine rw_val (v := .int .i64 ((j + 1 : Nat) : Int)) (w' := w81) rfl rfl rfl rfl (by simp [go_sem, sEv, sLook, nbeq, i64_w, -List.getD_eq_getElem?_getD]; exact wrap_id (by omega) (by omega)) ?_
        refine rw_val (v := .int .i64 ((j + 1 : Nat) : Int)) (w' := w81) rfl rfl rfl rfl rfl ?_
        refine rw_end ?_
        exact w_back (m_ - 1) [(5, .slice (some ad) out.length c24), (8, .pointer (some ⟨g62, 0, none⟩)), (9, .int .i64 ((j + 1 : Nat) : Int))] (by omega) ⟨rfl, rfl, rfl, trivial⟩ ⟨j + 1, A70, c71, by omega, (hk82.below (by omega) h75), (Grow.keptS (Kept.ownS (d := kSL) hK_ hK74 hO_ (by omega)) (Grow.ofK hk82) (.inr (by omega))), (hk79.keep hk82 (by omega)), hk83, (OwnK.keepM (d := kSL) hO77 hk82 hk78 (by decide)), (OwnK.keepM (d := (Kd.slice 5 (Kd.int .u8))) hL80 hk82 hk78 (by decide)), by omega, rfl⟩
      · have l85 : ¬ (((j : Nat) : Int) < ((out.length : Nat) : Int)) := of_decide_eq_false cJ
        refine w_exit rfl ?_
        refine w_seq ?_
        refine w_region ?_
        refine rw_val (v := .pointer (some ⟨g62, 0, none⟩)) (w' := wL) rfl rfl rfl rfl rfl ?_
        refine rw_val (v := .pointer (some ⟨g62, 0, none⟩)) (w' := wL) rfl rfl rfl rfl rfl ?_
        refine rw_val (v := .int .i64 0) (w' := wL) rfl rfl rfl rfl rfl ?_
        refine rw_end ?_
        refine w_ret (post_ret2 rfl rfl rfl ?_)
        have ej_ : j = out.length := by omega
        have et_ : out.take j = out := by rw [ej_, List.take_length]
        have hO2_ := OwnK.full (d := kSL) hO_
        have hM2_ := hM_
        rw [et_] at hO2_
        rw [ej_] at hM2_
        exact ⟨out, n, (fun _ => hS26), hK_, qt_of hB0 hB_, .inr ⟨hE0_, g62, rfl, by omega, hU_, hu0, by omega, _, _, hM2_, Kd.R_mono hO2_ (fun q hq_ => hq_)⟩⟩
end Go.Proofs.Ytiiljpaedelhlaa.Tp
end
section
namespace Go.Proofs.Ytiiljpaedelhlaa.Tp
open Go.RowKit Go.Proofs.YtiiljpaedelhlaaW.PrintWords Go.Proofs.YtiiljpaedelhlaaW.PrintLast Go.Proofs.YtiiljpaedelhlaaW.PrintMore
open Go.Proofs.Ytiiljpaedelhlaa.Flow
set_option linter.unusedVariables false
set_option linter.unusedSimpArgs false
theorem info32_ : (Try.prog.info? 32).map (fun i => (i.zero, i.size, i.bytes)) = some (some (.slice none 0 0), 1, 24) := by kernel_rfl
theorem u8_mod (x : Int) : IntKind.u8.wrap x = x % 256 := by simp [IntKind.wrap, IntKind.bits, IntKind.signed] <;> omega
def mark (k j : Nat) : Int := ((29 * k + 5 * j + 3 : Nat) : Int) % 256
def mks (k n : Nat) : List Int := (List.range n).map (mark k)
theorem mks_len (k n : Nat) : (mks k n).length = n := by simp [mks]
theorem mks_get (k n j : Nat) (h : j < n) : (mks k n).getD j 0 = mark k j := by simp [mks, List.getD_eq_getElem?_getD, List.getElem?_range, h]
theorem mks_snoc (k n : Nat) : mks k (n + 1) = mks k n ++ [mark k n] := by simp [mks, List.range_succ]
theorem mks_of {k n : Nat} {ys : List Int} (hl : ys.length = n) (h : ∀ j, j < n → ys.getD j 0 = mark k j) : ys = mks k n := by
  apply List.ext_getElem
  · rw [hl, mks_len]
  · intro j h1 h2
    have h3 := h j (by omega)
    rw [List.getD_eq_getElem?_getD, List.getElem?_eq_getElem h1] at h3
    simp only [Option.getD_some] at h3
    rw [h3]
    simp [mks]
theorem cell_same {w w' : World} {a : Addr} (h : w'.heap[a.block]? = w.heap[a.block]?) : w'.cell? a = w.cell? a := by unfold World.cell?; rw [h]
def upd (ys : Nat → List Int) (k : Nat) (y : List Int) : Nat → List Int := fun i => if i = k then y else ys i
def updS (gv : Nat → Sh) (k : Nat) (s : Sh) : Nat → Sh := fun i => if i = k then s else gv i
section
variable (w0 w : World) (m : Nat) (sh : Nat → Sh)
def FarS (w W : World) (m : Nat) (sh : Nat → Sh) : Prop := ∀ q, q < w.heap.size → (∀ i, i < m → (sh i).nil = false → (sh i).g ≠ q) → W.heap[q]? = w.heap[q]?
def P1 (W : World) (ys : Nat → List Int) : Prop := Below w0.heap.size w0 W ∧ W.heap.size = w.heap.size ∧ FarS w W m sh ∧ ∀ i, i < m → LR 5 W (sh i) (ys i)
def P2 (k : Nat) (gv : Nat → Sh) (W : World) : Prop := Below w0.heap.size w0 W ∧ w.heap.size ≤ W.heap.size ∧ FarS w W m sh ∧ (∀ i, i < m → LR 5 W (sh i) (mks i (sh i).n)) ∧
  ∀ i, i < k → (gv i).nil = false ∧ (gv i).n = (sh i).n + 10 ∧ LR 5 W (gv i) (mks i ((sh i).n + 10)) ∧ (((sh i).nil = false ∧ (gv i).g = (sh i).g) ∨ w.heap.size ≤ (gv i).g)
end
section
variable {w0 w W W' : World} {m k : Nat} {sh gv : Nat → Sh} {ys : Nat → List Int}
theorem P1.put (h : P1 w0 w m sh W ys) (hd : ∀ i j, i < m → j < m → (sh i).nil = false → (sh j).nil = false → (sh i).g = (sh j).g → i = j) (hg0 : ∀ i, i < m → (sh i).nil = false → w0.heap.size ≤ (sh i).g)
    (hk : k < m) (hn : (sh k).nil = false) (hK : Keep (sh k).g W W') {y : List Int} (hy : LR 5 W' (sh k) y) : P1 w0 w m sh W' (upd ys k y) := by
  obtain ⟨h1, h2, h3, h4⟩ := h
  refine ⟨hK.below (hg0 k hk hn) h1, by rw [hK.size, h2], (fun q hq hqn => (hK.block q (fun e => hqn k hk hn e.symm)).trans (h3 q hq hqn)), fun i hi => ?_⟩
  unfold upd
  by_cases he : i = k
  · rw [if_pos he, he]
    exact hy
  · rw [if_neg he]
    exact (h4 i hi).keep hK (fun hi2 e => he (hd i k hi hk hi2 hn e))
theorem P2.on (h : P2 w0 w m sh k gv W) (hb : Below W.heap.size W W') : P2 w0 w m sh k gv W' := by
  obtain ⟨h1, h2, h3, h4, h5⟩ := h
  exact ⟨chain h1 hb, Nat.le_trans h2 hb.size, (fun q hq hqn => (hb.block q (by omega)).trans (h3 q hq hqn)), fun i hi => (h4 i hi).on hb, fun i hi => ⟨(h5 i hi).1, (h5 i hi).2.1, (h5 i hi).2.2.1.on hb, (h5 i hi).2.2.2⟩⟩
theorem P2.keep (h : P2 w0 w m sh k gv W) {g : Nat} (hK : Keep g W W') (h1' : ∀ i, i < m → (sh i).nil = false → (sh i).g ≠ g ∨ LR 5 W' (sh i) (mks i (sh i).n)) (h2' : ∀ i, i < k → (gv i).g ≠ g) (h3' : ∀ q, q < w.heap.size → (∀ i, i < m → (sh i).nil = false → (sh i).g ≠ q) → q ≠ g) (h4' : w0.heap.size ≤ g) : P2 w0 w m sh k gv W' := by
  obtain ⟨h1, h2, h3, h4, h5⟩ := h
  refine ⟨hK.below h4' h1, by rw [hK.size]; exact h2, (fun q hq hqn => (hK.block q (h3' q hq hqn)).trans (h3 q hq hqn)), fun i hi => ?_, fun i hi => ⟨(h5 i hi).1, (h5 i hi).2.1, (h5 i hi).2.2.1.keep hK (fun _ => h2' i hi), (h5 i hi).2.2.2⟩⟩
  cases hn : (sh i).nil with
  | true => exact (h4 i hi).stay (fun h => by rw [hn] at h; cases h)
  | false =>
    rcases h1' i hi hn with h6 | h6
    · exact (h4 i hi).keep hK (fun _ => h6)
    · exact h6
theorem P2.grown {v : Value} {xss : List (List Value)} {base : Nat} {ok : Nat → Prop} (h : P2 w0 w m sh k gv W) (hR : (Kd.raw 1).R 32 W base ok v xss) (hok : ∀ q, ok q → w.heap.size ≤ q) (hB : Below w0.heap.size w0 W') (hG : W.grownBy W' v.ownBlock) : P2 w0 w m sh k gv W' := by
  obtain ⟨h1, h2, h3, h4, h5⟩ := h
  have far : ∀ {s : Sh} {y : List Int}, LR 5 W s y → LR 5 W' s y := fun {s y} hs => hs.stay (fun hn => by
    obtain ⟨cur, hb, _⟩ := hs.2.2 hn
    refine hG.block s.g hb.lt (fun e => ?_)
    obtain ⟨cells, ht⟩ := Kd.R_typed hR s.g e.symm
    have hb' : W.heap[s.g]? = some (.cells cur 5 (0, 0)) := hb
    rw [hb'] at ht
    injection ht with ht
    injection ht with _ ht
    cases ht)
  exact ⟨hB, Nat.le_trans h2 hG.size, (fun q hq hqn => (hG.block q (by omega) (fun e => by have := hok q (hR.1 q e.symm); omega)).trans (h3 q hq hqn)), fun i hi => far (h4 i hi), fun i hi => ⟨(h5 i hi).1, (h5 i hi).2.1, far (h5 i hi).2.2.1, (h5 i hi).2.2.2⟩⟩
theorem raw_keep {v : Value} {xss : List (List Value)} {base : Nat} {ok : Nat → Prop} {s : Sh} {y : List Int} (hR : (Kd.raw 1).R 32 W base ok v xss) (hs : LR 5 W s y) (hn : s.nil = false) (hK : Keep s.g W W') : (Kd.raw 1).R 32 W' base ok v xss := by
  obtain ⟨cur, hb, _⟩ := hs.2.2 hn
  have hb' : W.heap[s.g]? = some (.cells cur 5 (0, 0)) := hb
  refine Kd.R_grown2 hR rfl hK.grown (fun q hq hv => ?_)
  obtain rfl := Option.some.inj hq
  obtain ⟨cells, ht⟩ := Kd.R_typed hR s.g hv.symm
  rw [hb'] at ht
  injection ht with ht
  injection ht with _ ht
  cases ht
end
theorem raw_empty {w : World} {g base : Nat} {ok : Nat → Prop} (hb : Blk w g 32 #[]) (hbase : base ≤ g) (hok : ok g) : (Kd.raw 1).R 32 w base ok (.slice (some ⟨g, 0, none⟩) 0 0) [] :=
  ⟨fun q hq => by simp only [Value.ownBlock, Option.some.injEq] at hq; rw [← hq]; exact hok, [], ⟨rfl, Or.inr ⟨g, 0, #[], rfl, hbase, hb, Nat.le_refl _, by simp [maxLen], rfl, rfl⟩⟩, ⟨rfl, fun j p hj => by simp at hj⟩⟩
section
variable {P : Program} {cx : Cx} {n : Nat} {Q : Exit → Act → World → Prop} {st : List Itm} {G : Env} {w : World} {ops : Array Oper} {o : Oper} {rest : List Oper}
theorem rw_append_raw {dst : Nat} {w0 : World} (base : Nat) (hg : o.guard = none) (hd : o.dst = some dst) (hdn : Nat.blt dst n = true) (s x : Operand) (hks : knownO G s = true) (hkx : knownO G x = true) (t e : TypeId) (bytes : Nat)
    (ho : o.op = .call { callee := .builtin .append, args := #[s, x], argTypes := #[t, t] }) (ht : P.underlying t = some (.slice e)) (hinfo : (P.info? e).map (fun i => (i.zero, i.size, i.bytes)) = some (some (.slice none 0 0), 1, bytes)) (hb0 : 0 < bytes)
    {xss : List (List Value)} {v u : Value} {g : Nat} {t2 : TypeId} {ok : Nat → Prop} (hs : sEv G s = v) (hx : sEv G x = .slice (some ⟨g, 0, none⟩) 1 1)
    (HO : (Kd.raw 1).R e w base ok v xss) (hblk : Blk w g t2 #[u]) (hu : u.oneCell' = true) (hfresh : ∀ q, w.heap.size ≤ q → ok q)
    (HB : Below base w0 w) (hbase : base ≤ w.heap.size) (hl : (xss.length + 1) * bytes ≤ 140737488355328)
    (kk : ∀ A' c' w', (Kd.raw 1).R e w' base ok (.slice A' (xss.length + 1) c') (xss ++ [[u]]) → Below base w0 w' → w.grownBy w' v.ownBlock → RW P ops cx n Q rest ((dst, .slice A' (xss.length + 1) c') :: G) w') : RW P ops cx n Q (o :: rest) G w := fun a ha => by
  refine Kd.R_append_rows (Kd.raw 1) (Rr := fun y cs => y = [u] ∧ cs = [u]) base hg s x t e (.slice none 0 0) bytes ho ht hinfo rfl (show 0 < 1 by decide) hb0 v xss [[u]] (some ⟨g, 0, none⟩) 1 1 ok (fun _ => False) ((eval_known ha hks).trans hs) ((eval_known ha hkx).trans hx) HO ?_ ?_ (fun q hq => hq.elim) hfresh HB hbase hl ?_
  · refine ⟨rfl, by decide, fun _ => ⟨_, rfl, fun j p hj => ?_⟩⟩
    match j, hj with
    | 0, hj =>
      obtain rfl := Option.some.inj hj
      refine ⟨[u], rfl, ⟨rfl, rfl⟩, fun i z hz => ?_⟩
      match i, hz with
      | 0, hz =>
        obtain rfl := Option.some.inj hz
        exact hblk.cellv rfl
      | i + 1, hz => simp at hz
    | j + 1, hj => simp at hj
  · rintro y cs ⟨rfl, rfl⟩
    exact ⟨rfl, rfl, fun z hz => by rw [List.mem_singleton.1 hz]; exact hu⟩
  · intro v1 w1 h1 h2 h3 _
    obtain ⟨A', c', rfl, _, _⟩ := Kd.R_reads h1
    have e1 : (xss ++ [[u]]).length = xss.length + 1 := by simp
    rw [hd]
    rw [e1] at h1 ⊢
    exact kk A' c' w1 h1 h2 h3 _ (ha.put hdn _)
end
def gcells (gv : Nat → Sh) (k : Nat) : List (List Value) := (List.range k).map fun i => [V (gv i)]
theorem gcells_len (gv : Nat → Sh) (k : Nat) : (gcells gv k).length = k := by simp [gcells]
theorem gcells_snoc (gv : Nat → Sh) (k : Nat) (s : Sh) : gcells (updS gv k s) (k + 1) = gcells gv k ++ [[V s]] := by
  unfold gcells updS
  rw [List.range_succ, List.map_append]
  congr 1
  · refine List.map_congr_left fun i hi => ?_
    have := List.mem_range.1 hi
    rw [if_neg (by omega)]
  · simp
theorem gcells_at {W : World} {A : Option Addr} {m c base : Nat} {ok : Nat → Prop} {gv : Nat → Sh} (hR : (Kd.raw 1).R 32 W base ok (.slice A m c) (gcells gv m)) (k : Nat) (hk : k < m) : ∃ ad, A = some ad ∧ W.cell? (ad.add k) = some (V (gv k)) := by
  have h := (Kd.R_reads' hR).2.2
  obtain ⟨ad, cs, h1, h2, h3, h4⟩ := Kd.C_get h ([] : List Value) (k : Int) (by omega) (by rw [gcells_len]; omega)
  have e1 : (gcells gv m).getD ((k : Int)).toNat [] = [V (gv k)] := by
    unfold gcells
    rw [List.getD_eq_getElem?_getD]
    simp [List.getElem?_range, hk]
  have h3' : cs = [V (gv k)] := by rw [← e1]; exact h3.1
  subst h3'
  have h5 := h4 0 _ rfl
  refine ⟨ad, h1, ?_⟩
  have e2 : ((k : Int)).toNat * (Kd.raw 1).sz + 0 = k := by
    show ((k : Int)).toNat * 1 + 0 = k
    omega
  rw [e2] at h5
  exact h5
theorem upd_mark {ys : Nat → List Int} {k j : Nat} (hl : j < (ys k).length) (h : ∀ i, i < j → (ys k).getD i 0 = mark k i) : ∀ i, i < j + 1 → (upd ys k ((ys k).set j (mark k j)) k).getD i 0 = mark k i := fun i hi => by
  unfold upd
  rw [if_pos rfl]
  by_cases he : i = j
  · subst he
    simp [List.getD_eq_getElem?_getD, hl]
  · have := h i (by omega)
    rw [List.getD_eq_getElem?_getD] at this ⊢
    rw [List.getElem?_set_ne (by omega)]
    exact this
set_option maxHeartbeats 4000000 in
theorem apart_calls (w0 w : World) (hB : Below w0.heap.size w0 w) (ob m lc : Nat) (sh : Nat → Sh) (xs : Nat → List Int) (hL : ∀ k, k < m → w.cell? ⟨ob, k, none⟩ = some (V (sh k))) (hob : ob < w.heap.size) (hobn : ∀ i, i < m → (sh i).nil = false → (sh i).g ≠ ob) (hd : ∀ i j, i < m → j < m → (sh i).nil = false → (sh j).nil = false → (sh i).g = (sh j).g → i = j) (hR : ∀ i, i < m → LR 5 w (sh i) (xs i)) (hg0 : ∀ i, i < m → (sh i).nil = false → w0.heap.size ≤ (sh i).g) (hm : m ≤ 2000000) (hn : ∀ i, i < m → (sh i).n ≤ 1000000) :
    Calls Try.prog 33 #[.slice (some ⟨ob, 0, none⟩) m lc] w fun e w' => e = .returned (.bool true) ∧ Below w0.heap.size w0 w' ∧ FarS w w' m sh ∧ w.heap.size ≤ w'.heap.size := by
  refine calls_flow Try.func33 rfl 117 rfl (Nat.le_of_ble_eq_true rfl) [(0, .slice (some ⟨ob, 0, none⟩) m lc)] ?_ ?_
  · intro t v h; exact args_look rfl t v h
  refine w_seq ?_
  refine w_region ?_
  refine rw_val (v := .bool false) (w' := w) rfl rfl rfl rfl rfl ?_
  refine rw_end ?_
  refine w_seq ?_
  refine w_seq ?_
  refine w_region ?_
  refine rw_val (v := .slice (some ⟨ob, 0, none⟩) m lc) (w' := w) rfl rfl rfl rfl rfl ?_
  refine rw_val (v := .int .i64 (m : Int)) (w' := w) rfl rfl rfl rfl (by simp [go_sem, sEv, sLook, nbeq, i64_w, -List.length_flatten]) ?_
  refine rw_val (v := .int .i64 0) (w' := w) rfl rfl rfl rfl rfl ?_
  refine rw_end ?_
  refine w_block ?_
  refine w_loop (fun m_ G W_ => ∃ (k : Nat) (ys : Nat → List Int), k + m_ = m ∧ P1 w0 w m sh W_ ys ∧ (∀ i, i < k → ys i = mks i (sh i).n) ∧ G = [(0, .slice (some ⟨ob, 0, none⟩) m lc), (13, .slice (some ⟨ob, 0, none⟩) m lc), (14, .int .i64 (m : Int)), (15, .int .i64 (k : Int))]) m [(0, .slice (some ⟨ob, 0, none⟩) m lc), (13, .slice (some ⟨ob, 0, none⟩) m lc), (14, .int .i64 (m : Int)), (15, .int .i64 0)] ⟨0, xs, by omega, ⟨hB, rfl, (fun _ _ _ => rfl), hR⟩, fun i hi => by omega, rfl⟩ ⟨rfl, rfl, rfl, rfl, trivial⟩ ?_
  rintro m1_ G w_1 ⟨k, ys, hkm, hP, hys, rfl⟩
  have hB1_ := hP.1
  have hs_w_1 := hP.2.1
  refine w_seq ?_
  refine w_region ?_
  refine rw_val (v := .bool (decide ((k : Int) < (m : Int)))) (w' := w_1) rfl rfl rfl rfl (by simp [go_sem, sEv, sLook, nbeq, i64_w, -List.length_flatten]) ?_
  refine rw_end ?_
  refine w_seq ?_
  refine w_cond rfl rfl (fun cK => ?_) (fun cK => ?_)
  · refine w_skip ?_
    refine w_seq ?_
    refine w_block ?_
    refine w_seq ?_
    refine w_region ?_
    refine rw_val (v := .int .i64 (k : Int)) (w' := w_1) rfl rfl rfl rfl rfl ?_
    refine rw_val (v := .pointer (some ⟨ob, k, none⟩)) (w' := w_1) rfl rfl rfl rfl (by have lko_ := of_decide_eq_true cK; simp [go_sem, sEv, sLook, nbeq, i64_w, -List.length_flatten, Try.underlying22, add_plain]; omega) ?_
    refine rw_val (v := .slice (adrSh (sh k)) ((sh k).n) ((sh k).c)) (w' := w_1) rfl rfl rfl rfl (by have lko_ := of_decide_eq_true cK; have ho_ := ((cell_same (a := ⟨ob, k, none⟩) (hP.2.2.1 ob hob hobn)).trans (hL k (by omega))); simp [go_sem, sEv, sLook, nbeq, i64_w, -List.length_flatten, ho_, V]) ?_
    refine rw_val (v := .int .i64 (k : Int)) (w' := w_1) rfl rfl rfl rfl rfl ?_
    refine rw_val (v := .slice (adrSh (sh k)) ((sh k).n) ((sh k).c)) (w' := w_1) rfl rfl rfl rfl rfl ?_
    refine rw_end ?_
    refine w_weaken (G' := [(0, .slice (some ⟨ob, 0, none⟩) m lc), (3, .int .i64 (k : Int)), (4, .slice (adrSh (sh k)) ((sh k).n) ((sh k).c)), (13, .slice (some ⟨ob, 0, none⟩) m lc), (14, .int .i64 (m : Int)), (15, .int .i64 (k : Int))]) ⟨rfl, rfl, rfl, rfl, rfl, rfl, trivial⟩ ?_
    refine w_seq ?_
    refine w_region ?_
    refine rw_val (v := .slice (adrSh (sh k)) ((sh k).n) ((sh k).c)) (w' := w_1) rfl rfl rfl rfl rfl ?_
    refine rw_val (v := .int .i64 ((sh k).n : Int)) (w' := w_1) rfl rfl rfl rfl (by simp [go_sem, sEv, sLook, nbeq, i64_w, -List.length_flatten]) ?_
    refine rw_val (v := .int .i64 0) (w' := w_1) rfl rfl rfl rfl rfl ?_
    refine rw_end ?_
    refine w_block ?_
    have lk0_ := of_decide_eq_true cK
    have hnk_ := hn k (by omega)
    refine w_loop (fun m_ G W_ => ∃ (j : Nat) (ys2 : Nat → List Int), j + m_ = (sh k).n ∧ P1 w0 w m sh W_ ys2 ∧ (∀ i, i < k → ys2 i = mks i (sh i).n) ∧ (∀ i, i < j → (ys2 k).getD i 0 = mark k i) ∧ G = [(0, .slice (some ⟨ob, 0, none⟩) m lc), (13, .slice (some ⟨ob, 0, none⟩) m lc), (14, .int .i64 (m : Int)), (15, .int .i64 (k : Int)), (3, .int .i64 (k : Int)), (4, V (sh k)), (21, .int .i64 ((sh k).n : Int)), (22, .int .i64 (j : Int))]) (sh k).n [(0, .slice (some ⟨ob, 0, none⟩) m lc), (13, .slice (some ⟨ob, 0, none⟩) m lc), (14, .int .i64 (m : Int)), (15, .int .i64 (k : Int)), (3, .int .i64 (k : Int)), (4, V (sh k)), (21, .int .i64 ((sh k).n : Int)), (22, .int .i64 0)] ⟨0, ys, by omega, hP, hys, fun i hi => by omega, rfl⟩ ⟨rfl, rfl, rfl, rfl, rfl, rfl, rfl, rfl, trivial⟩ ?_
    rintro m2_ G w_2 ⟨j, ys2, hjm, hP2, hys2, hmk, rfl⟩
    have hB2_ := hP2.1
    have hs_w_2 := hP2.2.1
    refine w_seq ?_
    refine w_region ?_
    refine rw_val (v := .bool (decide ((j : Int) < ((sh k).n : Int)))) (w' := w_2) rfl rfl rfl rfl (by simp [go_sem, sEv, sLook, nbeq, i64_w, -List.length_flatten]) ?_
    refine rw_end ?_
    refine w_seq ?_
    refine w_cond rfl rfl (fun cJ => ?_) (fun cJ => ?_)
    · refine w_skip ?_
      refine w_seq ?_
      refine w_block ?_
      refine w_seq ?_
      refine w_region ?_
      refine rw_val (v := .int .i64 (j : Int)) (w' := w_2) rfl rfl rfl rfl rfl ?_
      refine rw_val (v := .int .i64 (j : Int)) (w' := w_2) rfl rfl rfl rfl rfl ?_
      refine rw_end ?_
      refine w_region ?_
      refine rw_val (v := .slice (adrSh (sh k)) ((sh k).n) ((sh k).c)) (w' := w_2) rfl rfl rfl rfl rfl ?_
      refine rw_val (v := .int .i64 (j : Int)) (w' := w_2) rfl rfl rfl rfl rfl ?_
      refine rw_val (v := .int .i64 (k : Int)) (w' := w_2) rfl rfl rfl rfl rfl ?_
      refine rw_val (v := .int .i64 ((29 * k : Nat) : Int)) (w' := w_2) rfl rfl rfl rfl (by simp [go_sem, sEv, sLook, nbeq, i64_w, -List.length_flatten]; first | (exact wrap_id (by omega) (by omega)) | (rw [wrap_id (by omega) (by omega)]; omega) | omega) ?_
      refine rw_val (v := .int .i64 (j : Int)) (w' := w_2) rfl rfl rfl rfl rfl ?_
      refine rw_val (v := .int .i64 ((5 * j : Nat) : Int)) (w' := w_2) rfl rfl rfl rfl (by simp [go_sem, sEv, sLook, nbeq, i64_w, -List.length_flatten]; first | (exact wrap_id (by omega) (by omega)) | (rw [wrap_id (by omega) (by omega)]; omega) | omega) ?_
      refine rw_val (v := .int .i64 ((29 * k + 5 * j : Nat) : Int)) (w' := w_2) rfl rfl rfl rfl (by simp [go_sem, sEv, sLook, nbeq, i64_w, -List.length_flatten]; first | (exact wrap_id (by omega) (by omega)) | (rw [wrap_id (by omega) (by omega)]; omega) | omega) ?_
      refine rw_val (v := .int .i64 ((29 * k + 5 * j + 3 : Nat) : Int)) (w' := w_2) rfl rfl rfl rfl (by simp [go_sem, sEv, sLook, nbeq, i64_w, -List.length_flatten]; first | (exact wrap_id (by omega) (by omega)) | (rw [wrap_id (by omega) (by omega)]; omega) | omega) ?_
      refine rw_val (v := .int .u8 (mark k j)) (w' := w_2) rfl rfl rfl rfl (by simp [go_sem, sEv, sLook, nbeq, i64_w, -List.length_flatten]; rw [u8_mod]; unfold mark; congr 1) ?_
      have lj0_ := of_decide_eq_true cJ
      obtain ⟨hnil_, hcell_, hfro_⟩ := (hP2.2.2.2 k (by omega)).at j (by omega)
      have hA_ := adrSh_some hnil_
      refine rw_val (v := .pointer (some ⟨(sh k).g, j, none⟩)) (w' := w_2) rfl rfl rfl rfl (by simp [go_sem, sEv, sLook, nbeq, i64_w, -List.length_flatten, Try.underlying32, hA_, add_plain]; omega) ?_
      obtain ⟨cur, hbk_, hput_⟩ := (hP2.2.2.2 k (by omega)).put j (by omega) (mark k j)
      refine rw_store (g := (sh k).g) (i := j) (l := [.int .u8 (mark k j)]) (cs' := cur.setIfInBounds j (.int .u8 (mark k j))) rfl rfl rfl hbk_ rfl (by simp [go_sem, sEv, sLook, nbeq, i64_w, -List.length_flatten, putCells, hcell_, hfro_]) ?_
      intro w_3 hK_ hb3_
      have hP3_ := hP2.put hd hg0 (by omega) hnil_ hK_ (hput_ _ hb3_)
      have hB3_ := hP3_.1
      refine rw_end ?_
      refine w_weaken (G' := [(0, .slice (some ⟨ob, 0, none⟩) m lc), (3, .int .i64 (k : Int)), (4, .slice (adrSh (sh k)) ((sh k).n) ((sh k).c)), (13, .slice (some ⟨ob, 0, none⟩) m lc), (14, .int .i64 (m : Int)), (15, .int .i64 (k : Int)), (21, .int .i64 ((sh k).n : Int)), (22, .int .i64 (j : Int))]) ⟨rfl, rfl, rfl, rfl, rfl, rfl, rfl, rfl, trivial⟩ ?_
      refine w_blk ?_
      refine w_region ?_
      refine rw_val (v := .int .i64 ((j + 1 : Nat) : Int)) (w' := w_3) rfl rfl rfl rfl (by simp [go_sem, sEv, sLook, nbeq, i64_w, -List.length_flatten]; exact wrap_id (by omega) (by omega)) ?_
      refine rw_val (v := .int .i64 ((j + 1 : Nat) : Int)) (w' := w_3) rfl rfl rfl rfl rfl ?_
      refine rw_end ?_
      have lj_ := of_decide_eq_true cJ
      exact w_back (m2_ - 1) [(0, .slice (some ⟨ob, 0, none⟩) m lc), (13, .slice (some ⟨ob, 0, none⟩) m lc), (14, .int .i64 (m : Int)), (15, .int .i64 (k : Int)), (3, .int .i64 (k : Int)), (4, V (sh k)), (21, .int .i64 ((sh k).n : Int)), (22, .int .i64 ((j + 1 : Nat) : Int))] (by omega) ⟨rfl, rfl, rfl, rfl, rfl, rfl, rfl, rfl, trivial⟩ ⟨j + 1, upd ys2 k ((ys2 k).set j (mark k j)), by omega, hP3_, fun i hi => by unfold upd; rw [if_neg (by omega)]; exact hys2 i hi, fun i hi => upd_mark (by rw [(hP2.2.2.2 k (by omega)).1]; omega) hmk i hi, rfl⟩
    · have lj_ := of_decide_eq_false cJ
      have hlk_ := (hP2.2.2.2 k (by omega)).1
      have hyk_ := mks_of hlk_ (fun i hi => hmk i (by omega))
      have hys3_ : ∀ i, i < k + 1 → ys2 i = mks i (sh i).n := fun i hi => by
        by_cases he : i = k
        · rw [he]; exact hyk_
        · exact hys2 i (by omega)
      refine w_exit rfl ?_
      refine w_blk ?_
      refine w_region ?_
      refine rw_val (v := .int .i64 ((k + 1 : Nat) : Int)) (w' := w_2) rfl rfl rfl rfl (by simp [go_sem, sEv, sLook, nbeq, i64_w, -List.length_flatten]; exact wrap_id (by omega) (by omega)) ?_
      refine rw_val (v := .int .i64 ((k + 1 : Nat) : Int)) (w' := w_2) rfl rfl rfl rfl rfl ?_
      refine rw_end ?_
      have lk_ := of_decide_eq_true cK
      exact w_back (m1_ - 1) [(0, .slice (some ⟨ob, 0, none⟩) m lc), (13, .slice (some ⟨ob, 0, none⟩) m lc), (14, .int .i64 (m : Int)), (15, .int .i64 ((k + 1 : Nat) : Int))] (by omega) ⟨rfl, rfl, rfl, rfl, trivial⟩ ⟨k + 1, ys2, by omega, hP2, hys3_, rfl⟩
  · have lk_ := of_decide_eq_false cK
    have hke_ : k = m := by omega
    refine w_exit rfl ?_
    refine w_seq ?_
    refine w_region ?_
    refine rw_new (cs := #[]) (t := 32) (fun g => .slice (some ⟨g, 0, none⟩) 0 0) rfl rfl rfl rfl (by kernel_rfl) ?_
    intro g2 w3 hg7 hz6 hb4 hk5
    have hm_ : ∀ i, i < m → LR 5 w3 (sh i) (mks i (sh i).n) := fun i hi => by rw [← hys i (by omega)]; exact (hP.2.2.2 i hi).on hb4
    have hs0_ := hb4.size
    have hbw_ := hB.size
    have hPa_ : P2 w0 w m sh 0 sh w3 := ⟨chain hP.1 hb4, by omega, (fun q hq hqn => (hb4.block q (by omega)).trans (hP.2.2.1 q hq hqn)), hm_, fun i hi => by omega⟩
    have hGa_ : (Kd.raw 1).R 32 w3 w0.heap.size (fun q => w.heap.size ≤ q) (.slice (some ⟨g2, 0, none⟩) 0 0) (gcells sh 0) := raw_empty hk5 (by omega) (by omega)
    have hBa_ := hPa_.1
    refine rw_val (v := .slice (some ⟨g2, 0, none⟩) 0 0) (w' := w3) rfl rfl rfl rfl rfl ?_
    refine rw_end ?_
    refine w_seq ?_
    refine w_seq ?_
    refine w_region ?_
    refine rw_val (v := .slice (some ⟨ob, 0, none⟩) m lc) (w' := w3) rfl rfl rfl rfl rfl ?_
    refine rw_val (v := .int .i64 (m : Int)) (w' := w3) rfl rfl rfl rfl (by simp [go_sem, sEv, sLook, nbeq, i64_w, -List.length_flatten]) ?_
    refine rw_val (v := .int .i64 0) (w' := w3) rfl rfl rfl rfl rfl ?_
    refine rw_end ?_
    refine w_block ?_
    refine w_loop (fun m_ G W_ => ∃ (k : Nat) (gv : Nat → Sh) (A6 : Option Addr) (c6 : Nat), k + m_ = m ∧ P2 w0 w m sh k gv W_ ∧ (Kd.raw 1).R 32 W_ w0.heap.size (fun q => w.heap.size ≤ q) (.slice A6 k c6) (gcells gv k) ∧ G = [(0, .slice (some ⟨ob, 0, none⟩) m lc), (38, .slice (some ⟨ob, 0, none⟩) m lc), (39, .int .i64 (m : Int)), (40, .int .i64 (k : Int)), (6, .slice A6 k c6)]) m [(0, .slice (some ⟨ob, 0, none⟩) m lc), (38, .slice (some ⟨ob, 0, none⟩) m lc), (39, .int .i64 (m : Int)), (40, .int .i64 0), (6, .slice (some ⟨g2, 0, none⟩) 0 0)] ⟨0, sh, _, _, by omega, hPa_, hGa_, rfl⟩ ⟨rfl, rfl, rfl, rfl, rfl, trivial⟩ ?_
    rintro m3_ G w_3 ⟨k, gv, A6, c6, hkm, hP, hGr, rfl⟩
    have hB3_ := hP.1
    have hs_w_3 := hP.2.1
    refine w_seq ?_
    refine w_region ?_
    refine rw_val (v := .bool (decide ((k : Int) < (m : Int)))) (w' := w_3) rfl rfl rfl rfl (by simp [go_sem, sEv, sLook, nbeq, i64_w, -List.length_flatten]) ?_
    refine rw_end ?_
    refine w_seq ?_
    refine w_cond rfl rfl (fun cK => ?_) (fun cK => ?_)
    · refine w_skip ?_
      refine w_seq ?_
      refine w_block ?_
      refine w_seq ?_
      refine w_region ?_
      refine rw_val (v := .int .i64 (k : Int)) (w' := w_3) rfl rfl rfl rfl rfl ?_
      refine rw_val (v := .pointer (some ⟨ob, k, none⟩)) (w' := w_3) rfl rfl rfl rfl (by have lko_ := of_decide_eq_true cK; simp [go_sem, sEv, sLook, nbeq, i64_w, -List.length_flatten, Try.underlying22, add_plain]; omega) ?_
      refine rw_val (v := .slice (adrSh (sh k)) ((sh k).n) ((sh k).c)) (w' := w_3) rfl rfl rfl rfl (by have lko_ := of_decide_eq_true cK; have ho_ := ((cell_same (a := ⟨ob, k, none⟩) (hP.2.2.1 ob hob hobn)).trans (hL k (by omega))); simp [go_sem, sEv, sLook, nbeq, i64_w, -List.length_flatten, ho_, V]) ?_
      refine rw_val (v := .int .i64 (k : Int)) (w' := w_3) rfl rfl rfl rfl rfl ?_
      refine rw_val (v := .slice (adrSh (sh k)) ((sh k).n) ((sh k).c)) (w' := w_3) rfl rfl rfl rfl rfl ?_
      refine rw_end ?_
      refine w_weaken (G' := [(0, .slice (some ⟨ob, 0, none⟩) m lc), (6, .slice A6 k c6), (7, .int .i64 (k : Int)), (8, .slice (adrSh (sh k)) ((sh k).n) ((sh k).c)), (38, .slice (some ⟨ob, 0, none⟩) m lc), (39, .int .i64 (m : Int)), (40, .int .i64 (k : Int))]) ⟨rfl, rfl, rfl, rfl, rfl, rfl, rfl, trivial⟩ ?_
      refine w_seq ?_
      refine w_region ?_
      refine rw_val (v := .slice (adrSh (sh k)) ((sh k).n) ((sh k).c)) (w' := w_3) rfl rfl rfl rfl rfl ?_
      refine rw_val (v := .int .i64 ((sh k).n : Int)) (w' := w_3) rfl rfl rfl rfl (by simp [go_sem, sEv, sLook, nbeq, i64_w, -List.length_flatten]) ?_
      refine rw_val (v := .int .i64 ((sh k).n : Int)) (w' := w_3) rfl rfl rfl rfl rfl ?_
      refine rw_end ?_
      refine w_seq ?_
      refine w_block ?_
      have lk0_ := of_decide_eq_true cK
      have hnk_ := hn k (by omega)
      refine w_loop (fun m_ G W_ => ∃ s : Sh, s.n + m_ = (sh k).n + 10 ∧ (sh k).n ≤ s.n ∧ P2 w0 w m sh k gv W_ ∧ (Kd.raw 1).R 32 W_ w0.heap.size (fun q => w.heap.size ≤ q) (.slice A6 k c6) (gcells gv k) ∧ LR 5 W_ s (mks k s.n) ∧ (s.nil = false → (((sh k).nil = false ∧ s.g = (sh k).g) ∨ (w.heap.size ≤ s.g ∧ ∀ i, i < k → (gv i).g ≠ s.g))) ∧ G = [(0, .slice (some ⟨ob, 0, none⟩) m lc), (38, .slice (some ⟨ob, 0, none⟩) m lc), (39, .int .i64 (m : Int)), (40, .int .i64 (k : Int)), (6, .slice A6 k c6), (7, .int .i64 (k : Int)), (8, V s), (9, .int .i64 ((sh k).n : Int))]) 10 [(0, .slice (some ⟨ob, 0, none⟩) m lc), (38, .slice (some ⟨ob, 0, none⟩) m lc), (39, .int .i64 (m : Int)), (40, .int .i64 (k : Int)), (6, .slice A6 k c6), (7, .int .i64 (k : Int)), (8, V (sh k)), (9, .int .i64 ((sh k).n : Int))] ⟨sh k, rfl, Nat.le_refl _, hP, hGr, hP.2.2.2.1 k (by omega), fun h => .inl ⟨h, rfl⟩, rfl⟩ ⟨rfl, rfl, rfl, rfl, rfl, rfl, rfl, rfl, trivial⟩ ?_
      rintro m4_ G w_4 ⟨s, hsm, hsn, hP4, hG4, hL4, hS4, rfl⟩
      have hB4_ := hP4.1
      have hs_w_4 := hP4.2.1
      refine w_seq ?_
      refine w_seq ?_
      refine w_region ?_
      refine rw_val (v := .slice (adrSh s) s.n s.c) (w' := w_4) rfl rfl rfl rfl rfl ?_
      refine rw_val (v := .int .i64 (s.n : Int)) (w' := w_4) rfl rfl rfl rfl (by simp [go_sem, sEv, sLook, nbeq, i64_w, -List.length_flatten]) ?_
      refine rw_val (v := .int .i64 ((sh k).n : Int)) (w' := w_4) rfl rfl rfl rfl rfl ?_
      refine rw_val (v := .int .i64 (((sh k).n + 10 : Nat) : Int)) (w' := w_4) rfl rfl rfl rfl (by simp [go_sem, sEv, sLook, nbeq, i64_w, -List.length_flatten]; first | (exact wrap_id (by omega) (by omega)) | (rw [wrap_id (by omega) (by omega)]; omega) | omega) ?_
      refine rw_val (v := .bool (decide ((s.n : Int) < (((sh k).n + 10 : Nat) : Int)))) (w' := w_4) rfl rfl rfl rfl (by simp [go_sem, sEv, sLook, nbeq, i64_w, -List.length_flatten]) ?_
      refine rw_end ?_
      refine w_weaken (G' := [(0, .slice (some ⟨ob, 0, none⟩) m lc), (6, .slice A6 k c6), (7, .int .i64 (k : Int)), (8, .slice (adrSh s) s.n s.c), (9, .int .i64 ((sh k).n : Int)), (38, .slice (some ⟨ob, 0, none⟩) m lc), (39, .int .i64 (m : Int)), (40, .int .i64 (k : Int)), (51, .bool (decide ((s.n : Int) < (((sh k).n + 10 : Nat) : Int))))]) ⟨rfl, rfl, rfl, rfl, rfl, rfl, rfl, rfl, rfl, trivial⟩ ?_
      refine w_cond rfl rfl (fun cG => ?_) (fun cG => ?_)
      · refine w_skip ?_
        refine w_block ?_
        refine w_region ?_
        refine rw_val (v := .slice (adrSh s) s.n s.c) (w' := w_4) rfl rfl rfl rfl rfl ?_
        refine rw_val (v := .int .i64 (k : Int)) (w' := w_4) rfl rfl rfl rfl rfl ?_
        refine rw_val (v := .int .i64 ((29 * k : Nat) : Int)) (w' := w_4) rfl rfl rfl rfl (by simp [go_sem, sEv, sLook, nbeq, i64_w, -List.length_flatten]; first | (exact wrap_id (by omega) (by omega)) | (rw [wrap_id (by omega) (by omega)]; omega) | omega) ?_
        refine rw_val (v := .slice (adrSh s) s.n s.c) (w' := w_4) rfl rfl rfl rfl rfl ?_
        refine rw_val (v := .int .i64 (s.n : Int)) (w' := w_4) rfl rfl rfl rfl (by simp [go_sem, sEv, sLook, nbeq, i64_w, -List.length_flatten]) ?_
        refine rw_val (v := .int .i64 ((5 * s.n : Nat) : Int)) (w' := w_4) rfl rfl rfl rfl (by simp [go_sem, sEv, sLook, nbeq, i64_w, -List.length_flatten]; first | (exact wrap_id (by omega) (by omega)) | (rw [wrap_id (by omega) (by omega)]; omega) | omega) ?_
        refine rw_val (v := .int .i64 ((29 * k + 5 * s.n : Nat) : Int)) (w' := w_4) rfl rfl rfl rfl (by simp [go_sem, sEv, sLook, nbeq, i64_w, -List.length_flatten]; first | (exact wrap_id (by omega) (by omega)) | (rw [wrap_id (by omega) (by omega)]; omega) | omega) ?_
        refine rw_val (v := .int .i64 ((29 * k + 5 * s.n + 3 : Nat) : Int)) (w' := w_4) rfl rfl rfl rfl (by simp [go_sem, sEv, sLook, nbeq, i64_w, -List.length_flatten]; first | (exact wrap_id (by omega) (by omega)) | (rw [wrap_id (by omega) (by omega)]; omega) | omega) ?_
        refine rw_val (v := .int .u8 (mark k s.n)) (w' := w_4) rfl rfl rfl rfl (by simp [go_sem, sEv, sLook, nbeq, i64_w, -List.length_flatten]; rw [u8_mod]; unfold mark; congr 1) ?_
        refine rw_new (cs := #[.int .u8 (mark k s.n)]) (t := 5) (fun g => .slice (some ⟨g, 0, none⟩) 1 1) rfl rfl rfl rfl (by kernel_rfl) ?_
        intro gx_ w_5 hgx_ hzx_ hbx_ hkx_
        have hP5_ := hP4.on hbx_
        have hG5_ := Kd.R_below hG4 hbx_
        have hL5_ := hL4.on hbx_
        have hB5_ := hP5_.1
        have hs5_ := hP5_.2.1
        have lg_ := of_decide_eq_true cG
        refine rw_append_sh rfl rfl rfl (.tmp 52) (.tmp 61) rfl rfl 32 5 rfl (by kernel_rfl) info5 (sl := s) rfl rfl hL5_ hkx_ (by omega) ?_
        intro s2 w_6 hnil2_ hn2_ hL6_ hor_
        have hP6_ : P2 w0 w m sh k gv w_6 := by
          rcases hor_ with ⟨hsnil_, hg2_, hK_, cur, hc1_, hc2_⟩ | ⟨hge_, hBl_⟩
          · have hS_ := hS4 hsnil_
            refine hP5_.keep hK_ (fun i hi hin => ?_) (fun i hi e => ?_) (fun q hq hqn e => ?_) ?_
            · by_cases he : i = k
              · rcases hS_ with ⟨hkn_, hkg_⟩ | ⟨hf1_, hf2_⟩
                · right
                  rw [he]
                  have hq_ := hP5_.2.2.2.1 k (by omega)
                  refine ⟨hq_.1, hq_.2.1, fun _ => ?_⟩
                  obtain ⟨cur2, r1, r2, r3, r4, r5⟩ := hq_.2.2 hkn_
                  have ec_ : cur2 = cur := by
                    have r6 : w_5.heap[(sh k).g]? = some (.cells cur2 5 (0, 0)) := r1
                    have r7 : w_5.heap[s.g]? = some (.cells cur 5 (0, 0)) := hc1_
                    rw [hkg_, r6] at r7
                    injection r7 with r7
                    injection r7
                  subst ec_
                  exact ⟨_, by rw [← hkg_]; exact hc2_, by simp [r2], r3, r4, set_far r5 s.n (by rw [mks_len]; exact hsn)⟩
                · left
                  intro e
                  have := (hR i hi).lt hin
                  omega
              · left
                intro e
                rcases hS_ with ⟨hkn_, hkg_⟩ | ⟨hf1_, hf2_⟩
                · exact he (hd i k hi (by omega) hin hkn_ (by rw [e, hkg_]))
                · have := (hR i hi).lt hin
                  omega
            · obtain ⟨t1, t2, t3, t4⟩ := hP5_.2.2.2.2 i hi
              rcases hS_ with ⟨hkn_, hkg_⟩ | ⟨hf1_, hf2_⟩
              · rcases t4 with ⟨t5, t6⟩ | t5
                · have := hd i k (by omega) (by omega) t5 hkn_ (by rw [← t6, e, hkg_])
                  omega
                · have := (hR k (by omega)).lt hkn_
                  omega
              · exact hf2_ i hi e
            · rcases hS_ with ⟨hkn_, hkg_⟩ | ⟨hf1_, hf2_⟩
              · exact hqn k (by omega) hkn_ (by rw [e, hkg_])
              · omega
            · rcases hS_ with ⟨hkn_, hkg_⟩ | ⟨hf1_, hf2_⟩
              · rw [hkg_]
                exact hg0 k (by omega) hkn_
              · have := hB.size
                omega
          · exact hP5_.on hBl_
        have hG6_ : (Kd.raw 1).R 32 w_6 w0.heap.size (fun q => w.heap.size ≤ q) (.slice A6 k c6) (gcells gv k) := by
          rcases hor_ with ⟨hsnil_, hg2_, hK_, _⟩ | ⟨hge_, hBl_⟩
          · exact raw_keep hG5_ hL5_ hsnil_ hK_
          · exact Kd.R_below hG5_ hBl_
        have hS6_ : s2.nil = false → (((sh k).nil = false ∧ s2.g = (sh k).g) ∨ (w.heap.size ≤ s2.g ∧ ∀ i, i < k → (gv i).g ≠ s2.g)) := fun _ => by
          rcases hor_ with ⟨hsnil_, hg2_, hK_, _⟩ | ⟨hge_, hBl_⟩
          · rw [hg2_]
            exact hS4 hsnil_
          · right
            refine ⟨by omega, fun i hi e => ?_⟩
            obtain ⟨t1, t2, t3, t4⟩ := hP5_.2.2.2.2 i hi
            have := t3.lt t1
            omega
        have hB6_ := hP6_.1
        refine rw_val (v := .slice (adrSh s2) s2.n s2.c) (w' := w_6) rfl rfl rfl rfl rfl ?_
        refine rw_end ?_
        refine w_weaken (G' := [(0, .slice (some ⟨ob, 0, none⟩) m lc), (6, .slice A6 k c6), (7, .int .i64 (k : Int)), (8, .slice (adrSh s2) s2.n s2.c), (9, .int .i64 ((sh k).n : Int)), (38, .slice (some ⟨ob, 0, none⟩) m lc), (39, .int .i64 (m : Int)), (40, .int .i64 (k : Int))]) ⟨rfl, rfl, rfl, rfl, rfl, rfl, rfl, rfl, trivial⟩ ?_
        refine w_blk ?_
        exact w_back (m4_ - 1) [(0, .slice (some ⟨ob, 0, none⟩) m lc), (38, .slice (some ⟨ob, 0, none⟩) m lc), (39, .int .i64 (m : Int)), (40, .int .i64 (k : Int)), (6, .slice A6 k c6), (7, .int .i64 (k : Int)), (8, V s2), (9, .int .i64 ((sh k).n : Int))] (by omega) ⟨rfl, rfl, rfl, rfl, rfl, rfl, rfl, rfl, trivial⟩ ⟨s2, by omega, by omega, hP6_, hG6_, by rw [hn2_, mks_snoc]; exact hL6_, hS6_, rfl⟩
      · refine w_exit rfl ?_
        refine w_region ?_
        refine rw_val (v := .slice A6 k c6) (w' := w_4) rfl rfl rfl rfl rfl ?_
        refine rw_val (v := .slice (adrSh s) s.n s.c) (w' := w_4) rfl rfl rfl rfl rfl ?_
        refine rw_new (cs := #[V s]) (t := 32) (fun g => .slice (some ⟨g, 0, none⟩) 1 1) rfl rfl rfl rfl (by kernel_rfl) ?_
        intro gy_ w_7 hgy_ hzy_ hby_ hky_
        have hP7_ := hP4.on hby_
        have hG7_ := Kd.R_below hG4 hby_
        have hL7_ := hL4.on hby_
        have hB7_ := hP7_.1
        have hs7_ := hP7_.2.1
        have lg_ := of_decide_eq_false cG
        have hse_ : s.n = (sh k).n + 10 := by omega
        have hsp_ := hL7_.pos (by omega)
        have hbw_ := hB.size
        refine rw_append_raw (w0 := w0) w0.heap.size rfl rfl rfl (.tmp 63) (.tmp 65) rfl rfl 22 32 24 rfl (by kernel_rfl) info32_ (by decide) rfl rfl hG7_ hky_ rfl (fun q hq => by omega) hB7_ (by omega) (by rw [gcells_len]; omega) ?_
        intro A8 c8 w_8 hG8_ hB8_ hgr_
        rw [gcells_len]
        rw [gcells_len] at hG8_
        have hP8_ := hP7_.grown hG7_ (fun q hq => hq) hB8_ hgr_
        have hL8_ : LR 5 w_8 s (mks k s.n) := hL7_.stay (fun hn => by
          obtain ⟨cur, hb, _⟩ := hL7_.2.2 hn
          refine hgr_.block s.g hb.lt (fun e => ?_)
          obtain ⟨cells, ht⟩ := Kd.R_typed hG7_ s.g e.symm
          have hb' : w_7.heap[s.g]? = some (.cells cur 5 (0, 0)) := hb
          rw [hb'] at ht
          injection ht with ht
          injection ht with _ ht
          cases ht)
        have hPn_ : P2 w0 w m sh (k + 1) (updS gv k s) w_8 := ⟨hP8_.1, hP8_.2.1, hP8_.2.2.1, hP8_.2.2.2.1, fun i hi => by
          unfold updS
          by_cases he : i = k
          · rw [if_pos he, he]
            refine ⟨hsp_, hse_, by rw [← hse_]; exact hL8_, ?_⟩
            rcases hS4 hsp_ with h | h
            · exact .inl h
            · exact .inr h.1
          · rw [if_neg he]
            exact hP8_.2.2.2.2 i (by omega)⟩
        have hGn_ : (Kd.raw 1).R 32 w_8 w0.heap.size (fun q => w.heap.size ≤ q) (.slice A8 (k + 1) c8) (gcells (updS gv k s) (k + 1)) := by rw [gcells_snoc]; exact hG8_
        refine rw_val (v := .slice A8 (k + 1) c8) (w' := w_8) rfl rfl rfl rfl rfl ?_
        refine rw_end ?_
        refine w_weaken (G' := [(0, .slice (some ⟨ob, 0, none⟩) m lc), (6, .slice A8 (k + 1) c8), (38, .slice (some ⟨ob, 0, none⟩) m lc), (39, .int .i64 (m : Int)), (40, .int .i64 (k : Int))]) ⟨rfl, rfl, rfl, rfl, rfl, trivial⟩ ?_
        refine w_blk ?_
        refine w_region ?_
        refine rw_val (v := .int .i64 ((k + 1 : Nat) : Int)) (w' := w_8) rfl rfl rfl rfl (by simp [go_sem, sEv, sLook, nbeq, i64_w, -List.length_flatten]; exact wrap_id (by omega) (by omega)) ?_
        refine rw_val (v := .int .i64 ((k + 1 : Nat) : Int)) (w' := w_8) rfl rfl rfl rfl rfl ?_
        refine rw_end ?_
        exact w_back (m3_ - 1) [(0, .slice (some ⟨ob, 0, none⟩) m lc), (38, .slice (some ⟨ob, 0, none⟩) m lc), (39, .int .i64 (m : Int)), (40, .int .i64 ((k + 1 : Nat) : Int)), (6, .slice A8 (k + 1) c8)] (by omega) ⟨rfl, rfl, rfl, rfl, rfl, trivial⟩ ⟨k + 1, updS gv k s, _, _, by omega, hPn_, hGn_, rfl⟩
    · have lk_ := of_decide_eq_false cK
      obtain rfl : m = k := by omega
      refine w_exit rfl ?_
      refine w_seq ?_
      refine w_seq ?_
      refine w_region ?_
      refine rw_val (v := .slice A6 m c6) (w' := w_3) rfl rfl rfl rfl rfl ?_
      refine rw_val (v := .int .i64 (m : Int)) (w' := w_3) rfl rfl rfl rfl (by simp [go_sem, sEv, sLook, nbeq, i64_w, -List.length_flatten]) ?_
      refine rw_val (v := .int .i64 0) (w' := w_3) rfl rfl rfl rfl rfl ?_
      refine rw_end ?_
      refine w_block ?_
      refine w_loop (fun m_ G W_ => ∃ k : Nat, k + m_ = m ∧ Below w_3.heap.size w_3 W_ ∧ G = [(0, .slice (some ⟨ob, 0, none⟩) m lc), (68, .slice A6 m c6), (69, .int .i64 (m : Int)), (70, .int .i64 (k : Int))]) m [(0, .slice (some ⟨ob, 0, none⟩) m lc), (68, .slice A6 m c6), (69, .int .i64 (m : Int)), (70, .int .i64 0)] ⟨0, by omega, Below.refl _ _, rfl⟩ ⟨rfl, rfl, rfl, rfl, trivial⟩ ?_
      rintro m5_ G w_5 ⟨k, hkm, hB5_, rfl⟩
      have hBz_ := chain hP.1 hB5_
      have hs_w_5 := hB5_.size
      refine w_seq ?_
      refine w_region ?_
      refine rw_val (v := .bool (decide ((k : Int) < (m : Int)))) (w' := w_5) rfl rfl rfl rfl (by simp [go_sem, sEv, sLook, nbeq, i64_w, -List.length_flatten]) ?_
      refine rw_end ?_
      refine w_seq ?_
      refine w_cond rfl rfl (fun cK => ?_) (fun cK => ?_)
      · refine w_skip ?_
        refine w_seq ?_
        refine w_block ?_
        refine w_seq ?_
        refine w_region ?_
        refine rw_val (v := .int .i64 (k : Int)) (w' := w_5) rfl rfl rfl rfl rfl ?_
        have lk0_ := of_decide_eq_true cK
        obtain ⟨adg, hAg_, hcg_⟩ := gcells_at hGr k (by omega)
        obtain ⟨g1_, g2_, g3_, g4_⟩ := hP.2.2.2.2 k (by omega)
        have hnk_ := hn k (by omega)
        subst hAg_
        refine rw_val (v := .pointer (some (adg.add k))) (w' := w_5) rfl rfl rfl rfl (by simp [go_sem, sEv, sLook, nbeq, i64_w, -List.length_flatten, Try.underlying22]; omega) ?_
        refine rw_val (v := .slice (adrSh (gv k)) ((gv k).n) ((gv k).c)) (w' := w_5) rfl rfl rfl rfl (by have hg_ := cellOn hcg_ hB5_; simp [go_sem, sEv, sLook, nbeq, i64_w, -List.length_flatten, hg_, V]) ?_
        refine rw_val (v := .int .i64 (k : Int)) (w' := w_5) rfl rfl rfl rfl rfl ?_
        refine rw_val (v := .slice (adrSh (gv k)) ((gv k).n) ((gv k).c)) (w' := w_5) rfl rfl rfl rfl rfl ?_
        refine rw_end ?_
        refine w_weaken (G' := [(0, .slice (some ⟨ob, 0, none⟩) m lc), (10, .int .i64 (k : Int)), (11, .slice (adrSh (gv k)) ((gv k).n) ((gv k).c)), (68, .slice (some adg) m c6), (69, .int .i64 (m : Int)), (70, .int .i64 (k : Int))]) ⟨rfl, rfl, rfl, rfl, rfl, rfl, trivial⟩ ?_
        refine w_seq ?_
        refine w_region ?_
        refine rw_val (v := .slice (adrSh (gv k)) ((gv k).n) ((gv k).c)) (w' := w_5) rfl rfl rfl rfl rfl ?_
        refine rw_val (v := .int .i64 (((sh k).n + 10 : Nat) : Int)) (w' := w_5) rfl rfl rfl rfl (by simp [go_sem, sEv, sLook, nbeq, i64_w, -List.length_flatten]; omega) ?_
        refine rw_val (v := .int .i64 0) (w' := w_5) rfl rfl rfl rfl rfl ?_
        refine rw_end ?_
        refine w_block ?_
        refine w_loop (fun m_ G W_ => ∃ j : Nat, j + m_ = (sh k).n + 10 ∧ Below w_3.heap.size w_3 W_ ∧ G = [(0, .slice (some ⟨ob, 0, none⟩) m lc), (68, .slice (some adg) m c6), (69, .int .i64 (m : Int)), (70, .int .i64 (k : Int)), (10, .int .i64 (k : Int)), (11, V (gv k)), (76, .int .i64 (((sh k).n + 10 : Nat) : Int)), (77, .int .i64 (j : Int))]) ((sh k).n + 10) [(0, .slice (some ⟨ob, 0, none⟩) m lc), (68, .slice (some adg) m c6), (69, .int .i64 (m : Int)), (70, .int .i64 (k : Int)), (10, .int .i64 (k : Int)), (11, V (gv k)), (76, .int .i64 (((sh k).n + 10 : Nat) : Int)), (77, .int .i64 0)] ⟨0, by omega, hB5_, rfl⟩ ⟨rfl, rfl, rfl, rfl, rfl, rfl, rfl, rfl, trivial⟩ ?_
        rintro m6_ G w_6 ⟨j, hjm, hB6_, rfl⟩
        have hPw_ := hP.on hB6_
        have hs_w_6 := hB6_.size
        refine w_seq ?_
        refine w_region ?_
        refine rw_val (v := .bool (decide ((j : Int) < (((sh k).n + 10 : Nat) : Int)))) (w' := w_6) rfl rfl rfl rfl (by simp [go_sem, sEv, sLook, nbeq, i64_w, -List.length_flatten]) ?_
        refine rw_end ?_
        refine w_seq ?_
        refine w_cond rfl rfl (fun cQ => ?_) (fun cQ => ?_)
        · refine w_skip ?_
          refine w_seq ?_
          refine w_block ?_
          refine w_seq ?_
          refine w_region ?_
          have lq0_ := of_decide_eq_true cQ
          obtain ⟨hgn_, hgc_, hgf_⟩ := (hPw_.2.2.2.2 k (by omega)).2.2.1.at j (by omega)
          rw [mks_get k _ j (by omega)] at hgc_
          have hAg2_ := adrSh_some hgn_
          have hsc_ : j < (sh k).n → (sh k).nil = false ∧ w_6.cell? ⟨(sh k).g, j, none⟩ = some (.int .u8 (mark k j)) := fun h_ => by obtain ⟨p1_, p2_, _⟩ := (hPw_.2.2.2.1 k (by omega)).at j h_; rw [mks_get k _ j h_] at p2_; exact ⟨p1_, p2_⟩
          refine rw_val (v := .int .i64 (j : Int)) (w' := w_6) rfl rfl rfl rfl rfl ?_
          refine rw_val (v := .int .i64 (j : Int)) (w' := w_6) rfl rfl rfl rfl rfl ?_
          refine rw_end ?_
          refine w_seq ?_
          rcases bcase (decide ((j : Int) < ((sh k).n : Int))) with cJ | cJ
          · refine w_draw (M := [0, 0, 3, 7, 0, 16, 0, 64, 240, 496, 1008, 2047, 4095, 8191, 8191, 8191, 57343, 122879, 253951, 524287, 1048575, 2097151, 2097151, 8388607, 16777215, 2097151, 67108863, 134217727, 2097151, 2097151, 807403519, 1881145343, 4294967295, 8589934591, 17179869183]) (ss := [Is (.slice (adrSh (gv k)) ((gv k).n) ((gv k).c)), Is (.int .i64 (j : Int)), Is (.pointer (some ⟨(gv k).g, j, none⟩)), Is (.int .u8 (mark k j)), Is (.int .i64 (k : Int)), Is (.int .i64 ((29 * k : Nat) : Int)), Is (.int .i64 (j : Int)), Is (.int .i64 ((5 * j : Nat) : Int)), Is (.int .i64 ((29 * k + 5 * j : Nat) : Int)), Is (.int .i64 ((29 * k + 5 * j + 3 : Nat) : Int)), Is (.int .u8 (mark k j)), Is (.bool false), Is (.bool false), Is (.int .i64 (j : Int)), Is (.slice (some ⟨ob, 0, none⟩) m lc), Is (.int .i64 (k : Int)), Is (.pointer (some ⟨ob, k, none⟩)), Is (.slice (adrSh (sh k)) ((sh k).n) ((sh k).c)), Is (.int .i64 ((sh k).n : Int)), Is (.bool (decide ((j : Int) < ((sh k).n : Int)))), Is (.bool (decide ((j : Int) < ((sh k).n : Int)))), Is undef, Is undef, Is undef, Is undef, Is undef, Is undef, Is undef, Is undef, Is undef, Is undef, Is undef, Is undef, Is (.bool false), Is (.bool false)]) rfl (by decide +kernel) ?_
            refine t_is (.slice (adrSh (gv k)) ((gv k).n) ((gv k).c)) rfl rfl rfl rfl (fun W_ hW_ F_ => rfl) ?_
            refine t_is (.int .i64 (j : Int)) rfl rfl rfl rfl (fun W_ hW_ F_ => rfl) ?_
            refine t_is (.pointer (some ⟨(gv k).g, j, none⟩)) rfl rfl rfl rfl (fun W_ hW_ F_ => by simp [go_sem, sEv, sLook, nbeq, i64_w, -List.length_flatten, Try.underlying32, hAg2_, add_plain]; omega) ?_
            refine t_is (.int .u8 (mark k j)) rfl rfl rfl rfl (fun W_ hW_ F_ => by have e_ := cellOn hgc_ (below_of_drew hW_); simp [go_sem, sEv, sLook, nbeq, i64_w, -List.length_flatten, e_]) ?_
            refine t_is (.int .i64 (k : Int)) rfl rfl rfl rfl (fun W_ hW_ F_ => rfl) ?_
            refine t_is (.int .i64 ((29 * k : Nat) : Int)) rfl rfl rfl rfl (fun W_ hW_ F_ => (by simp [go_sem, sEv, sLook, nbeq, i64_w, -List.length_flatten]; first | (exact wrap_id (by omega) (by omega)) | (rw [wrap_id (by omega) (by omega)]; omega) | omega)) ?_
            refine t_is (.int .i64 (j : Int)) rfl rfl rfl rfl (fun W_ hW_ F_ => rfl) ?_
            refine t_is (.int .i64 ((5 * j : Nat) : Int)) rfl rfl rfl rfl (fun W_ hW_ F_ => (by simp [go_sem, sEv, sLook, nbeq, i64_w, -List.length_flatten]; first | (exact wrap_id (by omega) (by omega)) | (rw [wrap_id (by omega) (by omega)]; omega) | omega)) ?_
            refine t_is (.int .i64 ((29 * k + 5 * j : Nat) : Int)) rfl rfl rfl rfl (fun W_ hW_ F_ => (by simp [go_sem, sEv, sLook, nbeq, i64_w, -List.length_flatten]; first | (exact wrap_id (by omega) (by omega)) | (rw [wrap_id (by omega) (by omega)]; omega) | omega)) ?_
            refine t_is (.int .i64 ((29 * k + 5 * j + 3 : Nat) : Int)) rfl rfl rfl rfl (fun W_ hW_ F_ => (by simp [go_sem, sEv, sLook, nbeq, i64_w, -List.length_flatten]; first | (exact wrap_id (by omega) (by omega)) | (rw [wrap_id (by omega) (by omega)]; omega) | omega)) ?_
            refine t_is (.int .u8 (mark k j)) rfl rfl rfl rfl (fun W_ hW_ F_ => (by simp [go_sem, sEv, sLook, nbeq, i64_w, -List.length_flatten]; rw [u8_mod]; unfold mark; congr 1)) ?_
            refine t_is (.bool false) rfl rfl rfl rfl (fun W_ hW_ F_ => by simp [go_sem, sEv, sLook, nbeq, i64_w, -List.length_flatten]) ?_
            refine t_is (.bool false) rfl rfl rfl rfl (fun W_ hW_ F_ => rfl) ?_
            refine t_gis (c := false) (.int .i64 (j : Int)) rfl rfl rfl rfl rfl rfl rfl (fun W_ hW_ F_ => rfl) ?_
            refine t_gis (c := false) (.slice (some ⟨ob, 0, none⟩) m lc) rfl rfl rfl rfl rfl rfl rfl (fun W_ hW_ F_ => rfl) ?_
            refine t_gis (c := false) (.int .i64 (k : Int)) rfl rfl rfl rfl rfl rfl rfl (fun W_ hW_ F_ => rfl) ?_
            refine t_gis (c := false) (.pointer (some ⟨ob, k, none⟩)) rfl rfl rfl rfl rfl rfl rfl (fun W_ hW_ F_ => (by have lko_ := of_decide_eq_true cK; simp [go_sem, sEv, sLook, nbeq, i64_w, -List.length_flatten, Try.underlying22, add_plain]; omega)) ?_
            refine t_gis (c := false) (.slice (adrSh (sh k)) ((sh k).n) ((sh k).c)) rfl rfl rfl rfl rfl rfl rfl (fun W_ hW_ F_ => (by have lko_ := of_decide_eq_true cK; have ho_ := (cellOn ((cell_same (a := ⟨ob, k, none⟩) (hPw_.2.2.1 ob hob hobn)).trans (hL k (by omega))) (below_of_drew hW_)); simp [go_sem, sEv, sLook, nbeq, i64_w, -List.length_flatten, ho_, V])) ?_
            refine t_gis (c := false) (.int .i64 ((sh k).n : Int)) rfl rfl rfl rfl rfl rfl rfl (fun W_ hW_ F_ => (by simp [go_sem, sEv, sLook, nbeq, i64_w, -List.length_flatten])) ?_
            refine t_gis (c := false) (.bool (decide ((j : Int) < ((sh k).n : Int)))) rfl rfl rfl rfl rfl rfl rfl (fun W_ hW_ F_ => by simp [go_sem, sEv, sLook, nbeq, i64_w, -List.length_flatten]) ?_
            refine t_gis (c := false) (.bool (decide ((j : Int) < ((sh k).n : Int)))) rfl rfl rfl rfl rfl rfl rfl (fun W_ hW_ F_ => rfl) ?_
            refine t_off (c := decide ((j : Int) < ((sh k).n : Int))) rfl rfl rfl (by first | (rw [cJ]; rfl) | simp [cJ]) rfl rfl ?_
            refine t_off (c := decide ((j : Int) < ((sh k).n : Int))) rfl rfl rfl (by first | (rw [cJ]; rfl) | simp [cJ]) rfl rfl ?_
            refine t_off (c := decide ((j : Int) < ((sh k).n : Int))) rfl rfl rfl (by first | (rw [cJ]; rfl) | simp [cJ]) rfl rfl ?_
            refine t_off (c := decide ((j : Int) < ((sh k).n : Int))) rfl rfl rfl (by first | (rw [cJ]; rfl) | simp [cJ]) rfl rfl ?_
            refine t_off (c := decide ((j : Int) < ((sh k).n : Int))) rfl rfl rfl (by first | (rw [cJ]; rfl) | simp [cJ]) rfl rfl ?_
            refine t_off (c := decide ((j : Int) < ((sh k).n : Int))) rfl rfl rfl (by first | (rw [cJ]; rfl) | simp [cJ]) rfl rfl ?_
            refine t_off (c := decide ((j : Int) < ((sh k).n : Int))) rfl rfl rfl (by first | (rw [cJ]; rfl) | simp [cJ]) rfl rfl ?_
            refine t_off (c := decide ((j : Int) < ((sh k).n : Int))) rfl rfl rfl (by first | (rw [cJ]; rfl) | simp [cJ]) rfl rfl ?_
            refine t_off (c := decide ((j : Int) < ((sh k).n : Int))) rfl rfl rfl (by first | (rw [cJ]; rfl) | simp [cJ]) rfl rfl ?_
            refine t_off (c := decide ((j : Int) < ((sh k).n : Int))) rfl rfl rfl (by first | (rw [cJ]; rfl) | simp [cJ]) rfl rfl ?_
            refine t_off (c := decide ((j : Int) < ((sh k).n : Int))) rfl rfl rfl (by first | (rw [cJ]; rfl) | simp [cJ]) rfl rfl ?_
            refine t_off (c := decide ((j : Int) < ((sh k).n : Int))) rfl rfl rfl (by first | (rw [cJ]; rfl) | simp [cJ]) rfl rfl ?_
            refine t_gis (c := false) (.bool false) rfl rfl rfl rfl rfl rfl rfl (fun W_ hW_ F_ => by first | (simp [go_sem, sEv, sLook, nbeq, i64_w, -List.length_flatten, cJ]; done) | (simp [go_sem, sEv, sLook, nbeq, i64_w, -List.length_flatten] <;> omega) | (simp [go_sem, sEv, sLook, nbeq, i64_w, -List.length_flatten]; intro h_; exact absurd (by omega) h_) | (rw [cJ]; simp [go_sem, sEv, sLook, nbeq, i64_w, -List.length_flatten]; done)) ?_
            refine t_is (.bool false) rfl rfl rfl rfl (fun W_ hW_ F_ => by simp [go_sem, sEv, sLook, nbeq, i64_w, -List.length_flatten]) ?_
            refine t_end ?_
            intro w10 hb11_ F12
            have hb11 := below_of_drew hb11_
            have hs_w10 := hb11.size
            refine w_weaken (G' := [(0, .slice (some ⟨ob, 0, none⟩) m lc), (10, .int .i64 (k : Int)), (11, .slice (adrSh (gv k)) ((gv k).n) ((gv k).c)), (68, .slice (some adg) m c6), (69, .int .i64 (m : Int)), (70, .int .i64 (k : Int)), (76, .int .i64 (((sh k).n + 10 : Nat) : Int)), (77, .int .i64 (j : Int)), (114, .bool false)]) ⟨rfl, rfl, rfl, rfl, rfl, rfl, rfl, rfl, rfl, trivial⟩ ?_
            refine w_cond_f rfl rfl rfl ?_
            refine w_skip ?_
            refine w_blk ?_
            refine w_region ?_
            refine rw_val (v := .int .i64 ((j + 1 : Nat) : Int)) (w' := w10) rfl rfl rfl rfl (by simp [go_sem, sEv, sLook, nbeq, i64_w, -List.length_flatten]; exact wrap_id (by omega) (by omega)) ?_
            refine rw_val (v := .int .i64 ((j + 1 : Nat) : Int)) (w' := w10) rfl rfl rfl rfl rfl ?_
            refine rw_end ?_
            have lq_ := of_decide_eq_true cQ
            exact w_back (m6_ - 1) [(0, .slice (some ⟨ob, 0, none⟩) m lc), (68, .slice (some adg) m c6), (69, .int .i64 (m : Int)), (70, .int .i64 (k : Int)), (10, .int .i64 (k : Int)), (11, V (gv k)), (76, .int .i64 (((sh k).n + 10 : Nat) : Int)), (77, .int .i64 ((j + 1 : Nat) : Int))] (by omega) ⟨rfl, rfl, rfl, rfl, rfl, rfl, rfl, rfl, trivial⟩ ⟨j + 1, by omega, (chain hB6_ hb11), rfl⟩
          · refine w_draw (M := [0, 0, 3, 7, 0, 16, 0, 64, 240, 496, 1008, 2047, 4095, 8191, 8191, 8191, 57343, 122879, 253951, 524287, 1048575, 2097151, 2097151, 8388607, 16777215, 2097151, 67108863, 134217727, 2097151, 2097151, 807403519, 1881145343, 4294967295, 8589934591, 17179869183]) (ss := [Is (.slice (adrSh (gv k)) ((gv k).n) ((gv k).c)), Is (.int .i64 (j : Int)), Is (.pointer (some ⟨(gv k).g, j, none⟩)), Is (.int .u8 (mark k j)), Is (.int .i64 (k : Int)), Is (.int .i64 ((29 * k : Nat) : Int)), Is (.int .i64 (j : Int)), Is (.int .i64 ((5 * j : Nat) : Int)), Is (.int .i64 ((29 * k + 5 * j : Nat) : Int)), Is (.int .i64 ((29 * k + 5 * j + 3 : Nat) : Int)), Is (.int .u8 (mark k j)), Is (.bool false), Is (.bool false), Is (.int .i64 (j : Int)), Is (.slice (some ⟨ob, 0, none⟩) m lc), Is (.int .i64 (k : Int)), Is (.pointer (some ⟨ob, k, none⟩)), Is (.slice (adrSh (sh k)) ((sh k).n) ((sh k).c)), Is (.int .i64 ((sh k).n : Int)), Is (.bool (decide ((j : Int) < ((sh k).n : Int)))), Is (.bool (decide ((j : Int) < ((sh k).n : Int)))), Is (.slice (some ⟨ob, 0, none⟩) m lc), Is (.int .i64 (k : Int)), Is (.pointer (some ⟨ob, k, none⟩)), Is (.slice (adrSh (sh k)) ((sh k).n) ((sh k).c)), Is (.int .i64 (j : Int)), Is (.pointer (some ⟨(sh k).g, j, none⟩)), Is (.int .u8 (mark k j)), Is (.slice (adrSh (gv k)) ((gv k).n) ((gv k).c)), Is (.int .i64 (j : Int)), Is (.pointer (some ⟨(gv k).g, j, none⟩)), Is (.int .u8 (mark k j)), Is (.bool false), Is (.bool false), Is (.bool false)]) rfl (by decide +kernel) ?_
            refine t_is (.slice (adrSh (gv k)) ((gv k).n) ((gv k).c)) rfl rfl rfl rfl (fun W_ hW_ F_ => rfl) ?_
            refine t_is (.int .i64 (j : Int)) rfl rfl rfl rfl (fun W_ hW_ F_ => rfl) ?_
            refine t_is (.pointer (some ⟨(gv k).g, j, none⟩)) rfl rfl rfl rfl (fun W_ hW_ F_ => by simp [go_sem, sEv, sLook, nbeq, i64_w, -List.length_flatten, Try.underlying32, hAg2_, add_plain]; omega) ?_
            refine t_is (.int .u8 (mark k j)) rfl rfl rfl rfl (fun W_ hW_ F_ => by have e_ := cellOn hgc_ (below_of_drew hW_); simp [go_sem, sEv, sLook, nbeq, i64_w, -List.length_flatten, e_]) ?_
            refine t_is (.int .i64 (k : Int)) rfl rfl rfl rfl (fun W_ hW_ F_ => rfl) ?_
            refine t_is (.int .i64 ((29 * k : Nat) : Int)) rfl rfl rfl rfl (fun W_ hW_ F_ => (by simp [go_sem, sEv, sLook, nbeq, i64_w, -List.length_flatten]; first | (exact wrap_id (by omega) (by omega)) | (rw [wrap_id (by omega) (by omega)]; omega) | omega)) ?_
            refine t_is (.int .i64 (j : Int)) rfl rfl rfl rfl (fun W_ hW_ F_ => rfl) ?_
            refine t_is (.int .i64 ((5 * j : Nat) : Int)) rfl rfl rfl rfl (fun W_ hW_ F_ => (by simp [go_sem, sEv, sLook, nbeq, i64_w, -List.length_flatten]; first | (exact wrap_id (by omega) (by omega)) | (rw [wrap_id (by omega) (by omega)]; omega) | omega)) ?_
            refine t_is (.int .i64 ((29 * k + 5 * j : Nat) : Int)) rfl rfl rfl rfl (fun W_ hW_ F_ => (by simp [go_sem, sEv, sLook, nbeq, i64_w, -List.length_flatten]; first | (exact wrap_id (by omega) (by omega)) | (rw [wrap_id (by omega) (by omega)]; omega) | omega)) ?_
            refine t_is (.int .i64 ((29 * k + 5 * j + 3 : Nat) : Int)) rfl rfl rfl rfl (fun W_ hW_ F_ => (by simp [go_sem, sEv, sLook, nbeq, i64_w, -List.length_flatten]; first | (exact wrap_id (by omega) (by omega)) | (rw [wrap_id (by omega) (by omega)]; omega) | omega)) ?_
            refine t_is (.int .u8 (mark k j)) rfl rfl rfl rfl (fun W_ hW_ F_ => (by simp [go_sem, sEv, sLook, nbeq, i64_w, -List.length_flatten]; rw [u8_mod]; unfold mark; congr 1)) ?_
            refine t_is (.bool false) rfl rfl rfl rfl (fun W_ hW_ F_ => by simp [go_sem, sEv, sLook, nbeq, i64_w, -List.length_flatten]) ?_
            refine t_is (.bool false) rfl rfl rfl rfl (fun W_ hW_ F_ => rfl) ?_
            refine t_gis (c := false) (.int .i64 (j : Int)) rfl rfl rfl rfl rfl rfl rfl (fun W_ hW_ F_ => rfl) ?_
            refine t_gis (c := false) (.slice (some ⟨ob, 0, none⟩) m lc) rfl rfl rfl rfl rfl rfl rfl (fun W_ hW_ F_ => rfl) ?_
            refine t_gis (c := false) (.int .i64 (k : Int)) rfl rfl rfl rfl rfl rfl rfl (fun W_ hW_ F_ => rfl) ?_
            refine t_gis (c := false) (.pointer (some ⟨ob, k, none⟩)) rfl rfl rfl rfl rfl rfl rfl (fun W_ hW_ F_ => (by have lko_ := of_decide_eq_true cK; simp [go_sem, sEv, sLook, nbeq, i64_w, -List.length_flatten, Try.underlying22, add_plain]; omega)) ?_
            refine t_gis (c := false) (.slice (adrSh (sh k)) ((sh k).n) ((sh k).c)) rfl rfl rfl rfl rfl rfl rfl (fun W_ hW_ F_ => (by have lko_ := of_decide_eq_true cK; have ho_ := (cellOn ((cell_same (a := ⟨ob, k, none⟩) (hPw_.2.2.1 ob hob hobn)).trans (hL k (by omega))) (below_of_drew hW_)); simp [go_sem, sEv, sLook, nbeq, i64_w, -List.length_flatten, ho_, V])) ?_
            refine t_gis (c := false) (.int .i64 ((sh k).n : Int)) rfl rfl rfl rfl rfl rfl rfl (fun W_ hW_ F_ => (by simp [go_sem, sEv, sLook, nbeq, i64_w, -List.length_flatten])) ?_
            refine t_gis (c := false) (.bool (decide ((j : Int) < ((sh k).n : Int)))) rfl rfl rfl rfl rfl rfl rfl (fun W_ hW_ F_ => by simp [go_sem, sEv, sLook, nbeq, i64_w, -List.length_flatten]) ?_
            refine t_gis (c := false) (.bool (decide ((j : Int) < ((sh k).n : Int)))) rfl rfl rfl rfl rfl rfl rfl (fun W_ hW_ F_ => rfl) ?_
            refine t_gis (c := decide ((j : Int) < ((sh k).n : Int))) (.slice (some ⟨ob, 0, none⟩) m lc) rfl rfl rfl (by first | (rw [cJ]; rfl) | simp [cJ]) rfl rfl rfl (fun W_ hW_ F_ => rfl) ?_
            refine t_gis (c := decide ((j : Int) < ((sh k).n : Int))) (.int .i64 (k : Int)) rfl rfl rfl (by first | (rw [cJ]; rfl) | simp [cJ]) rfl rfl rfl (fun W_ hW_ F_ => rfl) ?_
            refine t_gis (c := decide ((j : Int) < ((sh k).n : Int))) (.pointer (some ⟨ob, k, none⟩)) rfl rfl rfl (by first | (rw [cJ]; rfl) | simp [cJ]) rfl rfl rfl (fun W_ hW_ F_ => (by have lko_ := of_decide_eq_true cK; simp [go_sem, sEv, sLook, nbeq, i64_w, -List.length_flatten, Try.underlying22, add_plain]; omega)) ?_
            refine t_gis (c := decide ((j : Int) < ((sh k).n : Int))) (.slice (adrSh (sh k)) ((sh k).n) ((sh k).c)) rfl rfl rfl (by first | (rw [cJ]; rfl) | simp [cJ]) rfl rfl rfl (fun W_ hW_ F_ => (by have lko_ := of_decide_eq_true cK; have ho_ := (cellOn ((cell_same (a := ⟨ob, k, none⟩) (hPw_.2.2.1 ob hob hobn)).trans (hL k (by omega))) (below_of_drew hW_)); simp [go_sem, sEv, sLook, nbeq, i64_w, -List.length_flatten, ho_, V])) ?_
            refine t_gis (c := decide ((j : Int) < ((sh k).n : Int))) (.int .i64 (j : Int)) rfl rfl rfl (by first | (rw [cJ]; rfl) | simp [cJ]) rfl rfl rfl (fun W_ hW_ F_ => rfl) ?_
            refine t_gis (c := decide ((j : Int) < ((sh k).n : Int))) (.pointer (some ⟨(sh k).g, j, none⟩)) rfl rfl rfl (by first | (rw [cJ]; rfl) | simp [cJ]) rfl rfl rfl (fun W_ hW_ F_ => by have h_ := adrSh_some (hsc_ (by have := of_decide_eq_true cJ; omega)).1; simp [go_sem, sEv, sLook, nbeq, i64_w, -List.length_flatten, Try.underlying32, h_, add_plain]; (have := of_decide_eq_true cJ); omega) ?_
            refine t_gis (c := decide ((j : Int) < ((sh k).n : Int))) (.int .u8 (mark k j)) rfl rfl rfl (by first | (rw [cJ]; rfl) | simp [cJ]) rfl rfl rfl (fun W_ hW_ F_ => by have e_ := cellOn (hsc_ (by have := of_decide_eq_true cJ; omega)).2 (below_of_drew hW_); simp [go_sem, sEv, sLook, nbeq, i64_w, -List.length_flatten, e_]) ?_
            refine t_gis (c := decide ((j : Int) < ((sh k).n : Int))) (.slice (adrSh (gv k)) ((gv k).n) ((gv k).c)) rfl rfl rfl (by first | (rw [cJ]; rfl) | simp [cJ]) rfl rfl rfl (fun W_ hW_ F_ => rfl) ?_
            refine t_gis (c := decide ((j : Int) < ((sh k).n : Int))) (.int .i64 (j : Int)) rfl rfl rfl (by first | (rw [cJ]; rfl) | simp [cJ]) rfl rfl rfl (fun W_ hW_ F_ => rfl) ?_
            refine t_gis (c := decide ((j : Int) < ((sh k).n : Int))) (.pointer (some ⟨(gv k).g, j, none⟩)) rfl rfl rfl (by first | (rw [cJ]; rfl) | simp [cJ]) rfl rfl rfl (fun W_ hW_ F_ => by simp [go_sem, sEv, sLook, nbeq, i64_w, -List.length_flatten, Try.underlying32, hAg2_, add_plain]; omega) ?_
            refine t_gis (c := decide ((j : Int) < ((sh k).n : Int))) (.int .u8 (mark k j)) rfl rfl rfl (by first | (rw [cJ]; rfl) | simp [cJ]) rfl rfl rfl (fun W_ hW_ F_ => by have e_ := cellOn hgc_ (below_of_drew hW_); simp [go_sem, sEv, sLook, nbeq, i64_w, -List.length_flatten, e_]) ?_
            refine t_gis (c := decide ((j : Int) < ((sh k).n : Int))) (.bool false) rfl rfl rfl (by first | (rw [cJ]; rfl) | simp [cJ]) rfl rfl rfl (fun W_ hW_ F_ => by simp [go_sem, sEv, sLook, nbeq, i64_w, -List.length_flatten]) ?_
            refine t_gis (c := false) (.bool false) rfl rfl rfl rfl rfl rfl rfl (fun W_ hW_ F_ => by first | (simp [go_sem, sEv, sLook, nbeq, i64_w, -List.length_flatten, cJ]; done) | (simp [go_sem, sEv, sLook, nbeq, i64_w, -List.length_flatten] <;> omega) | (simp [go_sem, sEv, sLook, nbeq, i64_w, -List.length_flatten]; intro h_; exact absurd (by omega) h_) | (rw [cJ]; simp [go_sem, sEv, sLook, nbeq, i64_w, -List.length_flatten]; done)) ?_
            refine t_is (.bool false) rfl rfl rfl rfl (fun W_ hW_ F_ => by simp [go_sem, sEv, sLook, nbeq, i64_w, -List.length_flatten]) ?_
            refine t_end ?_
            intro w15 hb16_ F17
            have hb16 := below_of_drew hb16_
            have hs_w15 := hb16.size
            refine w_weaken (G' := [(0, .slice (some ⟨ob, 0, none⟩) m lc), (10, .int .i64 (k : Int)), (11, .slice (adrSh (gv k)) ((gv k).n) ((gv k).c)), (68, .slice (some adg) m c6), (69, .int .i64 (m : Int)), (70, .int .i64 (k : Int)), (76, .int .i64 (((sh k).n + 10 : Nat) : Int)), (77, .int .i64 (j : Int)), (114, .bool false)]) ⟨rfl, rfl, rfl, rfl, rfl, rfl, rfl, rfl, rfl, trivial⟩ ?_
            refine w_cond_f rfl rfl rfl ?_
            refine w_skip ?_
            refine w_blk ?_
            refine w_region ?_
            refine rw_val (v := .int .i64 ((j + 1 : Nat) : Int)) (w' := w15) rfl rfl rfl rfl (by simp [go_sem, sEv, sLook, nbeq, i64_w, -List.length_flatten]; exact wrap_id (by omega) (by omega)) ?_
            refine rw_val (v := .int .i64 ((j + 1 : Nat) : Int)) (w' := w15) rfl rfl rfl rfl rfl ?_
            refine rw_end ?_
            have lq_ := of_decide_eq_true cQ
            exact w_back (m6_ - 1) [(0, .slice (some ⟨ob, 0, none⟩) m lc), (68, .slice (some adg) m c6), (69, .int .i64 (m : Int)), (70, .int .i64 (k : Int)), (10, .int .i64 (k : Int)), (11, V (gv k)), (76, .int .i64 (((sh k).n + 10 : Nat) : Int)), (77, .int .i64 ((j + 1 : Nat) : Int))] (by omega) ⟨rfl, rfl, rfl, rfl, rfl, rfl, rfl, rfl, trivial⟩ ⟨j + 1, by omega, (chain hB6_ hb16), rfl⟩
        · refine w_exit rfl ?_
          refine w_blk ?_
          refine w_region ?_
          refine rw_val (v := .int .i64 ((k + 1 : Nat) : Int)) (w' := w_6) rfl rfl rfl rfl (by simp [go_sem, sEv, sLook, nbeq, i64_w, -List.length_flatten]; exact wrap_id (by omega) (by omega)) ?_
          refine rw_val (v := .int .i64 ((k + 1 : Nat) : Int)) (w' := w_6) rfl rfl rfl rfl rfl ?_
          refine rw_end ?_
          have lk_ := of_decide_eq_true cK
          exact w_back (m5_ - 1) [(0, .slice (some ⟨ob, 0, none⟩) m lc), (68, .slice (some adg) m c6), (69, .int .i64 (m : Int)), (70, .int .i64 ((k + 1 : Nat) : Int))] (by omega) ⟨rfl, rfl, rfl, rfl, trivial⟩ ⟨k + 1, by omega, hB6_, rfl⟩
      · refine w_exit rfl ?_
        refine w_seq ?_
        refine w_region ?_
        refine rw_val (v := .bool true) (w' := w_5) rfl rfl rfl rfl rfl ?_
        refine rw_end ?_
        refine w_ret (post_ret1 rfl rfl ?_)
        exact ⟨rfl, (chain hP.1 hB5_), (fun q hq hqn => (hB5_.block q (by have := hP.2.1; omega)).trans (hP.2.2.1 q hq hqn)), (by have h1_ := hP.2.1; have h2_ := (hB5_).size; omega)⟩
end Go.Proofs.Ytiiljpaedelhlaa.Tp
end
section
namespace Go.Proofs.Ytiiljpaedelhlaa.Tp
open Go.RowKit Go.Proofs.YtiiljpaedelhlaaW.PrintWords Go.Proofs.YtiiljpaedelhlaaW.PrintLast Go.Proofs.YtiiljpaedelhlaaW.PrintMore
open Go.Proofs.Ytiiljpaedelhlaa.Flow
open Go.Proofs.Ytiiljpaedelhlaa.PDiaryPlays (SplitR Bytes frameB frameE FC wholeP errW wrap_calls frameB_len frameB_bytes)
set_option linter.unusedVariables false
set_option linter.unusedSimpArgs false
set_option maxHeartbeats 4000000 in
theorem apart_0 (w : World) (A : Option Addr) (c : Nat) :
    Calls Try.prog 33 #[.slice A 0 c] w fun e w' => e = .returned (.bool true) ∧ Below w.heap.size w w' := by
  refine calls_flow Try.func33 rfl 117 rfl (Nat.le_of_ble_eq_true rfl) [(0, .slice A 0 c)] ?_ ?_
  · intro t v h; exact args_look rfl t v h
  refine w_seq ?_
  refine w_region ?_
  refine rw_val (v := .bool false) (w' := w) rfl rfl rfl rfl rfl ?_
  refine rw_end ?_
  refine w_seq ?_
  refine w_seq ?_
  refine w_region ?_
  refine rw_val (v := .slice A 0 c) (w' := w) rfl rfl rfl rfl rfl ?_
  refine rw_val (v := .int .i64 0) (w' := w) rfl rfl rfl rfl (by simp [go_sem, sEv, sLook, nbeq, i64_w, -List.getD_eq_getElem?_getD]) ?_
  refine rw_val (v := .int .i64 0) (w' := w) rfl rfl rfl rfl rfl ?_
  refine rw_end ?_
  refine w_block ?_
  refine w_loop1 ?_
  refine w_seq ?_
  refine w_region ?_
  refine rw_val (v := .bool false) (w' := w) rfl rfl rfl rfl (by simp [go_sem, sEv, sLook, nbeq, i64_w, -List.getD_eq_getElem?_getD]) ?_
  refine rw_end ?_
  refine w_seq ?_
  refine w_cond_f rfl rfl rfl ?_
  refine w_exit rfl ?_
  refine w_seq ?_
  refine w_region ?_
  refine rw_new (cs := #[]) (t := 32) (fun g => .slice (some ⟨g, 0, none⟩) 0 0) rfl rfl rfl rfl (by kernel_rfl) ?_
  intro g1 w2 hg6 hz5 hb3 hk4
  have hs_w2 := hb3.size
  refine rw_val (v := .slice (some ⟨g1, 0, none⟩) 0 0) (w' := w2) rfl rfl rfl rfl rfl ?_
  refine rw_end ?_
  refine w_seq ?_
  refine w_seq ?_
  refine w_region ?_
  refine rw_val (v := .slice A 0 c) (w' := w2) rfl rfl rfl rfl rfl ?_
  refine rw_val (v := .int .i64 0) (w' := w2) rfl rfl rfl rfl (by simp [go_sem, sEv, sLook, nbeq, i64_w, -List.getD_eq_getElem?_getD]) ?_
  refine rw_val (v := .int .i64 0) (w' := w2) rfl rfl rfl rfl rfl ?_
  refine rw_end ?_
  refine w_block ?_
  refine w_loop1 ?_
  refine w_seq ?_
  refine w_region ?_
  refine rw_val (v := .bool false) (w' := w2) rfl rfl rfl rfl (by simp [go_sem, sEv, sLook, nbeq, i64_w, -List.getD_eq_getElem?_getD]) ?_
  refine rw_end ?_
  refine w_seq ?_
  refine w_cond_f rfl rfl rfl ?_
  refine w_exit rfl ?_
  refine w_seq ?_
  refine w_seq ?_
  refine w_region ?_
  refine rw_val (v := .slice (some ⟨g1, 0, none⟩) 0 0) (w' := w2) rfl rfl rfl rfl rfl ?_
  refine rw_val (v := .int .i64 0) (w' := w2) rfl rfl rfl rfl (by simp [go_sem, sEv, sLook, nbeq, i64_w, -List.getD_eq_getElem?_getD]) ?_
  refine rw_val (v := .int .i64 0) (w' := w2) rfl rfl rfl rfl rfl ?_
  refine rw_end ?_
  refine w_block ?_
  refine w_loop1 ?_
  refine w_seq ?_
  refine w_region ?_
  refine rw_val (v := .bool false) (w' := w2) rfl rfl rfl rfl (by simp [go_sem, sEv, sLook, nbeq, i64_w, -List.getD_eq_getElem?_getD]) ?_
  refine rw_end ?_
  refine w_seq ?_
  refine w_cond_f rfl rfl rfl ?_
  refine w_exit rfl ?_
  refine w_seq ?_
  refine w_region ?_
  refine rw_val (v := .bool true) (w' := w2) rfl rfl rfl rfl rfl ?_
  refine rw_end ?_
  refine w_ret (post_ret1 rfl rfl ?_)
  exact ⟨rfl, hb3⟩
theorem apartB {w0 w : World} (hB : Below w0.heap.size w0 w) {lo z : Nat} {A : Option Addr} {c : Nat} {xss : List (List Int)} (h : Kd.S (Kd.slice 5 (Kd.int .u8)) 32 w w0.heap.size (fun q => lo ≤ q ∧ q < z) (.slice A xss.length c) xss) (hm : xss.length ≤ 2000000) (hn : ∀ x ∈ xss, x.length ≤ 1000000) :
    Calls Try.prog 33 #[.slice A xss.length c] w fun e w' => e = .returned (.bool true) ∧ Below w0.heap.size w0 w' ∧ Kept w w' (fun q => lo ≤ q ∧ q < z) := by
  by_cases hp : 0 < xss.length
  · obtain ⟨ob, c', sh, hv, hob, hL, hobn, hd, hLR, hge⟩ := S_shapes2 h hp
    injection hv with h1 h2 h3
    subst h1 h3
    refine (apart_calls w0 w hB ob xss.length c sh (fun i => xss.getD i []) hL hob hobn hd hLR (fun i hi hn => (hge i hi hn).1) hm (fun i hi => ?_)).mono fun e w' h => ⟨h.1, h.2.1, h.2.2.2, fun q hq hn => h.2.2.1 q hq (fun i hi hnil e => hn (e ▸ (hge i hi hnil).2))⟩
    rw [← (hLR i hi).1, List.getD_eq_getElem?_getD, List.getElem?_eq_getElem hi]
    exact hn _ (List.getElem_mem hi)
  · have e : xss = [] := List.eq_nil_of_length_eq_zero (by omega)
    subst e
    exact (apart_0 w A c).mono fun e w' h => ⟨h.1, chain hB h.2, below_kept h.2⟩
end Go.Proofs.Ytiiljpaedelhlaa.Tp
end
section
namespace Go.Proofs.Ytiiljpaedelhlaa.Flow
open Go.RowKit Go.Proofs.YtiiljpaedelhlaaW.PrintWords
set_option linter.unusedVariables false
set_option linter.unusedSimpArgs false
set_option linter.unusedSectionVars false
section
variable {P : Program} {cx : Cx} {n : Nat} {Q : Exit → Act → World → Prop} {st : List Itm} {G : Env} {w : World} {l : List Oper} {w0 : World} {mu : Nat → Option Mt} {M : List Nat} {E : Env → Facts → Prop} {os : List Oper} {ss : List Spec} {ms : List Nat} {m : Nat} {F : Facts} {o : Oper}
theorem v_off (hnq : mu F.length = none) {g t d : Nat} {b c : Bool} (hg : o.guard = some (g, b)) (ht : (l[g]?).bind (·.dst) = some t) (hl : sLook G t = some (.bool c)) (hne : (c == b) = false) (hd : o.dst = some d) (hdn : Nat.blt d n = true)
    (k : Tele3 P n l w0 mu M E os ss ms (F ++ [(Is undef, undef)]) ((d, undef) :: G)) : Tele3 P n l w0 mu M E (o :: os) (Is undef :: ss) (m :: ms) F G := by
  refine ⟨fun d' h => by rw [hd] at h; cases h; exact hdn, fun w hb h1_ hh => ?_, fun v hv => ?_⟩
  · rw [hnq]
    show StepOk _ _ _ _ _ _
    unfold StepOk
    rw [hg]
    exact .inl ⟨t, c, ht, hl, fun h => by simp [h] at hne, fun _ => rfl⟩
  · have : v = undef := hv
    subst this
    rw [hd]
    exact k
theorem v_gval (hnq : mu F.length = none) {g t d : Nat} {b c : Bool} (s : Spec) (hg : o.guard = some (g, b)) (ht : (l[g]?).bind (·.dst) = some t) (hl : sLook G t = some (.bool c)) (he : (c == b) = true) (hd : o.dst = some d) (hdn : Nat.blt d n = true) (hk : known G o = true)
    (hrun : ∀ w, Kept w0 w (MU mu) → Ph mu m M F.length w → Have m F w → ∃ v w', (execOp (sEv G) o).run P w = .ok (.value v) w' ∧ s.s v w' ∧ Below w.heap.size w w')
    (k : ∀ v, s.pl v → Tele3 P n l w0 mu M E os ss ms (F ++ [(s, v)]) ((d, v) :: G)) : Tele3 P n l w0 mu M E (o :: os) (s :: ss) (m :: ms) F G := by
  refine ⟨fun d' h => by rw [hd] at h; cases h; exact hdn, fun w hb h1_ hh => ?_, fun v hv => ?_⟩
  · rw [hnq]
    show StepOk _ _ _ _ _ _
    unfold StepOk
    rw [hg]
    refine .inl ⟨t, c, ht, hl, fun _ => ⟨hk, ?_⟩, fun h => absurd (by simpa using he) h⟩
    obtain ⟨v, w', h1, h2, h3⟩ := hrun w hb h1_ hh
    rw [h1]
    exact ⟨h2, h3⟩
  · rw [hd]
    exact k v hv
theorem v_gis (hnq : mu F.length = none) {g t d : Nat} {b c : Bool} (v : Value) (hg : o.guard = some (g, b)) (ht : (l[g]?).bind (·.dst) = some t) (hl : sLook G t = some (.bool c)) (he : (c == b) = true) (hd : o.dst = some d) (hdn : Nat.blt d n = true) (hk : known G o = true)
    (hrun : ∀ w, Kept w0 w (MU mu) → Ph mu m M F.length w → Have m F w → (execOp (sEv G) o).run P w = .ok (.value v) w)
    (k : Tele3 P n l w0 mu M E os ss ms (F ++ [(Is v, v)]) ((d, v) :: G)) : Tele3 P n l w0 mu M E (o :: os) (Is v :: ss) (m :: ms) F G :=
  v_gval hnq (Is v) hg ht hl he hd hdn hk (fun w a b c => ⟨v, w, hrun w a b c, rfl, Below.refl _ _⟩) (fun v' hv => by
    have : v' = v := hv
    subst this
    exact k)
theorem v_gcall (hnq : mu F.length = none) {g t d : Nat} {b c : Bool} (s : Spec) {f : FuncId} {args : Array Value} (hg : o.guard = some (g, b)) (ht : (l[g]?).bind (·.dst) = some t) (hl : sLook G t = some (.bool c)) (he : (c == b) = true) (hd : o.dst = some d) (hdn : Nat.blt d n = true) (hk : known G o = true)
    (hrun : ∀ w, (execOp (sEv G) o).run P w = .ok (.enter f args) w)
    (hc : ∀ w, Kept w0 w (MU mu) → Ph mu m M F.length w → Have m F w → Calls P f args w fun e w' => ∃ v, e = .returned v ∧ s.s v w' ∧ Below w.heap.size w w')
    (k : ∀ v, s.pl v → Tele3 P n l w0 mu M E os ss ms (F ++ [(s, v)]) ((d, v) :: G)) : Tele3 P n l w0 mu M E (o :: os) (s :: ss) (m :: ms) F G := by
  refine ⟨fun d' h => by rw [hd] at h; cases h; exact hdn, fun w hb h1_ hh => ?_, fun v hv => ?_⟩
  · rw [hnq]
    show StepOk _ _ _ _ _ _
    unfold StepOk
    rw [hg]
    refine .inl ⟨t, c, ht, hl, fun _ => ⟨hk, ?_⟩, fun h => absurd (by simpa using he) h⟩
    rw [hrun w]
    exact ⟨rfl, hc w hb h1_ hh⟩
  · rw [hd]
    exact k v hv
theorem v_gmut {x : Mt} (hq : mu F.length = some x) {g t d : Nat} {b c : Bool} (s : Spec) {f : FuncId} {args : Array Value} (hg : o.guard = some (g, b)) (ht : (l[g]?).bind (·.dst) = some t) (hl : sLook G t = some (.bool c)) (he : (c == b) = true) (hd : o.dst = some d) (hdn : Nat.blt d n = true) (hk : known G o = true)
    (hrun : ∀ w, (execOp (sEv G) o).run P w = .ok (.enter f args) w)
    (hc : ∀ w, Kept w0 w (MU mu) → x.F0 w → Have m F w → Calls P f args w fun e w' => ∃ v, e = .returned v ∧ s.s v w' ∧ Kept w w' x.S ∧ x.F1 w' ∧ QT w w')
    (k : ∀ v, s.pl v → Tele3 P n l w0 mu M E os ss ms (F ++ [(s, v)]) ((d, v) :: G)) : Tele3 P n l w0 mu M E (o :: os) (s :: ss) (m :: ms) F G := by
  obtain rfl : c = b := by simpa using he
  refine ⟨fun d' h => by rw [hd] at h; cases h; exact hdn, fun w hb _ hh => ?_, fun v hv => ?_⟩
  · rw [hq]
    intro h0
    unfold MutOk
    rw [hg]
    refine ⟨t, ht, hl, hk, ?_⟩
    rw [hrun w]
    exact ⟨rfl, hc w hb h0 hh⟩
  · rw [hd]
    exact k v hv
end
end Go.Proofs.Ytiiljpaedelhlaa.Flow
end
section
namespace Go.Proofs.Ytiiljpaedelhlaa.Tp
open Go.RowKit Go.Proofs.YtiiljpaedelhlaaW.PrintWords Go.Proofs.YtiiljpaedelhlaaW.PrintLast Go.Proofs.YtiiljpaedelhlaaW.PrintMore
open Go.Proofs.Ytiiljpaedelhlaa.Flow
open Go.Proofs.Ytiiljpaedelhlaa.PDiaryPlays (Bytes SplitR frameB FC splitR_one)
set_option linter.unusedVariables false
set_option linter.unusedSimpArgs false
def Phs (w0 w : World) (g u : Nat) (s : TS) (r : RS) (dv mv : Option Addr) : Prop :=
  (dv = none ∧ mv = none ∧ Blk w u 59 (rcells r) ∧ w0.heap.size ≤ u) ∨
  ∃ (gd md : Nat) (rr bb : Int) (rs : List (List Int)), dv = some ⟨gd, 0, none⟩ ∧ mv = some ⟨md, 0, none⟩ ∧ DI ⟨s, rr, bb⟩ rs ∧ Blk w gd 80 (dcells g rr bb) ∧ w0.heap.size ≤ gd ∧ RDAt w0 w (fun _ => True) u md r rs
section
variable {w0 w w' : World} {g u tb : Nat} {s s' : TS} {r r' : RS} {dv mv : Option Addr}
theorem Phs.ublk (h : Phs w0 w g u s r dv mv) : Blk w u 59 (rcells r) ∧ w0.heap.size ≤ u := by
  rcases h with ⟨_, _, h1, h2⟩ | ⟨gd, md, rr, bb, rs, _, _, _, _, _, h1, h2, _⟩
  · exact ⟨h1, h2⟩
  · exact ⟨h1, h2⟩
theorem ne_typed {q t : Nat} {cs : Array Value} {S : Nat → Prop} (hb : Blk w q t cs) (hS : ∀ k, S k → ∀ cs t', w.heap[k]? = some (.cells cs t' (0, 0)) → t' ≠ t) : ¬ S q := fun h => hS q h cs t hb rfl
theorem Phs.kept {S : Nat → Prop} (h : Phs w0 w g u s r dv mv) (hk : Kept w w' S) (hS : ∀ k, S k → ∀ cs t, w.heap[k]? = some (.cells cs t (0, 0)) → t ≠ 59 ∧ t ≠ 80 ∧ t ≠ 71 ∧ t ≠ 9) (hs : s'.sure = s.sure) : Phs w0 w' g u s' r dv mv := by
  rcases h with ⟨a, b, h1, h2⟩ | ⟨gd, md, rr, bb, rs, a, b, ⟨d1, d2, d3, d4, d5⟩, h4, h5, h6⟩
  · exact .inl ⟨a, b, Blk.keptT h1 hk (ne_typed h1 (fun k h cs t hc => (hS k h cs t hc).1)), h2⟩
  · refine .inr ⟨gd, md, rr, bb, rs, a, b, ⟨d1, d2, d3, d4, ?_⟩, Blk.keptT h4 hk (ne_typed h4 (fun k h cs t hc => (hS k h cs t hc).2.1)), h5, ?_⟩
    · show ((FC rs).length : Int) ≤ s'.sure
      rw [hs]; exact d5
    · have h7 := h6.typed
      have h8 := h6.1
      obtain ⟨_, _, _, A, c, h9, _⟩ := h6
      exact (h7.kept hk (ne_typed h8 (fun k h cs t hc => (hS k h cs t hc).1)) (ne_typed h9 (fun k h cs t hc => (hS k h cs t hc).2.2.1)) (fun q hq => by
        obtain ⟨_, cs, hq⟩ := hq
        exact ne_typed hq (fun k h cs t hc => (hS k h cs t hc).2.2.2))).mono (fun _ _ => trivial)
theorem Phs.on (h : Phs w0 w g u s r dv mv) (hb : Below w.heap.size w w') : Phs w0 w' g u s r dv mv := h.kept (S := fun _ => False) (below_kept hb) (fun _ h => h.elim) rfl
theorem Phs.tape (h : Phs w0 w g u s r dv mv) (hT : TapeB w0 w g tb s) (hk : Kept w w' (fun q => q = g ∨ q = tb)) (hs : s'.sure = s.sure) : Phs w0 w' g u s' r dv mv := by
  obtain ⟨cg, hg⟩ := hT.blkg
  have same : ∀ {q t t1 : Nat} {c1 cs : Array Value}, Blk w q t1 c1 → w.heap[q]? = some (.cells cs t (0, 0)) → t = t1 := fun {q t t1 c1 cs} h1 h2 => by
    have h3 := h1.symm.trans h2
    injection h3 with h3
    injection h3 with _ h3
    exact h3.symm
  refine h.kept hk (fun k hk2 cs t hc => ?_) hs
  have ht : t = 76 ∨ t = 5 := by
    rcases hk2 with rfl | rfl
    · exact .inl (same hg hc)
    · rcases hT.1 with rfl | ⟨_, c2, h2⟩
      · exact .inl (same hg hc)
      · exact .inr (same h2 hc)
  rcases ht with rfl | rfl <;> decide
theorem Phs.doc (h : Phs w0 w g u s r dv mv) (hk : Kept w w' (fun q => q = u)) (hb : Blk w' u 59 (rcells r')) : Phs w0 w' g u s r' dv mv := by
  rcases h with ⟨a, b, h1, h2⟩ | ⟨gd, md, rr, bb, rs, a, b, d, h4, h5, h6⟩
  · exact .inl ⟨a, b, hb, h2⟩
  · have h7 := h6.typed
    obtain ⟨h8, h9, h10, A, c, h11, h12⟩ := h7
    exact .inr ⟨gd, md, rr, bb, rs, a, b, d, Blk.keptT h4 hk (blk_ne h4 h8 (by decide)), h5, hb, h9, h10, A, c, Blk.keptT h11 hk (blk_ne h11 h8 (by decide)), Kd.R_mono (Kd.R_step h12 (fun q hq hlt => hk.2 q hlt (fun e => by
      obtain ⟨_, cs, hq⟩ := hq
      exact blk_ne hq h8 (by decide) e))) (fun _ _ => trivial)⟩
end
def LI (w0 w : World) (g u : Nat) (k : Int) (tb : Nat) (s : TS) (r : RS) (dv mv : Option Addr) : Prop := TapeB w0 w g tb s ∧ Both s r k ∧ Phs w0 w g u s r dv mv
theorem open_one {s : TS} {r : RS} {k : Int} (h : Both s r k) {out out2 : List (List Int)} {n n2 : Nat} (h1 : s.dn = false → SplitR s.xs out n) (h2 : r.d = false → SplitR (r.S ++ r.R) out2 n2) : r.openE n2 = r.openE n ∧ r.openS n2 = r.openS n ∧ (s.dn = false → out2 = out ∧ n2 = n) := by
  cases hd : s.dn with
  | true =>
    have hr : r.d = true := by rw [h.rel.d, hd]
    exact ⟨by rw [RS.openE, RS.openE, if_pos hr, if_pos hr], by rw [RS.openS, RS.openS, if_pos hr, if_pos hr], fun h => by cases h⟩
  | false =>
    have hr : r.d = false := by rw [h.rel.d, hd]
    have h3 := h2 hr
    rw [h.rel.all] at h3
    obtain ⟨rfl, rfl⟩ := splitR_one h3 (h1 hd)
    exact ⟨rfl, rfl, fun _ => ⟨rfl, rfl⟩⟩
section
variable {w w1 : World} {u : Nat} {s : TS} {r : RS} {k : Int} {out : List (List Int)} {n : Nat}
theorem ropenF (hB0 : Below w.heap.size w w1) (hbu : Blk w1 u 59 (rcells r)) (hu0 : w.heap.size ≤ u) (h : Both s r k) (h9 : k ≤ 999999999999000) (h1 : s.dn = false → SplitR s.xs out n) {c : Int} (hc : openE s n = some c) :
    Calls Try.prog 26 #[.pointer (some ⟨u, 0, none⟩)] w1 fun e w' => e = .returned (.tuple #[.pointer none, .int .i64 (numT (some c))]) ∧ Kept w1 w' (fun q => q = u) ∧ QT w1 w' ∧ Blk w' u 59 (rcells (r.openS n)) := by
  have hst := h.st
  have hs := h.rel.st
  refine (ropen_calls w1 w hB0 u r hbu hu0 h.ro (by rw [hs]; omega) (by rw [h.rel.all]; exact h.by_)).mono fun e w' q => ?_
  obtain ⟨out2, n2, q1, q2, q3, q4⟩ := q
  obtain ⟨e1, e2, _⟩ := open_one h h1 q1
  have e3 := (h.open h9 n).1
  rw [hc] at e3
  rcases q4 with ⟨a, b, d⟩ | ⟨a, _⟩
  · rw [e1, e3] at b
    rw [e2] at d
    exact ⟨b, q2, q3, d⟩
  · rw [e1, e3] at a
    exact absurd a (fun h0 => openE_ne s n (by rw [hc]; exact congrArg some h0))
theorem ropenS (hB0 : Below w.heap.size w w1) (hbu : Blk w1 u 59 (rcells r)) (hu0 : w.heap.size ≤ u) (h : Both s r k) (h9 : k ≤ 999999999999000) (h1 : s.dn = false → SplitR s.xs out n) (hd : s.dn = false) (hc : openE s n = none) :
    Calls Try.prog 26 #[.pointer (some ⟨u, 0, none⟩)] w1 fun e w' => ∃ md, e = .returned (.tuple #[.pointer (some ⟨md, 0, none⟩), .int .i64 0]) ∧ w1.heap.size ≤ md ∧ Kept w1 w' (fun q => q = u) ∧ QT w1 w' ∧ RDAt w w' (fun q => w1.heap.size ≤ q) u md (r.openS n) out := by
  have hst := h.st
  have hs := h.rel.st
  refine (ropen_calls w1 w hB0 u r hbu hu0 h.ro (by rw [hs]; omega) (by rw [h.rel.all]; exact h.by_)).mono fun e w' q => ?_
  obtain ⟨out2, n2, q1, q2, q3, q4⟩ := q
  obtain ⟨e1, e2, e4⟩ := open_one h h1 q1
  obtain ⟨rfl, rfl⟩ := e4 hd
  have e3 := (h.open h9 n2).1
  rw [hc] at e3
  rcases q4 with ⟨a, b, d⟩ | ⟨a, md, b, c, d⟩
  · exact absurd e3 a
  · exact ⟨md, b, c, q2, q3, d⟩
end
theorem split_nil {out : List (List Int)} {n : Nat} (h : SplitR [] out n) : out = [] ∧ n = 0 := by
  obtain ⟨h1, h2, _⟩ := splitR_all h (fun c hc => by cases hc)
  have h3 := rows_le out (splitR_all h (fun c hc => by cases hc)).2.2.1
  rw [h2] at h3
  simp at h3 h1
  exact ⟨h3, h1⟩
theorem openB0 (w0 w : World) (g tb : Nat) (hT : TapeB w0 w g tb TS.start) :
    Calls Try.prog 11 #[.pointer (some ⟨g, 0, none⟩)] w fun e w' => ∃ (gd tb' : Nat) (A : Option Addr) (c : Nat), e = .returned (.tuple #[.pointer (some ⟨gd, 0, none⟩), .slice A 0 c, errT none]) ∧ Kept w w' (fun q => q = g) ∧ QT w w' ∧ TapeB w0 w' g tb' TS.start ∧ w0.heap.size ≤ gd ∧ Blk w' gd 80 (dcells g 0 0) := by
  refine (openB w0 w g tb TS.start hT Both.start.ok Both.start.by_).mono fun e w' h => ?_
  obtain ⟨out, n, tb', h1, h2, h3, h4, h5, h6⟩ := h
  obtain ⟨rfl, rfl⟩ := split_nil (h1 rfl)
  have e1 : openE TS.start 0 = none := rfl
  have e2 : openS TS.start 0 = TS.start := rfl
  rw [e1, e2] at *
  rcases h6 with ⟨c, h6, _⟩ | ⟨_, _, gd, z, A, c, h7, h8, h9, _⟩
  · cases h6
  · exact ⟨gd, tb', A, c, h7, h2, h3, h4, h8, h9⟩
end Go.Proofs.Ytiiljpaedelhlaa.Tp
end
section
namespace Go.Proofs.Ytiiljpaedelhlaa.Tp
open Go.RowKit Go.Proofs.YtiiljpaedelhlaaW.PrintWords Go.Proofs.YtiiljpaedelhlaaW.PrintLast Go.Proofs.YtiiljpaedelhlaaW.PrintMore
open Go.Proofs.Ytiiljpaedelhlaa.Flow
open Go.Proofs.Ytiiljpaedelhlaa.PDiaryPlays (SplitR Bytes frameB frameE FC wholeP errW wrap_calls frameB_len frameB_bytes)
set_option linter.unusedVariables false
set_option linter.unusedSimpArgs false
theorem run_err_neqs (o : Option Int) (c : Int) (w : World) : (binOp .neq 29 (errT o) (.iface 50 (.int .i64 c))).run Try.prog w = .ok (.bool (!decide (o = some c))) w := by
  cases o with
  | none =>
    have h : (binOp .neq 29 .nilIface (.iface 50 (.int .i64 c))).run Try.prog w = .ok (.bool true) w := by kernel_rfl
    simpa [errT] using h
  | some d =>
    have e : (!decide (some d = some c)) = (d != c) := by
      rw [Bool.eq_iff_iff]
      simp
    rw [e]
    have h1 := int_step 9998 d c w
    have h2 : (Op.equalIn Op.maxDepth 29 (errT (some d)) (.iface 50 (.int .i64 c))).run Try.prog w = .ok (d == c) w := h1
    simp only [errT] at h2 ⊢
    simp [binOp, Op.equal, h2]
    simp only [bne, Bool.not_not]
theorem guard_err_neqs (t u : Nat) (o : Option Int) (c : Int) (w : World) : (do eqGuard .neq 29 (.tmp t) (.tmp u) (errT o) (.iface 50 (.int .i64 c)); binOp .neq 29 (errT o) (.iface 50 (.int .i64 c)) : Sem Value).run Try.prog w = .ok (.bool (!decide (o = some c))) w := by
  have h := run_err_neqs o c w
  cases o with
  | none => simpa [eqGuard, errT] using h
  | some d => simpa [eqGuard, errT] using h
set_option maxHeartbeats 4000000 in
theorem alive_calls  (w : World) :
    Calls Try.prog 9 #[] w fun e w' => e = .returned (.bool true) ∧ Below w.heap.size w w' := by
  refine calls_flow Try.func9 rfl 72 rfl (Nat.le_of_ble_eq_true rfl) [] ?_ ?_
  · intro t v h; exact args_look rfl t v h
  refine w_seq ?_
  refine w_region ?_
  refine rw_val (v := .bool false) (w' := w) rfl rfl rfl rfl rfl ?_
  refine rw_end ?_
  refine w_seq ?_
  refine w_region ?_
  refine rw_call rfl rfl rfl rfl (f := 10) (args := #[]) (by simp [go_sem, sEv, sLook, nbeq, i64_w, -List.getD_eq_getElem?_getD]) (new_T w) ?_
  rintro e_ w2 ⟨g1, rfl, hT3, hs4⟩
  refine ⟨_, rfl, ?_⟩
  have hT3o : TapeAt w w2 g1 w2.heap.size (fun _ => False) TS.start := new_on (Below.refl _ _) hT3
  have hz_w2 := hT3o.size
  refine rw_val (v := .pointer (some ⟨g1, 0, none⟩)) (w' := w2) rfl rfl rfl rfl rfl ?_
  refine rw_end ?_
  refine w_seq ?_
  refine w_region ?_
  refine rw_val (v := .pointer (some ⟨g1, 0, none⟩)) (w' := w2) rfl rfl rfl rfl rfl ?_
  refine rw_call rfl rfl rfl rfl (f := 11) (args := #[.pointer (some ⟨g1, 0, none⟩)]) (by simp [go_sem, sEv, sLook, nbeq, i64_w, -List.getD_eq_getElem?_getD]) (open_full w w2 g1 w2.heap.size (fun _ => False) (fun q h_ => h_.elim) TS.start (TapeAt.hole hT3o _ (fun _ _ _ _ h => h)) (okB_ok (by decide +kernel)) ([] : List (List Int)) (by rfl) (by intro r hr; cases hr) (by intro r hr; cases hr) rfl) ?_
  rintro e_ w9 ⟨gd5, m6, A7, c8, rfl, hD10, hO11, hs12, hK14⟩
  refine ⟨_, rfl, ?_⟩
  obtain ⟨hD10t, hD10b, hD10g, hD10z, hD10x⟩ := hD10
  have hz_w9 := hD10t.size
  have hlt_w9 := hD10b.lt
  have hL13 : OwnK (Kd.slice 5 (Kd.int .u8)) 32 w9 w.heap.size w.heap.size A7 (([] : List (List Int))).length c8 ([] : List (List Int)) := OwnK.mono (d := (Kd.slice 5 (Kd.int .u8))) (OwnK.lower (d := (Kd.slice 5 (Kd.int .u8))) hO11 (by omega)) (by omega)
  refine rw_val (v := .tuple #[.pointer (some ⟨gd5, 0, none⟩), .slice A7 ((([] : List (List Int))).length) c8, errT none]) (w' := w9) rfl rfl rfl rfl rfl ?_
  refine rw_val (v := .pointer (some ⟨gd5, 0, none⟩)) (w' := w9) rfl rfl rfl rfl (by simp [go_sem, sEv, sLook, nbeq, i64_w, -List.getD_eq_getElem?_getD]) ?_
  refine rw_val (v := .slice A7 ((([] : List (List Int))).length) c8) (w' := w9) rfl rfl rfl rfl (by simp [go_sem, sEv, sLook, nbeq, i64_w, -List.getD_eq_getElem?_getD]) ?_
  refine rw_val (v := errT none) (w' := w9) rfl rfl rfl rfl (by simp [go_sem, sEv, sLook, nbeq, i64_w, -List.getD_eq_getElem?_getD]) ?_
  refine rw_val (v := .pointer (some ⟨gd5, 0, none⟩)) (w' := w9) rfl rfl rfl rfl rfl ?_
  refine rw_val (v := .slice A7 ((([] : List (List Int))).length) c8) (w' := w9) rfl rfl rfl rfl rfl ?_
  refine rw_val (v := errT none) (w' := w9) rfl rfl rfl rfl rfl ?_
  refine rw_end ?_
  refine w_weaken (G' := [(0, .bool false), (1, .pointer (some ⟨g1, 0, none⟩)), (2, .pointer (some ⟨gd5, 0, none⟩)), (3, .slice A7 ((([] : List (List Int))).length) c8), (4, errT none)]) ⟨rfl, rfl, rfl, rfl, rfl, trivial⟩ ?_
  refine w_seq ?_
  refine w_seq ?_
  refine w_region ?_
  refine rw_val (v := errT none) (w' := w9) rfl rfl rfl rfl rfl ?_
  refine rw_val (v := .bool ((none : Option Int).isSome)) (w' := w9) rfl rfl rfl rfl (run_as (guard_err_neq _ (none : Option Int) _)) ?_
  refine rw_val (v := .bool ((none : Option Int).isSome)) (w' := w9) rfl rfl rfl rfl rfl ?_
  have hq15 : ((none : Option Int).isSome) = false := by rfl
  refine rw_on (c := (none : Option Int).isSome) rfl rfl rfl (by first | (rw [hq15]; rfl) | simp [hq15]) ?_
  refine rw_val (v := .pointer (some ⟨gd5, 0, none⟩)) (w' := w9) rfl rfl rfl rfl rfl ?_
  refine rw_on (c := (none : Option Int).isSome) rfl rfl rfl (by first | (rw [hq15]; rfl) | simp [hq15]) ?_
  refine rw_val (v := .bool false) (w' := w9) rfl rfl rfl rfl (run_as (run_ptr_eql (e := 80) (by kernel_rfl) _ _)) ?_
  refine rw_val (v := .bool false) (w' := w9) rfl rfl rfl rfl (by first | (simp [go_sem, sEv, sLook, nbeq, i64_w, -List.getD_eq_getElem?_getD, hq15]; done) | (rw [hq15]; simp [go_sem, sEv, sLook, nbeq, i64_w, -List.getD_eq_getElem?_getD]; done) | (simp [go_sem, sEv, sLook, nbeq, i64_w, -List.getD_eq_getElem?_getD] <;> omega) | (simp [go_sem, sEv, sLook, nbeq, i64_w, -List.getD_eq_getElem?_getD]; intro h_; exact absurd (by omega) h_)) ?_
  refine rw_val (v := .bool false) (w' := w9) rfl rfl rfl rfl rfl ?_
  refine rw_on (c := false) rfl rfl rfl rfl ?_
  refine rw_val (v := .slice A7 ((([] : List (List Int))).length) c8) (w' := w9) rfl rfl rfl rfl rfl ?_
  refine rw_on (c := false) rfl rfl rfl rfl ?_
  refine rw_val (v := .int .i64 (((([] : List (List Int))).length : Nat) : Int)) (w' := w9) rfl rfl rfl rfl (by simp [go_sem, sEv, sLook, nbeq, i64_w, -List.getD_eq_getElem?_getD]) ?_
  refine rw_on (c := false) rfl rfl rfl rfl ?_
  refine rw_val (v := .bool ((((([] : List (List Int))).length : Nat) : Int) != 0)) (w' := w9) rfl rfl rfl rfl (by simp [go_sem, sEv, sLook, nbeq, i64_w, -List.getD_eq_getElem?_getD]) ?_
  refine rw_val (v := .bool ((((([] : List (List Int))).length : Nat) : Int) != 0)) (w' := w9) rfl rfl rfl rfl (by simp [go_sem, sEv, sLook, nbeq, i64_w, -List.getD_eq_getElem?_getD]) ?_
  refine rw_val (v := .bool ((((([] : List (List Int))).length : Nat) : Int) != 0)) (w' := w9) rfl rfl rfl rfl rfl ?_
  have hq16 : ((((([] : List (List Int))).length : Nat) : Int) != 0) = false := by rfl
  refine rw_on (c := ((((([] : List (List Int))).length : Nat) : Int) != 0)) rfl rfl rfl (by first | (rw [hq16]; rfl) | simp [hq16]) ?_
  refine rw_val (v := .pointer (some ⟨gd5, 0, none⟩)) (w' := w9) rfl rfl rfl rfl rfl ?_
  refine rw_on (c := ((((([] : List (List Int))).length : Nat) : Int) != 0)) rfl rfl rfl (by first | (rw [hq16]; rfl) | simp [hq16]) ?_
  refine rw_new (cs := #[.int .u8 97]) (t := 5) (fun g => .slice (some ⟨g, 0, none⟩) 1 1) rfl rfl rfl rfl (by kernel_rfl) ?_
  intro g17 w18 hg22 hz21 hb19 hk20
  have hs_w18 := hb19.size
  have hk20r : OwnK (Kd.int .u8) 5 w18 w.heap.size g17 (some ⟨g17, 0, none⟩) 1 1 ([97] : List Int) := scal_own w.heap.size hk20 (by omega) rfl rfl (by simp)
  refine rw_on (c := ((((([] : List (List Int))).length : Nat) : Int) != 0)) rfl rfl rfl (by first | (rw [hq16]; rfl) | simp [hq16]) ?_
  obtain ⟨w23, hr24, hk25, hf26⟩ := conv_same hk20 1 1
  refine rw_val (v := .slice (some ⟨g17, 0, none⟩) 1 1) (w' := w23) rfl rfl rfl rfl (run_as hr24) ?_
  have hs_w23 := hk25.size
  have hC27 : (Kd.int .u8).C w23 (some ⟨g17, 0, none⟩) 1 ([97] : List Int) := FB.C hf26 (fun j hj => by
    match j, hj with
    | 0, _ => rfl
    | j + 1, hj => simp only [List.length_cons, List.length_nil] at hj; omega) (by decide)
  refine rw_on (c := ((((([] : List (List Int))).length : Nat) : Int) != 0)) rfl rfl rfl (by first | (rw [hq16]; rfl) | simp [hq16]) ?_
  refine rw_call rfl rfl rfl rfl (f := 12) (args := #[.pointer (some ⟨gd5, 0, none⟩), .slice (some ⟨g17, 0, none⟩) 1 1]) (by simp [go_sem, sEv, sLook, nbeq, i64_w, -List.getD_eq_getElem?_getD]) (add_D w w23 g1 gd5 m6 (HX gd5 (fun _ => False)) (HX.lt (by omega) (fun q h_ => h_.elim)) (⟨TS.start, ((([] : List (List Int))).length : Int), ((FC ([] : List (List Int))).length : Int)⟩ : DS) ⟨(TapeAt.far (TapeAt.on hD10t hb19) hk25 (by omega) (by omega)), ((hD10b.on hb19).keep hk25 (by omega)), hD10g, hD10z, (.inl rfl)⟩ (okB_ok (by decide +kernel)) (by decide +kernel) (by decide +kernel) (by decide +kernel) (some ⟨g17, 0, none⟩) 1 ([97] : List Int) (Kd.C_below hC27 (Below.refl _ _)) (Nat.le_refl _) (by first | omega | (simp only [List.length_cons, List.length_nil]; omega))) ?_
  rintro e_ w30 ⟨rfl, m29, hD31, hs32, hk33⟩
  refine ⟨errT ((⟨TS.start, ((([] : List (List Int))).length : Int), ((FC ([] : List (List Int))).length : Int)⟩ : DS).addE ([97] : List Int)), rfl, ?_⟩
  obtain ⟨hD31t, hD31b, hD31g, hD31z, hD31x⟩ := hD31
  have hz_w30 := hD31t.size
  have hlt_w30 := hD31b.lt
  refine rw_on (c := ((((([] : List (List Int))).length : Nat) : Int) != 0)) rfl rfl rfl (by first | (rw [hq16]; rfl) | simp [hq16]) ?_
  refine rw_val (v := .bool (((⟨TS.start, ((([] : List (List Int))).length : Int), ((FC ([] : List (List Int))).length : Int)⟩ : DS).addE ([97] : List Int)).isSome)) (w' := w30) rfl rfl rfl rfl (run_as (guard_err_neq _ ((⟨TS.start, ((([] : List (List Int))).length : Int), ((FC ([] : List (List Int))).length : Int)⟩ : DS).addE ([97] : List Int)) _)) ?_
  refine rw_val (v := .bool (((⟨TS.start, ((([] : List (List Int))).length : Int), ((FC ([] : List (List Int))).length : Int)⟩ : DS).addE ([97] : List Int)).isSome)) (w' := w30) rfl rfl rfl rfl (by first | (simp [go_sem, sEv, sLook, nbeq, i64_w, -List.getD_eq_getElem?_getD, hq16]; done) | (rw [hq16]; simp [go_sem, sEv, sLook, nbeq, i64_w, -List.getD_eq_getElem?_getD]; done) | (simp [go_sem, sEv, sLook, nbeq, i64_w, -List.getD_eq_getElem?_getD] <;> omega) | (simp [go_sem, sEv, sLook, nbeq, i64_w, -List.getD_eq_getElem?_getD]; intro h_; exact absurd (by omega) h_)) ?_
  refine rw_val (v := .bool (((⟨TS.start, ((([] : List (List Int))).length : Int), ((FC ([] : List (List Int))).length : Int)⟩ : DS).addE ([97] : List Int)).isSome)) (w' := w30) rfl rfl rfl rfl rfl ?_
  have hq34 : (((⟨TS.start, ((([] : List (List Int))).length : Int), ((FC ([] : List (List Int))).length : Int)⟩ : DS).addE ([97] : List Int)).isSome) = false := by kernel_rfl
  refine rw_on (c := ((⟨TS.start, ((([] : List (List Int))).length : Int), ((FC ([] : List (List Int))).length : Int)⟩ : DS).addE ([97] : List Int)).isSome) rfl rfl rfl (by first | (rw [hq34]; rfl) | simp [hq34]) ?_
  refine rw_val (v := .pointer (some ⟨g1, 0, none⟩)) (w' := w30) rfl rfl rfl rfl rfl ?_
  refine rw_on (c := ((⟨TS.start, ((([] : List (List Int))).length : Int), ((FC ([] : List (List Int))).length : Int)⟩ : DS).addE ([97] : List Int)).isSome) rfl rfl rfl (by first | (rw [hq34]; rfl) | simp [hq34]) ?_
  refine rw_call rfl rfl rfl rfl (f := 19) (args := #[.pointer (some ⟨g1, 0, none⟩), .int .i64 1]) (by simp [go_sem, sEv, sLook, nbeq, i64_w, -List.getD_eq_getElem?_getD]) (arm_T w w30 g1 m29 (HX gd5 (fun _ => False)) (HX.lt (by omega) (fun q h_ => h_.elim)) (((⟨TS.start, ((([] : List (List Int))).length : Int), ((FC ([] : List (List Int))).length : Int)⟩ : DS).add ([97] : List Int)).s) hD31t (okB_ok (by decide +kernel)) 1 rfl) ?_
  rintro e_ w35 ⟨rfl, hT36, hs37, hx38⟩
  refine ⟨_, rfl, ?_⟩
  have hz_w35 := hT36.size
  have hk_w35 : Blk w35 gd5 80 _ := (hx38 gd5 hD31x hD31g).trans (hD31b)
  have hlt_w35 := hk_w35.lt
  refine rw_on (c := ((⟨TS.start, ((([] : List (List Int))).length : Int), ((FC ([] : List (List Int))).length : Int)⟩ : DS).addE ([97] : List Int)).isSome) rfl rfl rfl (by first | (rw [hq34]; rfl) | simp [hq34]) ?_
  refine rw_val (v := .bool ((none : Option Int).isSome)) (w' := w35) rfl rfl rfl rfl (run_as (guard_err_neq _ (none : Option Int) _)) ?_
  refine rw_val (v := .bool ((none : Option Int).isSome)) (w' := w35) rfl rfl rfl rfl (by first | (simp [go_sem, sEv, sLook, nbeq, i64_w, -List.getD_eq_getElem?_getD, hq34]; done) | (rw [hq34]; simp [go_sem, sEv, sLook, nbeq, i64_w, -List.getD_eq_getElem?_getD]; done) | (simp [go_sem, sEv, sLook, nbeq, i64_w, -List.getD_eq_getElem?_getD] <;> omega) | (simp [go_sem, sEv, sLook, nbeq, i64_w, -List.getD_eq_getElem?_getD]; intro h_; exact absurd (by omega) h_)) ?_
  refine rw_val (v := .bool ((none : Option Int).isSome)) (w' := w35) rfl rfl rfl rfl rfl ?_
  refine rw_on (c := (none : Option Int).isSome) rfl rfl rfl (by first | (rw [hq15]; rfl) | simp [hq15]) ?_
  refine rw_val (v := .pointer (some ⟨gd5, 0, none⟩)) (w' := w35) rfl rfl rfl rfl rfl ?_
  refine rw_on (c := (none : Option Int).isSome) rfl rfl rfl (by first | (rw [hq15]; rfl) | simp [hq15]) ?_
  refine rw_new (cs := #[.int .u8 98]) (t := 5) (fun g => .slice (some ⟨g, 0, none⟩) 1 1) rfl rfl rfl rfl (by kernel_rfl) ?_
  intro g39 w40 hg44 hz43 hb41 hk42
  have hs_w40 := hb41.size
  have hk42r : OwnK (Kd.int .u8) 5 w40 w.heap.size g39 (some ⟨g39, 0, none⟩) 1 1 ([98] : List Int) := scal_own w.heap.size hk42 (by omega) rfl rfl (by simp)
  refine rw_on (c := (none : Option Int).isSome) rfl rfl rfl (by first | (rw [hq15]; rfl) | simp [hq15]) ?_
  obtain ⟨w45, hr46, hk47, hf48⟩ := conv_same hk42 1 1
  refine rw_val (v := .slice (some ⟨g39, 0, none⟩) 1 1) (w' := w45) rfl rfl rfl rfl (run_as hr46) ?_
  have hs_w45 := hk47.size
  have hC49 : (Kd.int .u8).C w45 (some ⟨g39, 0, none⟩) 1 ([98] : List Int) := FB.C hf48 (fun j hj => by
    match j, hj with
    | 0, _ => rfl
    | j + 1, hj => simp only [List.length_cons, List.length_nil] at hj; omega) (by decide)
  refine rw_on (c := (none : Option Int).isSome) rfl rfl rfl (by first | (rw [hq15]; rfl) | simp [hq15]) ?_
  refine rw_call rfl rfl rfl rfl (f := 12) (args := #[.pointer (some ⟨gd5, 0, none⟩), .slice (some ⟨g39, 0, none⟩) 1 1]) (by simp [go_sem, sEv, sLook, nbeq, i64_w, -List.getD_eq_getElem?_getD]) (add_D w w45 g1 gd5 w35.heap.size (HX gd5 (fun _ => False)) (HX.lt (by omega) (fun q h_ => h_.elim)) (⟨({ ((⟨TS.start, ((([] : List (List Int))).length : Int), ((FC ([] : List (List Int))).length : Int)⟩ : DS).add ([97] : List Int)).s with ps := true, pl := 1 } : TS), ((⟨TS.start, ((([] : List (List Int))).length : Int), ((FC ([] : List (List Int))).length : Int)⟩ : DS).add ([97] : List Int)).r, ((⟨TS.start, ((([] : List (List Int))).length : Int), ((FC ([] : List (List Int))).length : Int)⟩ : DS).add ([97] : List Int)).b⟩ : DS) ⟨(TapeAt.far (TapeAt.on hT36 hb41) hk47 (by omega) (by omega)), ((hk_w35.on hb41).keep hk47 (by omega)), hD31g, hD31z, hD31x⟩ (okB_ok (by decide +kernel)) (by decide +kernel) (by decide +kernel) (by decide +kernel) (some ⟨g39, 0, none⟩) 1 ([98] : List Int) (Kd.C_below hC49 (Below.refl _ _)) (Nat.le_refl _) (by first | omega | (simp only [List.length_cons, List.length_nil]; omega))) ?_
  rintro e_ w52 ⟨rfl, m51, hD53, hs54, hk55⟩
  refine ⟨errT ((⟨({ ((⟨TS.start, ((([] : List (List Int))).length : Int), ((FC ([] : List (List Int))).length : Int)⟩ : DS).add ([97] : List Int)).s with ps := true, pl := 1 } : TS), ((⟨TS.start, ((([] : List (List Int))).length : Int), ((FC ([] : List (List Int))).length : Int)⟩ : DS).add ([97] : List Int)).r, ((⟨TS.start, ((([] : List (List Int))).length : Int), ((FC ([] : List (List Int))).length : Int)⟩ : DS).add ([97] : List Int)).b⟩ : DS).addE ([98] : List Int)), rfl, ?_⟩
  obtain ⟨hD53t, hD53b, hD53g, hD53z, hD53x⟩ := hD53
  have hz_w52 := hD53t.size
  have hlt_w52 := hD53b.lt
  refine rw_on (c := (none : Option Int).isSome) rfl rfl rfl (by first | (rw [hq15]; rfl) | simp [hq15]) ?_
  refine rw_val (v := errT (some 5)) (w' := w52) rfl rfl rfl rfl (by simp [go_sem, sEv, sLook, nbeq, i64_w, -List.getD_eq_getElem?_getD, errT]) ?_
  refine rw_on (c := (none : Option Int).isSome) rfl rfl rfl (by first | (rw [hq15]; rfl) | simp [hq15]) ?_
  refine rw_val (v := .bool false) (w' := w52) rfl rfl rfl rfl (run_bool (run_as (guard_err_neqs _ _ ((⟨({ ((⟨TS.start, ((([] : List (List Int))).length : Int), ((FC ([] : List (List Int))).length : Int)⟩ : DS).add ([97] : List Int)).s with ps := true, pl := 1 } : TS), ((⟨TS.start, ((([] : List (List Int))).length : Int), ((FC ([] : List (List Int))).length : Int)⟩ : DS).add ([97] : List Int)).r, ((⟨TS.start, ((([] : List (List Int))).length : Int), ((FC ([] : List (List Int))).length : Int)⟩ : DS).add ([97] : List Int)).b⟩ : DS).addE ([98] : List Int)) 5 _)) (by decide +kernel)) ?_
  refine rw_val (v := .bool false) (w' := w52) rfl rfl rfl rfl (by first | (simp [go_sem, sEv, sLook, nbeq, i64_w, -List.getD_eq_getElem?_getD, hq15]; done) | (rw [hq15]; simp [go_sem, sEv, sLook, nbeq, i64_w, -List.getD_eq_getElem?_getD]; done) | (simp [go_sem, sEv, sLook, nbeq, i64_w, -List.getD_eq_getElem?_getD] <;> omega) | (simp [go_sem, sEv, sLook, nbeq, i64_w, -List.getD_eq_getElem?_getD]; intro h_; exact absurd (by omega) h_)) ?_
  refine rw_end ?_
  refine w_weaken (G' := [(0, .bool false), (1, .pointer (some ⟨g1, 0, none⟩)), (3, .slice A7 ((([] : List (List Int))).length) c8), (4, errT none), (42, .bool false)]) ⟨rfl, rfl, rfl, rfl, rfl, trivial⟩ ?_
  refine w_cond_f rfl rfl rfl ?_
  refine w_skip ?_
  refine w_seq ?_
  refine w_region ?_
  refine rw_val (v := .pointer (some ⟨g1, 0, none⟩)) (w' := w52) rfl rfl rfl rfl rfl ?_
  refine rw_call rfl rfl rfl rfl (f := 22) (args := #[.pointer (some ⟨g1, 0, none⟩), .int .i64 100]) (by simp [go_sem, sEv, sLook, nbeq, i64_w, -List.getD_eq_getElem?_getD]) (crash_T w w52 g1 m51 (HX gd5 (fun _ => False)) (HX.lt (by omega) (fun q h_ => h_.elim)) (((⟨({ ((⟨TS.start, ((([] : List (List Int))).length : Int), ((FC ([] : List (List Int))).length : Int)⟩ : DS).add ([97] : List Int)).s with ps := true, pl := 1 } : TS), ((⟨TS.start, ((([] : List (List Int))).length : Int), ((FC ([] : List (List Int))).length : Int)⟩ : DS).add ([97] : List Int)).r, ((⟨TS.start, ((([] : List (List Int))).length : Int), ((FC ([] : List (List Int))).length : Int)⟩ : DS).add ([97] : List Int)).b⟩ : DS).add ([98] : List Int)).s) hD53t (okB_ok (by decide +kernel)) 100) ?_
  rintro e_ w56 ⟨rfl, hT57, hs58, hx59⟩
  refine ⟨.tuple #[], rfl, ?_⟩
  have hz_w56 := hT57.size
  have hk_w56 : Blk w56 gd5 80 _ := (hx59 gd5 hD53x hD53g).trans (hD53b)
  have hlt_w56 := hk_w56.lt
  refine rw_end ?_
  refine w_seq ?_
  refine w_region ?_
  refine rw_val (v := .pointer (some ⟨g1, 0, none⟩)) (w' := w56) rfl rfl rfl rfl rfl ?_
  refine rw_call rfl rfl rfl rfl (f := 11) (args := #[.pointer (some ⟨g1, 0, none⟩)]) (by simp [go_sem, sEv, sLook, nbeq, i64_w, -List.getD_eq_getElem?_getD]) (open_full w w56 g1 w56.heap.size (fun _ => False) (fun q h_ => h_.elim) (TS.crash (((⟨({ ((⟨TS.start, ((([] : List (List Int))).length : Int), ((FC ([] : List (List Int))).length : Int)⟩ : DS).add ([97] : List Int)).s with ps := true, pl := 1 } : TS), ((⟨TS.start, ((([] : List (List Int))).length : Int), ((FC ([] : List (List Int))).length : Int)⟩ : DS).add ([97] : List Int)).r, ((⟨TS.start, ((([] : List (List Int))).length : Int), ((FC ([] : List (List Int))).length : Int)⟩ : DS).add ([97] : List Int)).b⟩ : DS).add ([98] : List Int)).s) 100) (TapeAt.hole hT57 _ (fun _ _ _ _ h => h)) (okB_ok (by decide +kernel)) ([[97], [98]] : List (List Int)) (by kernel_rfl) (by decide +kernel) (by intro r hr; simp only [List.mem_cons, List.not_mem_nil, or_false] at hr; rcases hr with rfl | rfl <;> (intro c hc; rw [List.mem_singleton.1 hc]; omega)) (by kernel_rfl)) ?_
  rintro e_ w64 ⟨gd60, m61, A62, c63, rfl, hD65, hO66, hs67, hK69⟩
  refine ⟨_, rfl, ?_⟩
  have hold_w64 : Blk w64 gd5 80 (dcells g1 (⟨(TS.crash (((⟨({ ((⟨TS.start, ((([] : List (List Int))).length : Int), ((FC ([] : List (List Int))).length : Int)⟩ : DS).add ([97] : List Int)).s with ps := true, pl := 1 } : TS), ((⟨TS.start, ((([] : List (List Int))).length : Int), ((FC ([] : List (List Int))).length : Int)⟩ : DS).add ([97] : List Int)).r, ((⟨TS.start, ((([] : List (List Int))).length : Int), ((FC ([] : List (List Int))).length : Int)⟩ : DS).add ([97] : List Int)).b⟩ : DS).add ([98] : List Int)).s) 100), ((⟨({ ((⟨TS.start, ((([] : List (List Int))).length : Int), ((FC ([] : List (List Int))).length : Int)⟩ : DS).add ([97] : List Int)).s with ps := true, pl := 1 } : TS), ((⟨TS.start, ((([] : List (List Int))).length : Int), ((FC ([] : List (List Int))).length : Int)⟩ : DS).add ([97] : List Int)).r, ((⟨TS.start, ((([] : List (List Int))).length : Int), ((FC ([] : List (List Int))).length : Int)⟩ : DS).add ([97] : List Int)).b⟩ : DS).add ([98] : List Int)).r, ((⟨({ ((⟨TS.start, ((([] : List (List Int))).length : Int), ((FC ([] : List (List Int))).length : Int)⟩ : DS).add ([97] : List Int)).s with ps := true, pl := 1 } : TS), ((⟨TS.start, ((([] : List (List Int))).length : Int), ((FC ([] : List (List Int))).length : Int)⟩ : DS).add ([97] : List Int)).r, ((⟨TS.start, ((([] : List (List Int))).length : Int), ((FC ([] : List (List Int))).length : Int)⟩ : DS).add ([97] : List Int)).b⟩ : DS).add ([98] : List Int)).b⟩ : DS).r (⟨(TS.crash (((⟨({ ((⟨TS.start, ((([] : List (List Int))).length : Int), ((FC ([] : List (List Int))).length : Int)⟩ : DS).add ([97] : List Int)).s with ps := true, pl := 1 } : TS), ((⟨TS.start, ((([] : List (List Int))).length : Int), ((FC ([] : List (List Int))).length : Int)⟩ : DS).add ([97] : List Int)).r, ((⟨TS.start, ((([] : List (List Int))).length : Int), ((FC ([] : List (List Int))).length : Int)⟩ : DS).add ([97] : List Int)).b⟩ : DS).add ([98] : List Int)).s) 100), ((⟨({ ((⟨TS.start, ((([] : List (List Int))).length : Int), ((FC ([] : List (List Int))).length : Int)⟩ : DS).add ([97] : List Int)).s with ps := true, pl := 1 } : TS), ((⟨TS.start, ((([] : List (List Int))).length : Int), ((FC ([] : List (List Int))).length : Int)⟩ : DS).add ([97] : List Int)).r, ((⟨TS.start, ((([] : List (List Int))).length : Int), ((FC ([] : List (List Int))).length : Int)⟩ : DS).add ([97] : List Int)).b⟩ : DS).add ([98] : List Int)).r, ((⟨({ ((⟨TS.start, ((([] : List (List Int))).length : Int), ((FC ([] : List (List Int))).length : Int)⟩ : DS).add ([97] : List Int)).s with ps := true, pl := 1 } : TS), ((⟨TS.start, ((([] : List (List Int))).length : Int), ((FC ([] : List (List Int))).length : Int)⟩ : DS).add ([97] : List Int)).r, ((⟨TS.start, ((([] : List (List Int))).length : Int), ((FC ([] : List (List Int))).length : Int)⟩ : DS).add ([97] : List Int)).b⟩ : DS).add ([98] : List Int)).b⟩ : DS).b) := (hK69.2 gd5 (by have h_ := (hk_w56).lt; omega) hD53g).trans (hk_w56)
  obtain ⟨hD65t, hD65b, hD65g, hD65z, hD65x⟩ := hD65
  have hz_w64 := hD65t.size
  have hlt_w64 := hD65b.lt
  have hL68 : OwnK (Kd.slice 5 (Kd.int .u8)) 32 w64 w.heap.size w.heap.size A62 (([[97], [98]] : List (List Int))).length c63 ([[97], [98]] : List (List Int)) := OwnK.mono (d := (Kd.slice 5 (Kd.int .u8))) (OwnK.lower (d := (Kd.slice 5 (Kd.int .u8))) hO66 (by omega)) (by omega)
  refine rw_val (v := .tuple #[.pointer (some ⟨gd60, 0, none⟩), .slice A62 ((([[97], [98]] : List (List Int))).length) c63, errT none]) (w' := w64) rfl rfl rfl rfl rfl ?_
  refine rw_val (v := .pointer (some ⟨gd60, 0, none⟩)) (w' := w64) rfl rfl rfl rfl (by simp [go_sem, sEv, sLook, nbeq, i64_w, -List.getD_eq_getElem?_getD]) ?_
  refine rw_val (v := .slice A62 ((([[97], [98]] : List (List Int))).length) c63) (w' := w64) rfl rfl rfl rfl (by simp [go_sem, sEv, sLook, nbeq, i64_w, -List.getD_eq_getElem?_getD]) ?_
  refine rw_val (v := errT none) (w' := w64) rfl rfl rfl rfl (by simp [go_sem, sEv, sLook, nbeq, i64_w, -List.getD_eq_getElem?_getD]) ?_
  refine rw_val (v := .slice A62 ((([[97], [98]] : List (List Int))).length) c63) (w' := w64) rfl rfl rfl rfl rfl ?_
  refine rw_val (v := errT none) (w' := w64) rfl rfl rfl rfl rfl ?_
  refine rw_end ?_
  refine w_weaken (G' := [(0, .bool false), (3, .slice A62 ((([[97], [98]] : List (List Int))).length) c63), (4, errT none)]) ⟨rfl, rfl, rfl, trivial⟩ ?_
  refine w_seq ?_
  refine w_region ?_
  refine rw_val (v := errT none) (w' := w64) rfl rfl rfl rfl rfl ?_
  refine rw_val (v := .bool ((none : Option Int).isNone)) (w' := w64) rfl rfl rfl rfl (run_as (guard_err_eq0 _ (none : Option Int) _)) ?_
  refine rw_val (v := .bool ((none : Option Int).isNone)) (w' := w64) rfl rfl rfl rfl rfl ?_
  have hq70 : ((none : Option Int).isNone) = true := by rfl
  refine rw_on (c := (none : Option Int).isNone) rfl rfl rfl (by first | (rw [hq70]; rfl) | simp [hq70]) ?_
  refine rw_val (v := .slice A62 ((([[97], [98]] : List (List Int))).length) c63) (w' := w64) rfl rfl rfl rfl rfl ?_
  refine rw_on (c := (none : Option Int).isNone) rfl rfl rfl (by first | (rw [hq70]; rfl) | simp [hq70]) ?_
  refine rw_val (v := .int .i64 (((([[97], [98]] : List (List Int))).length : Nat) : Int)) (w' := w64) rfl rfl rfl rfl (by simp [go_sem, sEv, sLook, nbeq, i64_w, -List.getD_eq_getElem?_getD]) ?_
  refine rw_on (c := (none : Option Int).isNone) rfl rfl rfl (by first | (rw [hq70]; rfl) | simp [hq70]) ?_
  refine rw_val (v := .bool ((((([[97], [98]] : List (List Int))).length : Nat) : Int) == 2)) (w' := w64) rfl rfl rfl rfl (by simp [go_sem, sEv, sLook, nbeq, i64_w, -List.getD_eq_getElem?_getD]) ?_
  refine rw_val (v := .bool ((((([[97], [98]] : List (List Int))).length : Nat) : Int) == 2)) (w' := w64) rfl rfl rfl rfl (by first | (simp [go_sem, sEv, sLook, nbeq, i64_w, -List.getD_eq_getElem?_getD, hq70]; done) | (rw [hq70]; simp [go_sem, sEv, sLook, nbeq, i64_w, -List.getD_eq_getElem?_getD]; done) | (simp [go_sem, sEv, sLook, nbeq, i64_w, -List.getD_eq_getElem?_getD] <;> omega) | (simp [go_sem, sEv, sLook, nbeq, i64_w, -List.getD_eq_getElem?_getD]; intro h_; exact absurd (by omega) h_)) ?_
  refine rw_val (v := .bool ((((([[97], [98]] : List (List Int))).length : Nat) : Int) == 2)) (w' := w64) rfl rfl rfl rfl rfl ?_
  have hq71 : ((((([[97], [98]] : List (List Int))).length : Nat) : Int) == 2) = true := by rfl
  refine rw_on (c := ((((([[97], [98]] : List (List Int))).length : Nat) : Int) == 2)) rfl rfl rfl (by first | (rw [hq71]; rfl) | simp [hq71]) ?_
  refine rw_val (v := .slice A62 ((([[97], [98]] : List (List Int))).length) c63) (w' := w64) rfl rfl rfl rfl rfl ?_
  refine rw_on (c := ((((([[97], [98]] : List (List Int))).length : Nat) : Int) == 2)) rfl rfl rfl (by first | (rw [hq71]; rfl) | simp [hq71]) ?_
  obtain ⟨g75, rfl⟩ := OwnK.adr (d := (Kd.slice 5 (Kd.int .u8))) hL68 (by first | omega | decide)
  obtain ⟨hc74a, A76, c77, hA73, he78, hle79, hC80⟩ := rows_at (Kd.C_below (OwnK.C (d := (Kd.slice 5 (Kd.int .u8))) hL68) (Below.refl _ _)) 0 (by first | omega | decide)
  obtain rfl := Option.some.inj hA73
  have he81 : w64.cell? ⟨g75, 0, none⟩ = some (.slice A76 ((([[97], [98]] : List (List Int)).getD 0 []).length) c77) := cell_g he78 rfl
  refine rw_val (v := .pointer (some ⟨g75, 0, none⟩)) (w' := w64) rfl rfl rfl rfl (run_as (run_at_z (P := Try.prog) (e := 32) (sz := 1) (by kernel_rfl) (by kernel_rfl)  (by first | omega | decide) _)) ?_
  refine rw_on (c := ((((([[97], [98]] : List (List Int))).length : Nat) : Int) == 2)) rfl rfl rfl (by first | (rw [hq71]; rfl) | simp [hq71]) ?_
  refine rw_val (v := .slice A76 ((([[97], [98]] : List (List Int)).getD 0 []).length) c77) (w' := w64) rfl rfl rfl rfl (by have e0_ := cellOn he81 (Below.refl _ _); simp [go_sem, sEv, sLook, nbeq, i64_w, -List.getD_eq_getElem?_getD, e0_, Try.underlying32]) ?_
  refine rw_on (c := ((((([[97], [98]] : List (List Int))).length : Nat) : Int) == 2)) rfl rfl rfl (by first | (rw [hq71]; rfl) | simp [hq71]) ?_
  refine rw_val (v := .string (strOfNums (([[97], [98]] : List (List Int)).getD 0 []))) (w' := w64) rfl rfl rfl rfl (run_as (run_str_of (P := Try.prog) (e := 5) (by kernel_rfl) (by kernel_rfl) (by kernel_rfl) (Kd.C_below hC80 (Below.refl _ _)))) ?_
  refine rw_on (c := ((((([[97], [98]] : List (List Int))).length : Nat) : Int) == 2)) rfl rfl rfl (by first | (rw [hq71]; rfl) | simp [hq71]) ?_
  refine rw_val (v := .bool (decide (strOfNums (([[97], [98]] : List (List Int)).getD 0 []) = (⟨#[97]⟩ : ByteArray)))) (w' := w64) rfl rfl rfl rfl (run_as (run_str_eql 9 _ _ _)) ?_
  refine rw_val (v := .bool (decide (strOfNums (([[97], [98]] : List (List Int)).getD 0 []) = (⟨#[97]⟩ : ByteArray)))) (w' := w64) rfl rfl rfl rfl (by first | (simp [go_sem, sEv, sLook, nbeq, i64_w, -List.getD_eq_getElem?_getD, hq71]; done) | (rw [hq71]; simp [go_sem, sEv, sLook, nbeq, i64_w, -List.getD_eq_getElem?_getD]; done) | (simp [go_sem, sEv, sLook, nbeq, i64_w, -List.getD_eq_getElem?_getD] <;> omega) | (simp [go_sem, sEv, sLook, nbeq, i64_w, -List.getD_eq_getElem?_getD]; intro h_; exact absurd (by omega) h_)) ?_
  refine rw_val (v := .bool (decide (strOfNums (([[97], [98]] : List (List Int)).getD 0 []) = (⟨#[97]⟩ : ByteArray)))) (w' := w64) rfl rfl rfl rfl rfl ?_
  have hq82 : (decide (strOfNums (([[97], [98]] : List (List Int)).getD 0 []) = (⟨#[97]⟩ : ByteArray))) = true := by decide +kernel
  refine rw_on (c := decide (strOfNums (([[97], [98]] : List (List Int)).getD 0 []) = (⟨#[97]⟩ : ByteArray))) rfl rfl rfl (by first | (rw [hq82]; rfl) | simp [hq82]) ?_
  refine rw_val (v := .slice (some ⟨g75, 0, none⟩) ((([[97], [98]] : List (List Int))).length) c63) (w' := w64) rfl rfl rfl rfl rfl ?_
  refine rw_on (c := decide (strOfNums (([[97], [98]] : List (List Int)).getD 0 []) = (⟨#[97]⟩ : ByteArray))) rfl rfl rfl (by first | (rw [hq82]; rfl) | simp [hq82]) ?_
  obtain ⟨hc85a, A86, c87, hA84, he88, hle89, hC90⟩ := rows_at (Kd.C_below (OwnK.C (d := (Kd.slice 5 (Kd.int .u8))) hL68) (Below.refl _ _)) 1 (by first | omega | decide)
  obtain rfl := Option.some.inj hA84
  have he91 : w64.cell? ⟨g75, 1, none⟩ = some (.slice A86 ((([[97], [98]] : List (List Int)).getD 1 []).length) c87) := cell_g he88 rfl
  refine rw_val (v := .pointer (some ⟨g75, 1, none⟩)) (w' := w64) rfl rfl rfl rfl (by rw [← add_plain g75 (1)]; exact (run_as (run_at_1 (P := Try.prog) (e := 32) (by kernel_rfl) (by kernel_rfl) 1 (by first | omega | decide) _))) ?_
  refine rw_on (c := decide (strOfNums (([[97], [98]] : List (List Int)).getD 0 []) = (⟨#[97]⟩ : ByteArray))) rfl rfl rfl (by first | (rw [hq82]; rfl) | simp [hq82]) ?_
  refine rw_val (v := .slice A86 ((([[97], [98]] : List (List Int)).getD 1 []).length) c87) (w' := w64) rfl rfl rfl rfl (by have e0_ := cellOn he91 (Below.refl _ _); simp [go_sem, sEv, sLook, nbeq, i64_w, -List.getD_eq_getElem?_getD, e0_, Try.underlying32]) ?_
  refine rw_on (c := decide (strOfNums (([[97], [98]] : List (List Int)).getD 0 []) = (⟨#[97]⟩ : ByteArray))) rfl rfl rfl (by first | (rw [hq82]; rfl) | simp [hq82]) ?_
  refine rw_val (v := .string (strOfNums (([[97], [98]] : List (List Int)).getD 1 []))) (w' := w64) rfl rfl rfl rfl (run_as (run_str_of (P := Try.prog) (e := 5) (by kernel_rfl) (by kernel_rfl) (by kernel_rfl) (Kd.C_below hC90 (Below.refl _ _)))) ?_
  refine rw_on (c := decide (strOfNums (([[97], [98]] : List (List Int)).getD 0 []) = (⟨#[97]⟩ : ByteArray))) rfl rfl rfl (by first | (rw [hq82]; rfl) | simp [hq82]) ?_
  refine rw_val (v := .bool (decide (strOfNums (([[97], [98]] : List (List Int)).getD 1 []) = (⟨#[98]⟩ : ByteArray)))) (w' := w64) rfl rfl rfl rfl (run_as (run_str_eql 9 _ _ _)) ?_
  refine rw_val (v := .bool (decide (strOfNums (([[97], [98]] : List (List Int)).getD 1 []) = (⟨#[98]⟩ : ByteArray)))) (w' := w64) rfl rfl rfl rfl (by first | (simp [go_sem, sEv, sLook, nbeq, i64_w, -List.getD_eq_getElem?_getD, hq82]; done) | (rw [hq82]; simp [go_sem, sEv, sLook, nbeq, i64_w, -List.getD_eq_getElem?_getD]; done) | (simp [go_sem, sEv, sLook, nbeq, i64_w, -List.getD_eq_getElem?_getD] <;> omega) | (simp [go_sem, sEv, sLook, nbeq, i64_w, -List.getD_eq_getElem?_getD]; intro h_; exact absurd (by omega) h_)) ?_
  refine rw_val (v := .bool (decide (strOfNums (([[97], [98]] : List (List Int)).getD 1 []) = (⟨#[98]⟩ : ByteArray)))) (w' := w64) rfl rfl rfl rfl rfl ?_
  refine rw_end ?_
  refine w_weaken (G' := [(0, .bool (decide (strOfNums (([[97], [98]] : List (List Int)).getD 1 []) = (⟨#[98]⟩ : ByteArray))))]) ⟨rfl, trivial⟩ ?_
  have hq92 : (decide (strOfNums (([[97], [98]] : List (List Int)).getD 1 []) = (⟨#[98]⟩ : ByteArray))) = true := by decide +kernel
  refine w_ret (post_ret1 rfl rfl ?_)
  exact ⟨by simp only [hq92], hD65t.1⟩
end Go.Proofs.Ytiiljpaedelhlaa.Tp
namespace Go.Proofs.Ytiiljpaedelhlaa.Tp
open Go.RowKit Go.Proofs.YtiiljpaedelhlaaW.PrintWords Go.Proofs.YtiiljpaedelhlaaW.PrintLast Go.Proofs.YtiiljpaedelhlaaW.PrintMore
open Go.Proofs.Ytiiljpaedelhlaa.Flow
open Go.Proofs.Ytiiljpaedelhlaa.PDiaryPlays (SplitR Bytes frameB frameE FC wholeP errW wrap_calls frameB_len frameB_bytes)
set_option linter.unusedVariables false
set_option linter.unusedSimpArgs false
set_option maxHeartbeats 4000000 in
theorem texts_calls (w : World) (A1 : Option Addr) (c1 : Nat) (rows : List (List Int)) (hr : (Kd.slice 5 (Kd.int .u8)).C w A1 rows.length rows) (hc1 : rows.length ≤ c1) (hn : rows.length ≤ 6000000000000) :
    Calls Try.prog 14 #[.slice A1 rows.length c1] w fun e w' => ∃ A c, e = .returned (.slice A (rows.map strOfNums).length c) ∧ OwnK Kd.string 9 w' w.heap.size w.heap.size A (rows.map strOfNums).length c (rows.map strOfNums) ∧ Below w.heap.size w w' := by
  refine calls_flow Try.func14 rfl 20 rfl (Nat.le_of_ble_eq_true rfl) [(0, .slice A1 rows.length c1)] ?_ ?_
  · intro t v h; exact args_look rfl t v h
  refine w_seq ?_
  refine w_region ?_
  refine rw_val (v := .slice none 0 0) (w' := w) rfl rfl rfl rfl rfl ?_
  refine rw_end ?_
  refine w_seq ?_
  refine w_region ?_
  refine rw_new (cs := #[]) (t := 9) (fun g => .slice (some ⟨g, 0, none⟩) 0 0) rfl rfl rfl rfl (by kernel_rfl) ?_
  intro g1 w2 hg6 hz5 hb3 hk4
  have hs_w2 := hb3.size
  have hk4r : OwnK Kd.string 9 w2 w.heap.size g1 (some ⟨g1, 0, none⟩) 0 0 ([] : List ByteArray) := lit_nilK _ w.heap.size hk4 (by omega)
  refine rw_val (v := .slice (some ⟨g1, 0, none⟩) 0 0) (w' := w2) rfl rfl rfl rfl rfl ?_
  refine rw_end ?_
  refine w_seq ?_
  refine w_seq ?_
  refine w_region ?_
  refine rw_val (v := .slice A1 rows.length c1) (w' := w2) rfl rfl rfl rfl rfl ?_
  refine rw_val (v := .int .i64 ((rows.length : Nat) : Int)) (w' := w2) rfl rfl rfl rfl (by simp [go_sem, sEv, sLook, nbeq, i64_w, -List.getD_eq_getElem?_getD]) ?_
  refine rw_val (v := .int .i64 0) (w' := w2) rfl rfl rfl rfl rfl ?_
  refine rw_end ?_
  refine w_block ?_
  refine w_loop (fun m_ G W_ => ∃ (j : Nat) (A3_ : Option Addr) (c3_ : Nat), j + m_ = rows.length ∧ Below w.heap.size w W_ ∧ OwnK Kd.string 9 W_ w.heap.size w.heap.size A3_ ((rows.take j).map strOfNums).length c3_ ((rows.take j).map strOfNums) ∧ G = [(0, .slice A1 rows.length c1), (3, .slice A3_ (((rows.take j).map strOfNums).length) c3_), (7, .slice A1 rows.length c1), (8, .int .i64 ((rows.length : Nat) : Int)), (9, .int .i64 ((j : Nat) : Int))]) rows.length [(0, .slice A1 rows.length c1), (3, .slice (some ⟨g1, 0, none⟩) (((rows.take 0).map strOfNums).length) 0), (7, .slice A1 rows.length c1), (8, .int .i64 ((rows.length : Nat) : Int)), (9, .int .i64 0)] ⟨0, (some ⟨g1, 0, none⟩), 0, by omega, hb3, (OwnK.mono (d := Kd.string) hk4r (by omega)), rfl⟩ ⟨rfl, rfl, rfl, rfl, rfl, trivial⟩ ?_
  rintro m_ G w_L7 ⟨j, A3_, c3_, hp8, hB_L7, hO3_, rfl⟩
  have hs_w_L7 := hB_L7.size
  refine w_seq ?_
  refine w_region ?_
  refine rw_val (v := .bool (decide (((j : Nat) : Int) < ((rows.length : Nat) : Int)))) (w' := w_L7) rfl rfl rfl rfl (by simp [go_sem, sEv, sLook, nbeq, i64_w, -List.getD_eq_getElem?_getD]) ?_
  refine rw_end ?_
  refine w_seq ?_
  refine w_cond rfl rfl (fun c9 => ?_) (fun c9 => ?_)
  · have l10 : (((j : Nat) : Int) < ((rows.length : Nat) : Int)) := of_decide_eq_true c9
    refine w_skip ?_
    refine w_seq ?_
    refine w_block ?_
    refine w_seq ?_
    refine w_region ?_
    obtain ⟨ad11, A14, c15, hA12, he16, hle17, hC18⟩ := rows_at (Kd.C_below hr hB_L7) j (by first | omega | decide)
    subst hA12
    refine rw_val (v := .pointer (some (ad11.add (j)))) (w' := w_L7) rfl rfl rfl rfl (run_as (run_at_1 (P := Try.prog) (e := 32) (by kernel_rfl) (by kernel_rfl) j (by first | omega | decide) _)) ?_
    refine rw_val (v := .slice A14 ((rows.getD j []).length) c15) (w' := w_L7) rfl rfl rfl rfl (by have e0_ := cellOn he16 (Below.refl _ _); simp [go_sem, sEv, sLook, nbeq, i64_w, -List.getD_eq_getElem?_getD, e0_, Try.underlying32]) ?_
    refine rw_val (v := .slice A14 ((rows.getD j []).length) c15) (w' := w_L7) rfl rfl rfl rfl rfl ?_
    refine rw_end ?_
    refine w_region ?_
    refine rw_val (v := .slice A3_ (((rows.take j).map strOfNums).length) c3_) (w' := w_L7) rfl rfl rfl rfl rfl ?_
    refine rw_val (v := .slice A14 ((rows.getD j []).length) c15) (w' := w_L7) rfl rfl rfl rfl rfl ?_
    refine rw_val (v := .string (strOfNums (rows.getD j []))) (w' := w_L7) rfl rfl rfl rfl (run_as (run_str_of (P := Try.prog) (e := 5) (by kernel_rfl) (by kernel_rfl) (by kernel_rfl) (Kd.C_below hC18 (Below.refl _ _)))) ?_
    refine rw_new (cs := #[.string (strOfNums (rows.getD j []))]) (t := 9) (fun g => .slice (some ⟨g, 0, none⟩) 1 1) rfl rfl rfl rfl (by kernel_rfl) ?_
    intro g19 w20 hg24 hz23 hb21 hk22
    have hs_w20 := hb21.size
    have hk22r : OwnK Kd.string 9 w20 w.heap.size g19 (some ⟨g19, 0, none⟩) 1 1 ([strOfNums (rows.getD j [])] : List ByteArray) := scal_own w.heap.size hk22 (by omega) rfl rfl (by simp)
    have oA31 : OwnK Kd.string 9 w20 w.heap.size w.heap.size A3_ (((rows.take j).map strOfNums).length) c3_ ((rows.take j).map strOfNums) := (OwnK.on (d := Kd.string) hO3_ hb21)
    refine rw_append_kd (d := Kd.string) w.heap.size rfl rfl rfl (.tmp 13) (.tmp 16) rfl rfl 35 9 (.string ByteArray.empty) 16 rfl (by kernel_rfl) (by kernel_rfl) rfl (show 0 < 1 by decide) (by decide) (fun _ _ h => h) (b := w.heap.size) rfl rfl (by omega) oA31 (OwnK.Cn (d := Kd.string) hk22r) (chain hB_L7 hb21) (by omega) (by first | omega | (simp only [List.length_map, List.length_take, List.length_cons, List.length_nil]; omega)) ?_
    intro A25 c26 w27 hO28 hB29 hG30
    have hs_w27 := hB29.size
    have hgs_w27 := hG30.size
    refine rw_val (v := .slice A25 ((((rows.take j).map strOfNums) ++ ([strOfNums (rows.getD j [])] : List ByteArray)).length) c26) (w' := w27) rfl rfl rfl rfl rfl ?_
    refine rw_end ?_
    refine w_weaken (G' := [(0, .slice (some ad11) rows.length c1), (3, .slice A25 ((((rows.take j).map strOfNums) ++ ([strOfNums (rows.getD j [])] : List ByteArray)).length) c26), (7, .slice (some ad11) rows.length c1), (8, .int .i64 ((rows.length : Nat) : Int)), (9, .int .i64 ((j : Nat) : Int))]) ⟨rfl, rfl, rfl, rfl, rfl, trivial⟩ ?_
    refine w_blk ?_
    refine w_region ?_
    refine rw_val (v := .int .i64 ((j + 1 : Nat) : Int)) (w' := w27) rfl rfl rfl rfl (by simp [go_sem, sEv, sLook, nbeq, i64_w, -List.getD_eq_getElem?_getD]; exact wrap_id (by omega) (by omega)) ?_
    refine rw_val (v := .int .i64 ((j + 1 : Nat) : Int)) (w' := w27) rfl rfl rfl rfl rfl ?_
    refine rw_end ?_
    have e33 : (((rows.take j).map strOfNums) ++ ([strOfNums (rows.getD j [])] : List ByteArray)) = ((rows.take (j + 1)).map strOfNums) := by rw [List.take_succ_eq_append_getElem (by omega), List.map_append, List.getD_eq_getElem?_getD, List.getElem?_eq_getElem (by omega)]; rfl
    have hO34 : OwnK Kd.string 9 w27 w.heap.size w.heap.size A25 ((rows.take (j + 1)).map strOfNums).length c26 ((rows.take (j + 1)).map strOfNums) := by rw [← e33]; exact OwnK.full hO28
    have en35 : (((rows.take j).map strOfNums) ++ ([strOfNums (rows.getD j [])] : List ByteArray)).length = ((rows.take (j + 1)).map strOfNums).length := by rw [← e33] <;> exact OwnK.len (d := Kd.string) hO28
    exact w_back (m_ - 1) [(0, .slice (some ad11) rows.length c1), (3, .slice A25 (((rows.take (j + 1)).map strOfNums).length) c26), (7, .slice (some ad11) rows.length c1), (8, .int .i64 ((rows.length : Nat) : Int)), (9, .int .i64 ((j + 1 : Nat) : Int))] (by omega) ⟨rfl, (by first | rfl | (rw [← en35]; rfl)), rfl, rfl, rfl, trivial⟩ ⟨(j + 1), A25, c26, by omega, hB29, (OwnK.mono (d := Kd.string) hO34 (by omega)), rfl⟩
  · have l36 : ¬ (((j : Nat) : Int) < ((rows.length : Nat) : Int)) := of_decide_eq_false c9
    refine w_exit rfl ?_
    refine w_seq ?_
    refine w_region ?_
    refine rw_val (v := .slice A3_ (((rows.take j).map strOfNums).length) c3_) (w' := w_L7) rfl rfl rfl rfl rfl ?_
    refine rw_val (v := .slice A3_ (((rows.take j).map strOfNums).length) c3_) (w' := w_L7) rfl rfl rfl rfl rfl ?_
    refine rw_end ?_
    refine w_ret (post_ret1 rfl rfl ?_)
    have ej_ : j = rows.length := by omega
    have et_ : (rows.take j).map strOfNums = rows.map strOfNums := by rw [ej_, List.take_length]
    rw [et_]
    have hO_ : OwnK Kd.string 9 w_L7 w.heap.size w.heap.size A3_ ((rows.take j).map strOfNums).length c3_ (rows.map strOfNums) := by rw [← et_]; exact hO3_
    rw [et_] at hO_
    exact ⟨_, _, rfl, OwnK.mono (d := Kd.string) hO_ (by omega), hB_L7⟩
theorem map_getD {rows : List (List Int)} {l : List ByteArray} (h : rows.map strOfNums = l) (j : Nat) (hj : j < rows.length) : strOfNums (rows.getD j []) = l.getD j (⟨#[]⟩ : ByteArray) := by
  subst h
  rw [List.getD_eq_getElem?_getD, List.getD_eq_getElem?_getD, List.getElem?_map, List.getElem?_eq_getElem hj]
  rfl
theorem map_ext {rows : List (List Int)} {l : List ByteArray} (hl : rows.length = l.length) (h : ∀ i, i < l.length → strOfNums (rows.getD i []) = l.getD i (⟨#[]⟩ : ByteArray)) : rows.map strOfNums = l := by
  apply List.ext_getElem
  · rw [List.length_map, hl]
  · intro i h1 h2
    have h3 := h i h2
    rw [List.getD_eq_getElem?_getD, List.getD_eq_getElem?_getD, List.getElem?_eq_getElem h2, List.getElem?_eq_getElem (by omega)] at h3
    rw [List.getElem_map]
    exact h3
set_option maxHeartbeats 4000000 in
theorem same_calls (w : World) (A1 A2 : Option Addr) (c1 c2 : Nat) (rows : List (List Int)) (l : List ByteArray) (hr : (Kd.slice 5 (Kd.int .u8)).C w A1 rows.length rows) (hc1 : rows.length ≤ c1) (hl : Kd.string.C w A2 l.length l) (hc2 : l.length ≤ c2) (hn : l.length ≤ 2000000) :
    Calls Try.prog 13 #[.slice A1 rows.length c1, .slice A2 l.length c2] w fun e w' => e = .returned (.bool (decide (rows.map strOfNums = l))) ∧ Below w.heap.size w w' := by
  refine calls_flow Try.func13 rfl 27 rfl (Nat.le_of_ble_eq_true rfl) [(0, .slice A1 rows.length c1), (1, .slice A2 l.length c2)] ?_ ?_
  · intro t v h; exact args_look rfl t v h
  refine w_seq ?_
  refine w_region ?_
  refine rw_val (v := .bool false) (w' := w) rfl rfl rfl rfl rfl ?_
  refine rw_end ?_
  refine w_seq ?_
  refine w_seq ?_
  refine w_region ?_
  refine rw_val (v := .slice A1 rows.length c1) (w' := w) rfl rfl rfl rfl rfl ?_
  refine rw_val (v := .int .i64 ((rows.length : Nat) : Int)) (w' := w) rfl rfl rfl rfl (by simp [go_sem, sEv, sLook, nbeq, i64_w, -List.getD_eq_getElem?_getD]) ?_
  refine rw_val (v := .slice A2 l.length c2) (w' := w) rfl rfl rfl rfl rfl ?_
  refine rw_val (v := .int .i64 ((l.length : Nat) : Int)) (w' := w) rfl rfl rfl rfl (by simp [go_sem, sEv, sLook, nbeq, i64_w, -List.getD_eq_getElem?_getD]) ?_
  refine rw_val (v := .bool (((rows.length : Nat) : Int) != ((l.length : Nat) : Int))) (w' := w) rfl rfl rfl rfl (by simp [go_sem, sEv, sLook, nbeq, i64_w, -List.getD_eq_getElem?_getD]) ?_
  refine rw_end ?_
  refine w_weaken (G' := [(0, .slice A1 rows.length c1), (1, .slice A2 l.length c2), (4, .bool false), (10, .bool (((rows.length : Nat) : Int) != ((l.length : Nat) : Int)))]) ⟨rfl, rfl, rfl, rfl, trivial⟩ ?_
  refine w_cond rfl rfl (fun cL => ?_) (fun cL => ?_)
  · have l1 : ¬ ((rows.length : Nat) : Int) = ((l.length : Nat) : Int) := by simpa using cL
    refine w_seq ?_
    refine w_region ?_
    refine rw_val (v := .bool false) (w' := w) rfl rfl rfl rfl rfl ?_
    refine rw_end ?_
    refine w_ret (post_ret1 rfl rfl ?_)
    refine ⟨congrArg (fun z => Ending.returned (Value.bool z)) ?_, (Below.refl _ _)⟩
    symm
    rw [decide_eq_false_iff_not]
    intro h_
    have h2_ := congrArg List.length h_
    rw [List.length_map] at h2_
    omega
  · have l2 : ((rows.length : Nat) : Int) = ((l.length : Nat) : Int) := by simpa using cL
    refine w_skip ?_
    refine w_seq ?_
    refine w_seq ?_
    refine w_region ?_
    refine rw_val (v := .slice A2 l.length c2) (w' := w) rfl rfl rfl rfl rfl ?_
    refine rw_val (v := .int .i64 ((l.length : Nat) : Int)) (w' := w) rfl rfl rfl rfl (by simp [go_sem, sEv, sLook, nbeq, i64_w, -List.getD_eq_getElem?_getD]) ?_
    refine rw_val (v := .int .i64 0) (w' := w) rfl rfl rfl rfl rfl ?_
    refine rw_end ?_
    refine w_block ?_
    refine w_loop (fun m_ G W_ => ∃ (j : Nat), j + m_ = l.length ∧ rows.length = l.length ∧ Below w.heap.size w W_ ∧ (∀ i, i < j → strOfNums (rows.getD i []) = l.getD i (⟨#[]⟩ : ByteArray)) ∧ G = [(0, .slice A1 rows.length c1), (1, .slice A2 l.length c2), (12, .int .i64 ((l.length : Nat) : Int)), (13, .int .i64 ((j : Nat) : Int))]) l.length [(0, .slice A1 rows.length c1), (1, .slice A2 l.length c2), (12, .int .i64 ((l.length : Nat) : Int)), (13, .int .i64 0)] ⟨0, by omega, by omega, (Below.refl _ _), (fun i hi => absurd hi (by omega)), rfl⟩ ⟨rfl, rfl, rfl, rfl, trivial⟩ ?_
    rintro m_ G w_L3 ⟨j, hp4, hp5, hB_L3, hf6, rfl⟩
    have hs_w_L3 := hB_L3.size
    refine w_seq ?_
    refine w_region ?_
    refine rw_val (v := .bool (decide (((j : Nat) : Int) < ((l.length : Nat) : Int)))) (w' := w_L3) rfl rfl rfl rfl (by simp [go_sem, sEv, sLook, nbeq, i64_w, -List.getD_eq_getElem?_getD]) ?_
    refine rw_end ?_
    refine w_seq ?_
    refine w_cond rfl rfl (fun cJ => ?_) (fun cJ => ?_)
    · have l7 : (((j : Nat) : Int) < ((l.length : Nat) : Int)) := of_decide_eq_true cJ
      refine w_skip ?_
      refine w_seq ?_
      refine w_block ?_
      refine w_seq ?_
      refine w_region ?_
      refine rw_val (v := .int .i64 ((j : Nat) : Int)) (w' := w_L3) rfl rfl rfl rfl rfl ?_
      refine rw_val (v := .int .i64 ((j : Nat) : Int)) (w' := w_L3) rfl rfl rfl rfl rfl ?_
      refine rw_end ?_
      refine w_seq ?_
      obtain ⟨ad8, A11, c12, hA9, he13, hle14, hC15⟩ := rows_at (Kd.C_below hr hB_L3) j (by first | omega | decide)
      subst hA9
      obtain ⟨ad16, hA17, hc18⟩ := str_el (Kd.C_below hl hB_L3) (⟨#[]⟩ : ByteArray) j (by first | omega | decide)
      subst hA17
      have he19 : w_L3.cell? (ad16.add (j)) = some (.string (l.getD j (⟨#[]⟩ : ByteArray))) := cell_0 (hc18 0 _ rfl)
      refine w_drawk (M := [0, 0, 3, 7, 15, 0, 0, 96, 224, 511]) (ss := [Is (.slice (some ad8) rows.length c1), Is (.int .i64 ((j : Nat) : Int)), Is (.pointer (some (ad8.add (j)))), Is (.slice A11 ((rows.getD j []).length) c12), Is (.string (strOfNums (rows.getD j []))), Is (.slice (some ad16) l.length c2), Is (.int .i64 ((j : Nat) : Int)), Is (.pointer (some (ad16.add (j)))), Is (.string (l.getD j (⟨#[]⟩ : ByteArray)))]) 9 rfl (by decide +kernel) ?_
      refine t_is (.slice (some ad8) rows.length c1) rfl rfl rfl rfl (fun W_ hW_ F_ => rfl) ?_
      refine t_is (.int .i64 ((j : Nat) : Int)) rfl rfl rfl rfl (fun W_ hW_ F_ => rfl) ?_
      refine t_is (.pointer (some (ad8.add (j)))) rfl rfl rfl rfl (fun W_ hW_ F_ => (run_as (run_at_1 (P := Try.prog) (e := 32) (by kernel_rfl) (by kernel_rfl) j (by first | omega | decide) _))) ?_
      refine t_is (.slice A11 ((rows.getD j []).length) c12) rfl rfl rfl rfl (fun W_ hW_ F_ => by have e0_ := cellOn he13 (below_of_drew hW_); simp [go_sem, sEv, sLook, nbeq, i64_w, -List.getD_eq_getElem?_getD, e0_, Try.underlying32]) ?_
      refine t_is (.string (strOfNums (rows.getD j []))) rfl rfl rfl rfl (fun W_ hW_ F_ => (run_as (run_str_of (P := Try.prog) (e := 5) (by kernel_rfl) (by kernel_rfl) (by kernel_rfl) (Kd.C_below hC15 (chain (Below.refl _ _) (below_of_drew hW_)))))) ?_
      refine t_is (.slice (some ad16) l.length c2) rfl rfl rfl rfl (fun W_ hW_ F_ => rfl) ?_
      refine t_is (.int .i64 ((j : Nat) : Int)) rfl rfl rfl rfl (fun W_ hW_ F_ => rfl) ?_
      refine t_is (.pointer (some (ad16.add (j)))) rfl rfl rfl rfl (fun W_ hW_ F_ => (run_as (run_at_1 (P := Try.prog) (e := 9) (by kernel_rfl) (by kernel_rfl) j (by first | omega | decide) _))) ?_
      refine t_is (.string (l.getD j (⟨#[]⟩ : ByteArray))) rfl rfl rfl rfl (fun W_ hW_ F_ => by have e0_ := cellOn he19 (below_of_drew hW_); simp [go_sem, sEv, sLook, nbeq, i64_w, -List.getD_eq_getElem?_getD, e0_]) ?_
      refine t_tail ?_
      intro w20 hb21_ F22
      have hb21 := below_of_drew hb21_
      have hs_w20 := hb21.size
      refine rw_val (v := .bool (!decide (strOfNums (rows.getD j []) = (l.getD j (⟨#[]⟩ : ByteArray))))) (w' := w20) rfl rfl rfl rfl (run_as (run_str_neq 9 _ _ _)) ?_
      refine rw_end ?_
      refine w_weaken (G' := [(0, .slice (some ad8) rows.length c1), (1, .slice (some ad16) l.length c2), (12, .int .i64 ((l.length : Nat) : Int)), (13, .int .i64 ((j : Nat) : Int)), (25, .bool (!decide (strOfNums (rows.getD j []) = (l.getD j (⟨#[]⟩ : ByteArray)))))]) ⟨rfl, rfl, rfl, rfl, rfl, trivial⟩ ?_
      refine w_cond rfl rfl (fun cN => ?_) (fun cN => ?_)
      · refine w_seq ?_
        refine w_region ?_
        refine rw_val (v := .bool false) (w' := w20) rfl rfl rfl rfl rfl ?_
        refine rw_end ?_
        refine w_ret (post_ret1 rfl rfl ?_)
        refine ⟨congrArg (fun z => Ending.returned (Value.bool z)) ?_, (chain hB_L3 hb21)⟩
        symm
        rw [decide_eq_false_iff_not]
        intro h_
        exact absurd (map_getD h_ j (by omega)) (of_decide_eq_false (not_true cN))
      · refine w_skip ?_
        refine w_blk ?_
        refine w_region ?_
        refine rw_val (v := .int .i64 ((j + 1 : Nat) : Int)) (w' := w20) rfl rfl rfl rfl (by simp [go_sem, sEv, sLook, nbeq, i64_w, -List.getD_eq_getElem?_getD]; exact wrap_id (by omega) (by omega)) ?_
        refine rw_val (v := .int .i64 ((j + 1 : Nat) : Int)) (w' := w20) rfl rfl rfl rfl rfl ?_
        refine rw_end ?_
        exact w_back (m_ - 1) [(0, .slice (some ad8) rows.length c1), (1, .slice (some ad16) l.length c2), (12, .int .i64 ((l.length : Nat) : Int)), (13, .int .i64 ((j + 1 : Nat) : Int))] (by omega) ⟨rfl, rfl, rfl, rfl, trivial⟩ ⟨(j + 1), by omega, by omega, (chain hB_L3 hb21), (fun i hi => (Nat.lt_succ_iff_lt_or_eq.1 hi).elim (fun h => hf6 i h) (fun h => by subst h; exact of_decide_eq_true (not_false cN))), rfl⟩
    · have l23 : ¬ (((j : Nat) : Int) < ((l.length : Nat) : Int)) := of_decide_eq_false cJ
      refine w_exit rfl ?_
      refine w_seq ?_
      refine w_region ?_
      refine rw_val (v := .bool true) (w' := w_L3) rfl rfl rfl rfl rfl ?_
      refine rw_end ?_
      refine w_ret (post_ret1 rfl rfl ?_)
      refine ⟨congrArg (fun z => Ending.returned (Value.bool z)) ?_, hB_L3⟩
      symm
      rw [decide_eq_true_iff]
      exact map_ext (by omega) (fun i hi => hf6 i (by omega))
end Go.Proofs.Ytiiljpaedelhlaa.Tp
end
