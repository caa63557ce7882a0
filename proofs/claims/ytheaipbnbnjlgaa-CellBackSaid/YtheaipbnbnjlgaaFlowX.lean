/- Flow: a region whose order is open, in which one call writes: the other operations are shown in every order around it. Own work; plain theorems. -/
import Derived.Test.YtheaipbnbnjlgaaFlowH
import Derived.Test.YtheaipbnbnjlgaaFlowJ
namespace Go.Proofs.Ytheaipbnbnjlgaa.Flow
open Go.RowKit Go.Proofs.YtheaipbnbnjlgaaW.PrintWords
set_option linter.unusedVariables false
set_option linter.unusedSimpArgs false
set_option linter.unusedSectionVars false
section
variable {P : Program} {cx : Cx} {n : Nat} {Q : Exit → Act → World → Prop} {st : List Itm} {G : Env} {w : World} {ops : Array Oper}
theorem below_kept {w w' : World} {S : Nat → Prop} (h : Below w.heap.size w w') : Kept w w' S := ⟨h.size, fun i hi _ => h.block i hi⟩
theorem kept_refl (w : World) (S : Nat → Prop) : Kept w w S := ⟨Nat.le_refl _, fun _ _ _ => rfl⟩
theorem kept_trans {w w' w'' : World} {S : Nat → Prop} (h : Kept w w' S) (k : Kept w' w'' S) : Kept w w'' S := ⟨Nat.le_trans h.1 k.1, fun i hi hn => (k.2 i (Nat.lt_of_lt_of_le hi h.1) hn).trans (h.2 i hi hn)⟩
theorem drew_kept {w w' : World} {S : Nat → Prop} (h : Kept w.drew w' S) : Kept w w' S := ⟨h.1, h.2⟩
/-- What the call that writes yields. -/
def GivesM (P : Program) (s : Spec) (S : Nat → Prop) (F1 : World → Prop) (w : World) : Result Next → Prop
  | .ok (.enter f args) w1 => w1 = w ∧ Calls P f args w fun e w' => ∃ v, e = .returned v ∧ s.s v w' ∧ Kept w w' S ∧ F1 w'
  | .ok .skip w' => s.s undef w' ∧ Kept w w' S ∧ F1 w'
  | _ => False
def MutOk (P : Program) (l : List Oper) (o : Oper) (G : Env) (w : World) (s : Spec) (S : Nat → Prop) (F1 : World → Prop) : Prop :=
  match o.guard with
  | none => known G o = true ∧ GivesM P s S F1 w ((execOp (sEv G) o).run P w)
  | some (g, b) => ∃ t, (l[g]?).bind (·.dst) = some t ∧ sLook G t = some (.bool b) ∧ known G o = true ∧ GivesM P s S F1 w ((execOp (sEv G) o).run P w)
/-- The operations in the order of the text, each shown from what it waits for; number q writes. -/
def Tele2 (P : Program) (n : Nat) (l : List Oper) (w0 : World) (S : Nat → Prop) (q : Nat) (F0 F1 : World → Prop) (M : List Nat) (E : Env → Facts → Prop) : List Oper → List Spec → List Nat → Facts → Env → Prop
  | [], [], [], F, G => E G F
  | o :: os, s :: ss, m :: ms, F, G => (∀ d, o.dst = some d → Nat.blt d n = true) ∧ (F.length = q → ∀ w, Kept w0 w S → F0 w → Have m F w → MutOk P l o G w s S F1) ∧ (F.length ≠ q → ∀ w, Kept w0 w S → ((Nat.testBit m q = true → F1 w) ∧ (Nat.testBit (M.getD q 0) F.length = true → F0 w)) → Have m F w → StepOk P l o G w s) ∧ ∀ v, s.pl v → Tele2 P n l w0 S q F0 F1 M E os ss ms (F ++ [(s, v)]) (ext o.dst v G)
  | _, _, _, _, _ => False
theorem tele2_at {l : List Oper} {w0 : World} {S : Nat → Prop} {q : Nat} {F0 F1 : World → Prop} {M : List Nat} {E : Env → Facts → Prop} : ∀ (os : List Oper) (ss : List Spec) (ms : List Nat) (F : Facts) (G : Env), Tele2 P n l w0 S q F0 F1 M E os ss ms F G → ∀ vs : Nat → Value, (∀ (j : Nat) (s : Spec), ss[j]? = some s → s.pl (vs (F.length + j))) →
    (∀ (j : Nat) (o : Oper), os[j]? = some o → ∃ s m, ss[j]? = some s ∧ ms[j]? = some m ∧ (∀ d, o.dst = some d → Nat.blt d n = true) ∧
      (F.length + j = q → ∀ w, Kept w0 w S → F0 w → Have m (F ++ fz (ss.take j) vs F.length) w → MutOk P l o (gz (os.take j) vs F.length G) w s S F1) ∧ (F.length + j ≠ q → ∀ w, Kept w0 w S → ((Nat.testBit m q = true → F1 w) ∧ (Nat.testBit (M.getD q 0) (F.length + j) = true → F0 w)) → Have m (F ++ fz (ss.take j) vs F.length) w → StepOk P l o (gz (os.take j) vs F.length G) w s)) ∧ E (gz os vs F.length G) (F ++ fz ss vs F.length)
  | [], [], [], F, G, h, vs, _ => ⟨fun j o hj => by simp at hj, by have h' : E G F := h; simpa [gz, fz] using h'⟩
  | o :: os, s :: ss, m :: ms, F, G, h, vs, hp => by
    obtain ⟨h2, h3, h3b, h4⟩ := h
    obtain ⟨h5, h6⟩ := tele2_at os ss ms _ _ (h4 (vs F.length) (by simpa using hp 0 s rfl)) vs (fun j s' hj => by
      have := hp (j + 1) s' (by simpa using hj)
      simp only [List.length_append, List.length_cons, List.length_nil]
      rw [show F.length + (0 + 1) + j = F.length + (j + 1) by omega]
      exact this)
    have hlen : (F ++ [(s, vs F.length)]).length = F.length + 1 := by simp
    rw [hlen] at h5 h6
    refine ⟨fun j o' hj => ?_, by simpa [gz, fz] using h6⟩
    cases j with
    | zero =>
      simp at hj
      subst hj
      exact ⟨s, m, rfl, rfl, h2, fun hq w hb h0 hh => by simpa [gz] using h3 (by simpa using hq) w hb h0 (by simpa [fz] using hh), fun hq w hb h0 hh => by simpa [gz] using h3b (by simpa using hq) w hb (by simpa using h0) (by simpa [fz] using hh)⟩
    | succ j =>
      obtain ⟨s', m', e1, e2, e4, e5, e6⟩ := h5 j o' (by simpa using hj)
      refine ⟨s', m', by simpa using e1, by simpa using e2, e4, fun hq w hb h0 hh => ?_, fun hq w hb h0 hh => ?_⟩
      · have := e5 (by omega) w hb h0 (by simpa [fz] using hh)
        simpa [gz] using this
      · have := e6 (by omega) w hb ⟨h0.1, fun hb2 => h0.2 (by rw [show F.length + (j + 1) = F.length + 1 + j by omega]; exact hb2)⟩ (by simpa [fz] using hh)
        simpa [gz] using this
  | [], [], _ :: _, _, _, h, _, _ => h.elim
  | [], _ :: _, _, _, _, h, _, _ => h.elim
  | _ :: _, [], _, _, _, h, _, _ => h.elim
  | _ :: _, _ :: _, [], _, _, h, _, _ => h.elim

structure Inv2 (S : Nat → Prop) (q : Nat) (F0 F1 : World → Prop) (l : List Oper) (ss : List Spec) (cx : Cx) (n : Nat) (G : Env) (w0 : World) (vs : Nat → Value) (D : Array Bool) (a : Act) (w : World) : Prop where
  dsize : D.size = l.length
  closed : ∀ (j : Nat) (o : Oper), l[j]? = some o → D.getD j false = true → ∀ e ∈ o.after, Region.binds .any e = true → D.getD e.on false = true
  below : Kept w0 w S
  phase : (D.getD q false = true → F1 w) ∧ (D.getD q false = false → F0 w)
  facts : ∀ k s, D.getD k false = true → ss[k]? = some s → s.s (vs k) w
  pls : ∀ (k : Nat) (s : Spec), ss[k]? = some s → s.pl (vs k)
  size : a.tmps.size = n
  defers : a.defers = cx.ds
  old : ∀ t v, (∀ (k : Nat) (o : Oper), l[k]? = some o → o.dst = some t → D.getD k false = false) → sLook G t = some v → a.tmps[t]? = some v
  new : ∀ (k : Nat) (o : Oper) d, l[k]? = some o → o.dst = some d → D.getD k false = true → a.tmps[d]? = some (vs k)

theorem Inv2.step {S : Nat → Prop} {q : Nat} {F0 F1 : World → Prop} {l : List Oper} {ss : List Spec} {M : List Nat} {w0 : World} {vs : Nat → Value} {D : Array Bool} {a : Act} {w w' : World} (hs : Static l M) (h : Inv2 S q F0 F1 l ss cx n G w0 vs D a w)
    {i : Nat} {o : Oper} (hi : l[i]? = some o) (hdn : ∀ d, o.dst = some d → Nat.blt d n = true) (hun : D.getD i false = false) (hpre : ∀ e ∈ o.after, Region.binds .any e = true → D.getD e.on false = true) {s : Spec} (hsi : ss[i]? = some s) {v : Value} (hv : s.s v w') (hb : Kept w w' S) (hph : ((D.setIfInBounds i true).getD q false = true → F1 w') ∧ ((D.setIfInBounds i true).getD q false = false → F0 w')) (hst : ∀ (k : Nat) (s : Spec), ss[k]? = some s → ∀ v w w', Kept w w' S → s.s v w → s.s v w') :
    Inv2 S q F0 F1 l ss cx n G w0 (fun k => if k = i then v else vs k) (D.setIfInBounds i true) (a.put o.dst v) w' := by
  have hil : i < l.length := (List.getElem?_eq_some_iff.1 hi).1
  have hiD : i < D.size := by rw [h.dsize]; exact hil
  have hne : ∀ {k : Nat}, k ≠ i → (D.setIfInBounds i true).getD k false = D.getD k false := fun hk => by simp [Array.getElem?_setIfInBounds_ne (Ne.symm hk)]
  have hup : ∀ {k : Nat}, D.getD k false = true → (D.setIfInBounds i true).getD k false = true := fun {k} hk => by
    by_cases hki : k = i
    · subst hki; rw [hun] at hk; cases hk
    · rw [hne hki]; exact hk
  refine ⟨by simp [h.dsize], fun j oj hj hl e he hbd => ?_, kept_trans h.below hb, hph, fun k sk hl hk => ?_, fun k sk hk => ?_, ?_, ?_, fun t u hno hl => ?_, fun k ok d hk hd hl => ?_⟩
  · by_cases hji : j = i
    · subst hji
      have : oj = o := Option.some.inj (hj.symm.trans hi)
      subst this
      exact hup (hpre e he hbd)
    · rw [hne hji] at hl
      exact hup (h.closed j oj hj hl e he hbd)
  · by_cases hki : k = i
    · subst hki
      have : sk = s := Option.some.inj (hk.symm.trans hsi)
      subst this
      simpa using hv
    · rw [hne hki] at hl
      simpa [hki] using hst k sk hk _ _ _ hb (h.facts k sk hl hk)
  · by_cases hki : k = i
    · subst hki
      have : sk = s := Option.some.inj (hk.symm.trans hsi)
      subst this
      simpa using sk.imp _ _ hv
    · simpa [hki] using h.pls k sk hk
  · cases hd : o.dst <;> simp [Act.put, h.size]
  · cases hd : o.dst <;> simp [Act.put, h.defers]
  · have h1 : a.tmps[t]? = some u := h.old t u (fun k ok hk hd => by
      have := hno k ok hk hd
      by_cases hki : k = i
      · subst hki; exact hun
      · rwa [hne hki] at this) hl
    cases hd : o.dst with
    | none => simpa [Act.put] using h1
    | some d =>
      by_cases hdt : d = t
      · subst hdt
        have := hno i o hi hd
        rw [set_getD_same hiD] at this
        cases this
      · simp only [Act.put]
        rw [Array.getElem?_setIfInBounds_ne hdt]
        exact h1
  · by_cases hki : k = i
    · subst hki
      have : ok = o := Option.some.inj (hk.symm.trans hi)
      subst this
      have hlt : d < a.tmps.size := by rw [h.size]; simpa using hdn d hd
      simp [Act.put, hd, hlt]
    · rw [hne hki] at hl
      have h1 := h.new k ok d hk hd hl
      simp only [hki, if_false]
      cases hd' : o.dst with
      | none => simpa [Act.put] using h1
      | some d' =>
        have hdd : d' ≠ d := fun he => hki (hs.uniq i k o ok d hi hk (by rw [hd', he]) hd)
        simp only [Act.put]
        rw [Array.getElem?_setIfInBounds_ne hdd]
        exact h1

theorem wpAny_flow2 {S : Nat → Prop} {q0 : Nat} {F0 F1 : World → Prop} {l : List Oper} {ss : List Spec} {M : List Nat} {w0 : World} {k : Nat} (hs : Static l M) (hkl : k ≤ l.length) (htl : tailOk M k l.length = true)
    (ht : ∀ vs : Nat → Value, (∀ (k : Nat) (s : Spec), ss[k]? = some s → s.pl (vs k)) → (∀ (j : Nat) (o : Oper), j < k → l[j]? = some o → ∃ s m, ss[j]? = some s ∧ M[j]? = some m ∧ (∀ d, o.dst = some d → Nat.blt d n = true) ∧
      (j = q0 → ∀ w, Kept w0 w S → F0 w → Have m (fz (ss.take j) vs 0) w → MutOk P l o (gz (l.take j) vs 0 G) w s S F1) ∧ (j ≠ q0 → ∀ w, Kept w0 w S → ((Nat.testBit m q0 = true → F1 w) ∧ (Nat.testBit (M.getD q0 0) j = true → F0 w)) → Have m (fz (ss.take j) vs 0) w → StepOk P l o (gz (l.take j) vs 0 G) w s)) ∧ (∀ w, Kept w0 w S → F1 w → HaveAll (fz ss vs 0) w → ∀ a, Fits cx n (gz (l.take k) vs 0 G) a → wpList P l.toArray Q (l.drop k) a w)) (hsl : ss.length = k) (hqk : q0 < k) (hst : ∀ (k : Nat) (s : Spec), ss[k]? = some s → ∀ v w w', Kept w w' S → s.s v w → s.s v w') (hF0 : ∀ w w', Below w.heap.size w w' → F0 w → F0 w') (hF1 : ∀ w w', Below w.heap.size w w' → F1 w → F1 w') :
    ∀ (fuel : Nat) (D : Array Bool) (a : Act) (w : World) (vs : Nat → Value), cf D.toList ≤ fuel → Inv2 S q0 F0 F1 l ss cx n G w0 vs D a w → (∀ i, k ≤ i → i < l.length → D.getD i false = false) → wpAny P .any l.toArray Q fuel D a w := by
  have hfin : ∀ (D : Array Bool) (a : Act) (w : World) (vs : Nat → Value), Inv2 S q0 F0 F1 l ss cx n G w0 vs D a w → (∀ i, i < k → D.getD i false = true) → (∀ i, k ≤ i → i < l.length → D.getD i false = false) → wpList P l.toArray Q (l.drop k) a w := fun D a w vs h hall hno => by
    refine (ht vs h.pls).2 w h.below (h.phase.1 (hall q0 hqk)) (fun k s v hk => ?_) a ⟨h.size, h.defers, fun t v hl => ?_⟩
    · rw [fz_get] at hk
      cases hsk : ss[k]? with
      | none => rw [hsk] at hk; simp at hk
      | some s' =>
        rw [hsk] at hk
        simp only [Option.map_some, Option.some.injEq, Prod.mk.injEq, Nat.zero_add] at hk
        obtain ⟨rfl, rfl⟩ := hk
        exact h.facts k s' (hall k (by have := (List.getElem?_eq_some_iff.1 hsk).1; omega)) hsk
    · rcases gz_look (l.take k) vs 0 G t v hl with ⟨j, o, h1, h2, h3⟩ | ⟨h1, h2⟩
      · rw [h3, Nat.zero_add]
        have hjk : j < k := by
          have := (List.getElem?_eq_some_iff.1 h1).1
          simp at this; omega
        rw [List.getElem?_take, if_pos hjk] at h1
        exact h.new j o t h1 h2 (hall j hjk)
      · refine h.old t v (fun q o hq hd => ?_) h2
        rcases Nat.lt_or_ge q k with hqk | hqk
        · exact absurd hd (h1 q o (by rw [List.getElem?_take, if_pos hqk]; exact hq))
        · exact hno q hqk (List.getElem?_eq_some_iff.1 hq).1
  have hdone : ∀ (fuel : Nat) (D : Array Bool) (a : Act) (w : World) (vs : Nat → Value), cf D.toList ≤ fuel → Inv2 S q0 F0 F1 l ss cx n G w0 vs D a w → (∀ i, i < k → D.getD i false = true) → (∀ i, k ≤ i → i < l.length → D.getD i false = false) → wpAny P .any l.toArray Q fuel D a w := fun fuel D a w vs hc h hall hno =>
    wpAny_tail hs htl (l.length - k) k rfl (Nat.le_refl _) hkl fuel D a w h.dsize (fun i hi => ⟨fun hd => (Nat.lt_or_ge i k).resolve_right (fun q => by rw [hno i q hi] at hd; exact Bool.noConfusion hd), fun q => hall i q⟩) hc (hfin D a w vs h hall hno)
  intro fuel
  induction fuel with
  | zero =>
    intro D a w vs hc h hno
    refine hdone 0 D a w vs hc h (fun i hi => ?_) hno
    have hiD : i < D.size := by rw [h.dsize]; omega
    have := cf_zero D.toList (by omega) i D[i] (by simp [hiD])
    simp [hiD, this]
  | succ fuel ih =>
    intro D a w vs hc h hno
    by_cases hall : ∀ i, i < k → D.getD i false = true
    · exact hdone _ D a w vs hc h hall hno
    obtain ⟨q, hq, hqn⟩ : ∃ q, q < k ∧ D.getD q false = false := by
      refine Classical.byContradiction fun hne => hall fun i hi => ?_
      cases hd : D.getD i false with
      | true => rfl
      | false => exact absurd ⟨i, hi, hd⟩ hne
    refine ⟨fun hr => (by have := all_listed hs h.dsize hr q (by omega); rw [hqn] at this; cases this), fun i hi => ?_⟩
    obtain ⟨h1, o, h2, hpre⟩ := mem_ready.1 hi
    have hun := getD_no h1
    have hoi : l[i]? = some o := by simpa using h2
    have hil : i < l.length := (List.getElem?_eq_some_iff.1 hoi).1
    have hik : i < k := by
      rcases Nat.lt_or_ge i k with hlt | hge
      · exact hlt
      · have := mask_listed hs h.closed i o q hoi hpre (tail_spec htl i hge hil q (by omega))
        rw [hqn] at this; cases this
    obtain ⟨s, m, hs1, hm1, hdn, hmut, hstep⟩ := (ht vs h.pls).1 i o hik hoi
    have hmi : M.getD i 0 = m := by simp [hm1]
    have hmask := mask_listed hs h.closed i o
    have hhave : Have m (fz (ss.take i) vs 0) w := (fun k s' v hk hb => by
      rw [fz_get] at hk
      cases hsk : (ss.take i)[k]? with
      | none => rw [hsk] at hk; simp at hk
      | some s'' =>
        rw [hsk] at hk
        simp only [Option.map_some, Option.some.injEq, Prod.mk.injEq, Nat.zero_add] at hk
        obtain ⟨rfl, rfl⟩ := hk
        refine h.facts k s'' (hmask k hoi hpre (by rw [hmi]; exact hb)) ?_
        rw [List.getElem?_take] at hsk
        split at hsk
        · exact hsk
        · simp at hsk)
    have heyes : ∀ t ∈ eyes l o, ∀ v, sLook (gz (l.take i) vs 0 G) t = some v → a.tmps[t]? = some v := fun t hte v hl => by
      rcases gz_look (l.take i) vs 0 G t v hl with ⟨j, o', g1, g2, g3⟩ | ⟨g1, g2⟩
      · have hji : j < i := by
          have := (List.getElem?_eq_some_iff.1 g1).1
          simp at this; omega
        have g1' : l[j]? = some o' := by
          rw [List.getElem?_take] at g1
          rw [if_pos hji] at g1
          exact g1
        rw [g3, Nat.zero_add]
        refine h.new j o' t g1' g2 ?_
        rcases hs.seen i j o o' t hoi g1' g2 hte with g | g
        · exact hmask j hoi hpre g
        · have := (hs.bits j o' i g1' g).1; omega
      · refine h.old t v (fun k ok hk hd => ?_) g2
        cases hDk : D.getD k false with
        | false => rfl
        | true =>
          exfalso
          rcases Nat.lt_trichotomy k i with g | g | g
          · refine g1 k ok ?_ hd
            rw [List.getElem?_take, if_pos g]; exact hk
          · subst g; rw [hun] at hDk; cases hDk
          · rcases hs.seen i k o ok t hoi hk hd hte with q | q
            · have := (hs.bits i o k hoi q).1; omega
            · have := mask_listed hs h.closed k ok i hk (h.closed k ok hk hDk) q
              rw [hun] at this; cases this
    have hcf : cf (D.setIfInBounds i true).toList ≤ fuel := by
      have hiD : i < D.size := by rw [h.dsize]; exact hil
      have := cf_set D.toList i (by simp [hiD] at hun ⊢; exact hun)
      rw [Array.toList_setIfInBounds]
      omega
    have hphB : ∀ w', i ≠ q0 → Below w.heap.size w w' → ((D.setIfInBounds i true).getD q0 false = true → F1 w') ∧ ((D.setIfInBounds i true).getD q0 false = false → F0 w') := fun w' hne hb => by
      have e : (D.setIfInBounds i true).getD q0 false = D.getD q0 false := by simp [Array.getElem?_setIfInBounds_ne hne]
      rw [e]
      exact ⟨fun h1 => hF1 _ _ hb (h.phase.1 h1), fun h1 => hF0 _ _ hb (h.phase.2 h1)⟩
    have hgo : ∀ v w', s.s v w' → Kept w w' S → ((D.setIfInBounds i true).getD q0 false = true → F1 w') ∧ ((D.setIfInBounds i true).getD q0 false = false → F0 w') → wpAny P .any l.toArray Q fuel (D.setIfInBounds i true) (a.put o.dst v) w' := fun v w' hv hb hph =>
      ih _ _ _ _ hcf (h.step hs hoi hdn hun hpre hs1 hv hb hph hst) (fun q hq hql => by
        have hqi : q ≠ i := by omega
        have : (D.setIfInBounds i true).getD q false = D.getD q false := by simp [Array.getElem?_setIfInBounds_ne (Ne.symm hqi)]
        rw [this]; exact hno q hq hql)
    by_cases hiq : i = q0
    · -- the call that writes
      subst hiq
      have hph : ∀ w', F1 w' → ((D.setIfInBounds i true).getD i false = true → F1 w') ∧ ((D.setIfInBounds i true).getD i false = false → F0 w') := fun w' h1 => by
        have e := set_getD_same (D := D) (i := i) (by rw [h.dsize]; exact hil)
        rw [e]
        exact ⟨fun _ => h1, fun h2 => by cases h2⟩
      have hok := hmut rfl w h.below (h.phase.2 hun) hhave
      have hrun : known (gz (l.take i) vs 0 G) o = true ∧ GivesM P s S F1 w ((execOp (sEv (gz (l.take i) vs 0 G)) o).run P w) → o.wp P a w (wpAny P .any l.toArray Q fuel (D.setIfInBounds i true)) Q := fun ⟨hk, hg⟩ => by
        unfold Oper.wp
        rw [exec_eyes heyes hk]
        generalize (execOp (sEv (gz (l.take i) vs 0 G)) o).run P w = r at hg ⊢
        cases r with
        | halt x w' => exact hg.elim
        | ok x w' =>
          cases x with
          | enter f args =>
            obtain ⟨rfl, hcall⟩ := hg
            refine hcall.mono fun e w'' he => ?_
            obtain ⟨v, rfl, hv, hb, h1⟩ := he
            exact hgo v w'' hv hb (hph w'' h1)
          | skip => exact hgo undef w' hg.1 hg.2.1 (hph w' hg.2.2)
          | _ => exact hg.elim
      unfold wpOp
      rw [h2]
      simp only
      unfold MutOk at hok
      cases hgd : o.guard with
      | none =>
        rw [hgd] at hok
        rw [if_pos (wanted_none hgd _)]
        exact .inl (hrun hok)
      | some gb =>
        obtain ⟨g, b⟩ := gb
        rw [hgd] at hok
        obtain ⟨t, q1, q2, q3⟩ := hok
        have hte : t ∈ eyes l o := by
          refine List.mem_append_right _ ?_
          rw [hgd]
          simp [q1]
        have hw : Region.wanted o (yielded l.toArray a.tmps) = true := by
          have q1' : ((l.toArray)[g]?).bind (·.dst) = some t := by simpa using q1
          have q5 : yielded l.toArray a.tmps g = some b := by
            unfold yielded
            rw [q1']
            simp [heyes t hte _ q2]
          unfold Region.wanted
          rw [hgd]
          simp only [q5]
          cases b <;> rfl
        rw [if_pos hw]
        exact .inl (hrun q3)
    have hok := hstep hiq w h.below ⟨fun hb => h.phase.1 (hmask q0 hoi hpre (by rw [hmi]; exact hb)), fun hb => by
      cases hDq : D.getD q0 false with
      | false => exact h.phase.2 hDq
      | true =>
        exfalso
        have hq0l : q0 < l.length := by omega
        have hoq : l[q0]? = some l[q0] := List.getElem?_eq_getElem hq0l
        have := mask_listed hs h.closed q0 l[q0] i hoq (h.closed q0 _ hoq hDq) hb
        rw [hun] at this; cases this⟩ hhave
    have hrun : known (gz (l.take i) vs 0 G) o = true ∧ Gives P s w ((execOp (sEv (gz (l.take i) vs 0 G)) o).run P w) → o.wp P a w (wpAny P .any l.toArray Q fuel (D.setIfInBounds i true)) Q := fun ⟨hk, hg⟩ => by
      unfold Oper.wp
      rw [exec_eyes heyes hk]
      generalize (execOp (sEv (gz (l.take i) vs 0 G)) o).run P w = r at hg ⊢
      cases r with
      | halt x w' => exact hg.elim
      | ok x w' =>
        cases x with
        | value v => exact hgo v w' hg.1 (below_kept hg.2) (hphB w' hiq hg.2)
        | skip => exact hgo undef w' hg.1 (below_kept hg.2) (hphB w' hiq hg.2)
        | enter f args =>
          obtain ⟨rfl, hcall⟩ := hg
          refine hcall.mono fun e w'' he => ?_
          obtain ⟨v, rfl, hv, hb⟩ := he
          exact hgo v w'' hv (below_kept hb) (hphB w'' hiq hb)
        | _ => exact hg.elim
    unfold wpOp
    rw [h2]
    simp only
    unfold StepOk at hok
    cases hgd : o.guard with
    | none =>
      rw [hgd] at hok
      rw [if_pos (wanted_none hgd _)]
      exact .inl (hrun hok)
    | some gb =>
      obtain ⟨g, b⟩ := gb
      rw [hgd] at hok
      rcases hok with ⟨t, c, q1, q2, q3, q4⟩ | ⟨t, q1, q2, q4⟩
      rotate_left
      · have hte : t ∈ eyes l o := by
          refine List.mem_append_right _ ?_
          rw [hgd]
          simp [q1]
        have hw : Region.wanted o (yielded l.toArray a.tmps) = false := by
          have q1' : ((l.toArray)[g]?).bind (·.dst) = some t := by simpa using q1
          have q5 : yielded l.toArray a.tmps g = none := by
            unfold yielded
            rw [q1']
            simp [heyes t hte _ q2, undef]
          unfold Region.wanted
          rw [hgd]
          simp only [q5]
          rfl
        rw [if_neg (by rw [hw]; simp)]
        exact hgo undef w q4 (kept_refl _ _) (hphB w hiq (Below.refl _ _))
      have hte : t ∈ eyes l o := by
        refine List.mem_append_right _ ?_
        rw [hgd]
        simp [q1]
      have hw : Region.wanted o (yielded l.toArray a.tmps) = (c == b) := by
        have q1' : ((l.toArray)[g]?).bind (·.dst) = some t := by simpa using q1
        have q5 : yielded l.toArray a.tmps g = some c := by
          unfold yielded
          rw [q1']
          simp [heyes t hte _ q2]
        unfold Region.wanted
        rw [hgd]
        simp only [q5]
        cases c <;> cases b <;> rfl
      by_cases hc : c = b
      · rw [if_pos (by rw [hw]; simp [hc])]
        exact .inl (hrun (q3 hc))
      · rw [if_neg (by rw [hw]; simp [hc])]
        exact hgo undef w (q4 hc) (kept_refl _ _) (hphB w hiq (Below.refl _ _))

/-- A region whose order is open: the first k operations in whatever order; those behind wait for all ahead of them and are walked as in a plain region. -/
theorem w_drawm {id : Nat} {l : List Oper} {M : List Nat} {ss : List Spec} (S : Nat → Prop) (q : Nat) (F0 F1 : World → Prop) (k : Nat) (hm : P.follows .mixedOrders = true) (hok : (listOk l M && Nat.beq M.length l.length && tailOk M k l.length && Nat.ble k l.length && Nat.blt q k) = true) (hst : ∀ (k : Nat) (s : Spec), ss[k]? = some s → ∀ v w w', Kept w w' S → s.s v w → s.s v w') (hF0 : ∀ w w', Below w.heap.size w w' → F0 w → F0 w') (hF1 : ∀ w w', Below w.heap.size w w' → F1 w → F1 w') (h0 : F0 w.drew)
    (h : Tele2 P n l w.drew S q F0 F1 M (fun G' F => ∀ w', Kept w.drew w' S → F1 w' → HaveAll F w' → RW P l.toArray cx n (Ks cx P st Q) (l.drop k) G' w') (l.take k) ss (M.take k) [] G) : W P cx n Q (Itm.code (.region id l.toArray true) :: st) G w := fun a ha => by
  simp only [Bool.and_eq_true] at hok
  obtain ⟨⟨⟨⟨hok1, hM0⟩, htl⟩, hkl0⟩, hqk0⟩ := hok
  have hqk : q < k := by simpa using hqk0
  have hM := Nat.eq_of_beq_eq_true hM0
  have hkl := Nat.le_of_ble_eq_true hkl0
  have ht := fun vs hp => tele2_at (P := P) (l.take k) ss (M.take k) [] G h vs hp
  have hsl : ss.length = k := by
    have aux : ∀ (os : List Oper) (ss : List Spec) (ms : List Nat) (F : Facts) (G : Env) (E : Env → Facts → Prop), Tele2 P n l w.drew S q F0 F1 M E os ss ms F G → ss.length = os.length := by
      intro os
      induction os with
      | nil => intro ss ms F G E h; cases ss with
        | nil => rfl
        | cons => cases ms <;> exact h.elim
      | cons o os ih => intro ss ms F G E h; cases ss with
        | nil => cases ms <;> exact h.elim
        | cons s ss => cases ms with
          | nil => exact h.elim
          | cons m ms => obtain ⟨v, hv⟩ := s.inh; simp only [List.length_cons]; rw [ih ss ms _ _ E (h.2.2.2 v hv)]
    rw [aux _ _ _ _ _ _ h, List.length_take]; omega
  refine drawn_in hm (fun i o hi => listOk_sel hok1 i o (by simpa using hi)) (wpAny_flow2 (cx := cx) (S := S) (q0 := q) (F0 := F0) (F1 := F1) (n := n) (G := G) (Q := Ks cx P st Q) (ss := ss) (w0 := w.drew) (k := k) (static_of hok1) hkl htl (fun vs hp => ?_) hsl hqk hst hF0 hF1 _ _ a _ (fun j => match ss[j]? with | some s => Classical.choose s.inh | none => undef) ?_ ?_ ?_)
  · obtain ⟨h1, h2⟩ := ht vs (fun j s hj => by simpa using hp j s hj)
    refine ⟨fun j o hjk hj => ?_, fun w' hb hf hh a' ha' => ?_⟩
    · obtain ⟨s, m, e1, e2, e4, e5, e6⟩ := h1 j o (by rw [List.getElem?_take, if_pos hjk]; exact hj)
      have e2' : M[j]? = some m := by rw [List.getElem?_take, if_pos hjk] at e2; exact e2
      have htt : (l.take k).take j = l.take j := by rw [List.take_take]; congr 1; omega
      exact ⟨s, m, e1, e2', e4, fun hq w' hb h0 hh => by have := e5 (by simpa using hq) w' hb h0 (by simpa using hh); rw [htt] at this; simpa using this, fun hq w' hb h0 hh => by have := e6 (by simpa using hq) w' hb (by simpa using h0) (by simpa using hh); rw [htt] at this; simpa using this⟩
    · exact (h2 w' hb hf (by simpa using hh)) a' (by simpa using ha')
  · have : ∀ k, cf (List.replicate k false) = k := by
      intro k; induction k with
      | zero => rfl
      | succ k ih => simp only [List.replicate_succ, cf, ih]; simp; omega
    simp [this]
  · refine ⟨by simp, fun j o hj hl => ?_, kept_refl _ _, ⟨fun h1 => by (simp [Array.getElem?_replicate] at h1; split at h1 <;> simp at h1), fun _ => h0⟩, fun k s hl => ?_, fun k s hk => ?_, ha.size, ha.defers, fun t v _ hl => ha.at_ t v hl, fun k o d hk hd hl => ?_⟩
    · simp [Array.getElem?_replicate] at hl; split at hl <;> simp at hl
    · simp [Array.getElem?_replicate] at hl; split at hl <;> simp at hl
    · simp only [hk]
      exact Classical.choose_spec s.inh
    · simp [Array.getElem?_replicate] at hl; split at hl <;> simp at hl
  · intro i _ hi
    simp [Array.getElem?_replicate, hi]

/-! #### The steps -/
variable {l : List Oper} {w0 : World} {S : Nat → Prop} {q : Nat} {F0 F1 : World → Prop} {M : List Nat} {E : Env → Facts → Prop} {os : List Oper} {ss : List Spec} {ms : List Nat} {m : Nat} {F : Facts} {o : Oper}
/-- A value that is known. -/
theorem u_is (hnq : Nat.beq F.length q = false) {d : Nat} (c : Value) (hg : o.guard = none) (hd : o.dst = some d) (hdn : Nat.blt d n = true) (hk : known G o = true)
    (hrun : ∀ w, Kept w0 w S → ((Nat.testBit m q = true → F1 w) ∧ (Nat.testBit (M.getD q 0) F.length = true → F0 w)) → Have m F w → (execOp (sEv G) o).run P w = .ok (.value c) w)
    (k : Tele2 P n l w0 S q F0 F1 M E os ss ms (F ++ [(Is c, c)]) ((d, c) :: G)) : Tele2 P n l w0 S q F0 F1 M E (o :: os) (Is c :: ss) (m :: ms) F G := by
  refine ⟨fun d' h => by rw [hd] at h; cases h; exact hdn, fun hq_ => by (rw [hq_] at hnq; simp at hnq), fun _ w hb h1_ hh => ?_, fun v hv => ?_⟩
  · unfold StepOk
    rw [hg]
    refine ⟨hk, ?_⟩
    rw [hrun w hb h1_ hh]
    exact ⟨rfl, Below.refl _ _⟩
  · have : v = c := hv
    subst this
    rw [hd]
    exact k
/-- A value of which something is known. -/
theorem u_val (hnq : Nat.beq F.length q = false) {d : Nat} (s : Spec) (hg : o.guard = none) (hd : o.dst = some d) (hdn : Nat.blt d n = true) (hk : known G o = true)
    (hrun : ∀ w, Kept w0 w S → ((Nat.testBit m q = true → F1 w) ∧ (Nat.testBit (M.getD q 0) F.length = true → F0 w)) → Have m F w → ∃ v w', (execOp (sEv G) o).run P w = .ok (.value v) w' ∧ s.s v w' ∧ Below w.heap.size w w')
    (k : ∀ v, s.pl v → Tele2 P n l w0 S q F0 F1 M E os ss ms (F ++ [(s, v)]) ((d, v) :: G)) : Tele2 P n l w0 S q F0 F1 M E (o :: os) (s :: ss) (m :: ms) F G := by
  refine ⟨fun d' h => by rw [hd] at h; cases h; exact hdn, fun hq_ => by (rw [hq_] at hnq; simp at hnq), fun _ w hb h1_ hh => ?_, fun v hv => ?_⟩
  · unfold StepOk
    rw [hg]
    refine ⟨hk, ?_⟩
    obtain ⟨v, w', h1, h2, h3⟩ := hrun w hb h1_ hh
    rw [h1]
    exact ⟨h2, h3⟩
  · rw [hd]
    exact k v hv
/-- A call by its contract. -/
theorem u_call (hnq : Nat.beq F.length q = false) {d : Nat} (s : Spec) {f : FuncId} {args : Array Value} (hg : o.guard = none) (hd : o.dst = some d) (hdn : Nat.blt d n = true) (hk : known G o = true)
    (hrun : ∀ w, (execOp (sEv G) o).run P w = .ok (.enter f args) w)
    (hc : ∀ w, Kept w0 w S → ((Nat.testBit m q = true → F1 w) ∧ (Nat.testBit (M.getD q 0) F.length = true → F0 w)) → Have m F w → Calls P f args w fun e w' => ∃ v, e = .returned v ∧ s.s v w' ∧ Below w.heap.size w w')
    (k : ∀ v, s.pl v → Tele2 P n l w0 S q F0 F1 M E os ss ms (F ++ [(s, v)]) ((d, v) :: G)) : Tele2 P n l w0 S q F0 F1 M E (o :: os) (s :: ss) (m :: ms) F G := by
  refine ⟨fun d' h => by rw [hd] at h; cases h; exact hdn, fun hq_ => by (rw [hq_] at hnq; simp at hnq), fun _ w hb h1_ hh => ?_, fun v hv => ?_⟩
  · unfold StepOk
    rw [hg]
    refine ⟨hk, ?_⟩
    rw [hrun w]
    exact ⟨rfl, hc w hb h1_ hh⟩
  · rw [hd]
    exact k v hv
/-- Guarded: the guard is known to be off. -/
theorem u_off (hnq : Nat.beq F.length q = false) {g t d : Nat} {b c : Bool} (hg : o.guard = some (g, b)) (ht : (l[g]?).bind (·.dst) = some t) (hl : sLook G t = some (.bool c)) (hne : (c == b) = false) (hd : o.dst = some d) (hdn : Nat.blt d n = true)
    (k : Tele2 P n l w0 S q F0 F1 M E os ss ms (F ++ [(Is undef, undef)]) ((d, undef) :: G)) : Tele2 P n l w0 S q F0 F1 M E (o :: os) (Is undef :: ss) (m :: ms) F G := by
  refine ⟨fun d' h => by rw [hd] at h; cases h; exact hdn, fun hq_ => by (rw [hq_] at hnq; simp at hnq), fun _ w hb h1_ hh => ?_, fun v hv => ?_⟩
  · unfold StepOk
    rw [hg]
    exact .inl ⟨t, c, ht, hl, fun h => by simp [h] at hne, fun _ => rfl⟩
  · have : v = undef := hv
    subst this
    rw [hd]
    exact k
/-- Guarded by what hasn't been run: off too. -/
theorem u_offu (hnq : Nat.beq F.length q = false) {g t d : Nat} {b : Bool} (hg : o.guard = some (g, b)) (ht : (l[g]?).bind (·.dst) = some t) (hl : sLook G t = some undef) (hd : o.dst = some d) (hdn : Nat.blt d n = true)
    (k : Tele2 P n l w0 S q F0 F1 M E os ss ms (F ++ [(Is undef, undef)]) ((d, undef) :: G)) : Tele2 P n l w0 S q F0 F1 M E (o :: os) (Is undef :: ss) (m :: ms) F G := by
  refine ⟨fun d' h => by rw [hd] at h; cases h; exact hdn, fun hq_ => by (rw [hq_] at hnq; simp at hnq), fun _ w hb h1_ hh => ?_, fun v hv => ?_⟩
  · unfold StepOk
    rw [hg]
    exact .inr ⟨t, ht, hl, rfl⟩
  · have : v = undef := hv
    subst this
    rw [hd]
    exact k
/-- Guarded, the guard on: a known value. -/
theorem u_gis (hnq : Nat.beq F.length q = false) {g t d : Nat} {b c : Bool} (v : Value) (hg : o.guard = some (g, b)) (ht : (l[g]?).bind (·.dst) = some t) (hl : sLook G t = some (.bool c)) (he : (c == b) = true) (hd : o.dst = some d) (hdn : Nat.blt d n = true) (hk : known G o = true)
    (hrun : ∀ w, Kept w0 w S → ((Nat.testBit m q = true → F1 w) ∧ (Nat.testBit (M.getD q 0) F.length = true → F0 w)) → Have m F w → (execOp (sEv G) o).run P w = .ok (.value v) w)
    (k : Tele2 P n l w0 S q F0 F1 M E os ss ms (F ++ [(Is v, v)]) ((d, v) :: G)) : Tele2 P n l w0 S q F0 F1 M E (o :: os) (Is v :: ss) (m :: ms) F G := by
  refine ⟨fun d' h => by rw [hd] at h; cases h; exact hdn, fun hq_ => by (rw [hq_] at hnq; simp at hnq), fun _ w hb h1_ hh => ?_, fun v' hv => ?_⟩
  · unfold StepOk
    rw [hg]
    refine .inl ⟨t, c, ht, hl, fun _ => ⟨hk, ?_⟩, fun h => absurd (by simpa using he) h⟩
    rw [hrun w hb h1_ hh]
    exact ⟨rfl, Below.refl _ _⟩
  · have : v' = v := hv
    subst this
    rw [hd]
    exact k
/-- Guarded, the guard on: a value of which something is known. -/
theorem u_gval (hnq : Nat.beq F.length q = false) {g t d : Nat} {b c : Bool} (s : Spec) (hg : o.guard = some (g, b)) (ht : (l[g]?).bind (·.dst) = some t) (hl : sLook G t = some (.bool c)) (he : (c == b) = true) (hd : o.dst = some d) (hdn : Nat.blt d n = true) (hk : known G o = true)
    (hrun : ∀ w, Kept w0 w S → ((Nat.testBit m q = true → F1 w) ∧ (Nat.testBit (M.getD q 0) F.length = true → F0 w)) → Have m F w → ∃ v w', (execOp (sEv G) o).run P w = .ok (.value v) w' ∧ s.s v w' ∧ Below w.heap.size w w')
    (k : ∀ v, s.pl v → Tele2 P n l w0 S q F0 F1 M E os ss ms (F ++ [(s, v)]) ((d, v) :: G)) : Tele2 P n l w0 S q F0 F1 M E (o :: os) (s :: ss) (m :: ms) F G := by
  refine ⟨fun d' h => by rw [hd] at h; cases h; exact hdn, fun hq_ => by (rw [hq_] at hnq; simp at hnq), fun _ w hb h1_ hh => ?_, fun v hv => ?_⟩
  · unfold StepOk
    rw [hg]
    refine .inl ⟨t, c, ht, hl, fun _ => ⟨hk, ?_⟩, fun h => absurd (by simpa using he) h⟩
    obtain ⟨v, w', h1, h2, h3⟩ := hrun w hb h1_ hh
    rw [h1]
    exact ⟨h2, h3⟩
  · rw [hd]
    exact k v hv
/-- Guarded, the guard on: a call. -/
theorem u_gcall (hnq : Nat.beq F.length q = false) {g t d : Nat} {b c : Bool} (s : Spec) {f : FuncId} {args : Array Value} (hg : o.guard = some (g, b)) (ht : (l[g]?).bind (·.dst) = some t) (hl : sLook G t = some (.bool c)) (he : (c == b) = true) (hd : o.dst = some d) (hdn : Nat.blt d n = true) (hk : known G o = true)
    (hrun : ∀ w, (execOp (sEv G) o).run P w = .ok (.enter f args) w)
    (hc : ∀ w, Kept w0 w S → ((Nat.testBit m q = true → F1 w) ∧ (Nat.testBit (M.getD q 0) F.length = true → F0 w)) → Have m F w → Calls P f args w fun e w' => ∃ v, e = .returned v ∧ s.s v w' ∧ Below w.heap.size w w')
    (k : ∀ v, s.pl v → Tele2 P n l w0 S q F0 F1 M E os ss ms (F ++ [(s, v)]) ((d, v) :: G)) : Tele2 P n l w0 S q F0 F1 M E (o :: os) (s :: ss) (m :: ms) F G := by
  refine ⟨fun d' h => by rw [hd] at h; cases h; exact hdn, fun hq_ => by (rw [hq_] at hnq; simp at hnq), fun _ w hb h1_ hh => ?_, fun v hv => ?_⟩
  · unfold StepOk
    rw [hg]
    refine .inl ⟨t, c, ht, hl, fun _ => ⟨hk, ?_⟩, fun h => absurd (by simpa using he) h⟩
    rw [hrun w]
    exact ⟨rfl, hc w hb h1_ hh⟩
  · rw [hd]
    exact k v hv
/-- The call that writes. -/
theorem u_mut {d : Nat} (s : Spec) {f : FuncId} {args : Array Value} (hq : Nat.beq F.length q = true) (hg : o.guard = none) (hd : o.dst = some d) (hdn : Nat.blt d n = true) (hk : known G o = true)
    (hrun : ∀ w, (execOp (sEv G) o).run P w = .ok (.enter f args) w)
    (hc : ∀ w, Kept w0 w S → F0 w → Have m F w → Calls P f args w fun e w' => ∃ v, e = .returned v ∧ s.s v w' ∧ Kept w w' S ∧ F1 w')
    (k : ∀ v, s.pl v → Tele2 P n l w0 S q F0 F1 M E os ss ms (F ++ [(s, v)]) ((d, v) :: G)) : Tele2 P n l w0 S q F0 F1 M E (o :: os) (s :: ss) (m :: ms) F G := by
  refine ⟨fun d' h => by rw [hd] at h; cases h; exact hdn, fun _ w hb h0 hh => ?_, fun hq_ => absurd (Nat.eq_of_beq_eq_true hq) hq_, fun v hv => ?_⟩
  · unfold MutOk
    rw [hg]
    refine ⟨hk, ?_⟩
    rw [hrun w]
    exact ⟨rfl, hc w hb h0 hh⟩
  · rw [hd]
    exact k v hv
/-- A store that is the one to write. -/
theorem u_store (hq : Nat.beq F.length q = true) (hg : o.guard = none) (hd : o.dst = none) (hk : known G o = true)
    (hc : ∀ w, Kept w0 w S → F0 w → Have m F w → ∃ w', (execOp (sEv G) o).run P w = .ok .skip w' ∧ Kept w w' S ∧ F1 w')
    (k : Tele2 P n l w0 S q F0 F1 M E os ss ms (F ++ [(Is undef, undef)]) G) : Tele2 P n l w0 S q F0 F1 M E (o :: os) (Is undef :: ss) (m :: ms) F G := by
  refine ⟨fun d' h => (by rw [hd] at h; cases h), fun _ w hb h0 hh => ?_, fun hq_ => absurd (Nat.eq_of_beq_eq_true hq) hq_, fun v hv => ?_⟩
  · unfold MutOk
    rw [hg]
    refine ⟨hk, ?_⟩
    obtain ⟨w', h1, h2, h3⟩ := hc w hb h0 hh
    rw [h1]
    exact ⟨rfl, h2, h3⟩
  · have : v = undef := hv
    subst this
    rw [hd]
    exact k
theorem u_gmut {g t d : Nat} {b c : Bool} (s : Spec) {f : FuncId} {args : Array Value} (hq : Nat.beq F.length q = true) (hg : o.guard = some (g, b)) (ht : (l[g]?).bind (·.dst) = some t) (hl : sLook G t = some (.bool c)) (he : (c == b) = true) (hd : o.dst = some d) (hdn : Nat.blt d n = true) (hk : known G o = true)
    (hrun : ∀ w, (execOp (sEv G) o).run P w = .ok (.enter f args) w)
    (hc : ∀ w, Kept w0 w S → F0 w → Have m F w → Calls P f args w fun e w' => ∃ v, e = .returned v ∧ s.s v w' ∧ Kept w w' S ∧ F1 w')
    (k : ∀ v, s.pl v → Tele2 P n l w0 S q F0 F1 M E os ss ms (F ++ [(s, v)]) ((d, v) :: G)) : Tele2 P n l w0 S q F0 F1 M E (o :: os) (s :: ss) (m :: ms) F G := by
  obtain rfl : c = b := by simpa using he
  refine ⟨fun d' h => by rw [hd] at h; cases h; exact hdn, fun _ w hb h0 hh => ?_, fun hq_ => absurd (Nat.eq_of_beq_eq_true hq) hq_, fun v hv => ?_⟩
  · unfold MutOk
    rw [hg]
    refine ⟨t, ht, hl, hk, ?_⟩
    rw [hrun w]
    exact ⟨rfl, hc w hb h0 hh⟩
  · rw [hd]
    exact k v hv
theorem u_tail {rest : List Oper} {ops : Array Oper} {Q' : Exit → Act → World → Prop} (h : ∀ w', Kept w0 w' S → F1 w' → HaveAll F w' → RW P ops cx n Q' rest G w') : Tele2 P n l w0 S q F0 F1 M (fun G' F => ∀ w', Kept w0 w' S → F1 w' → HaveAll F w' → RW P ops cx n Q' rest G' w') [] [] [] F G := h
/-- What holds of a value outlives what the call writes. -/
def StabS (S : Nat → Prop) (s : Spec) : Prop := ∀ v w w', Kept w w' S → s.s v w → s.s v w'
def StabL (S : Nat → Prop) (ss : List Spec) : Prop := ∀ (k : Nat) (s : Spec), ss[k]? = some s → StabS S s
theorem stab_is {S : Nat → Prop} {c : Value} : StabS S (Is c) := fun _ _ _ _ h => h
theorem stab_nil {S : Nat → Prop} : StabL S [] := fun k s h => by simp at h
theorem stab_cons {S : Nat → Prop} {s : Spec} {ss : List Spec} (h : StabS S s) (t : StabL S ss) : StabL S (s :: ss) := fun k s' h' => by
  cases k with
  | zero => simp at h'; subst h'; exact h
  | succ k => exact t k s' (by simpa using h')
theorem stab_slc {S : Nat → Prop} {B : Nat} {t : TypeId} {cs : Array Value} {n : Nat} (hS : ∀ q, B ≤ q → ¬ S q) : StabS S (SlcSpec B t cs n) := fun v w w' hk ⟨g, h1, h2, h3⟩ => ⟨g, h1, h2, h3.kept hk (hS g h2)⟩
end
end Go.Proofs.Ytheaipbnbnjlgaa.Flow
