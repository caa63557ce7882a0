/- Flow: a region whose order is open, whose first operation is a copy that waits for nothing: it is taken first; those behind may then be walked as in a plain region sooner. Slice headers as elements. Own work; plain theorems. -/
import Derived.Test.YtiiljpaedelhlaaFlowX
import Derived.Test.YtiiljpaedelhlaaFlowS
namespace Go.Proofs.Ytiiljpaedelhlaa.Flow
open Go.RowKit Go.Proofs.YtiiljpaedelhlaaW.PrintWords
set_option linter.unusedVariables false
set_option linter.unusedSimpArgs false
set_option linter.unusedSectionVars false
section
variable {P : Program} {cx : Cx} {n : Nat} {Q : Exit → Act → World → Prop} {st : List Itm} {G : Env} {w : World}
/-- Each operation behind the first waits for the first too. -/
def edge0 (o : Oper) : Oper := { o with after := o.after.push { on := 0, ground := .data } }
def addE : List Oper → List Oper
  | [] => []
  | o :: os => o :: os.map edge0
theorem addE_len (l : List Oper) : (addE l).length = l.length := by cases l <;> simp [addE]
theorem addE_get {l : List Oper} {i : Nat} {o : Oper} (h : l[i]? = some o) : (addE l)[i]? = some (if i = 0 then o else edge0 o) := by
  cases l with
  | nil => simp at h
  | cons x os =>
    cases i with
    | zero => simpa [addE] using h
    | succ i =>
      simp only [List.getElem?_cons_succ] at h
      simp [addE, h]
theorem addE_none {l : List Oper} {i : Nat} (h : l[i]? = none) : (addE l)[i]? = none := by
  rw [List.getElem?_eq_none_iff] at *
  rw [addE_len]; exact h
theorem edge0_wanted (o : Oper) (y : Nat → Option Bool) : Region.wanted (edge0 o) y = Region.wanted o y := rfl
theorem addE_yielded (l : List Oper) (tmps : Array Value) (g : Nat) : yielded (addE l).toArray tmps g = yielded l.toArray tmps g := by
  unfold yielded
  have : (((addE l).toArray)[g]?).bind (·.dst) = ((l.toArray)[g]?).bind (·.dst) := by
    simp only [List.getElem?_toArray]
    cases h : l[g]? with
    | none => rw [addE_none h]
    | some o => rw [addE_get h]; split <;> rfl
  rw [this]
theorem addE_ready {l : List Oper} {D : Array Bool} (h0 : D.getD 0 false = true) (i : Nat) : i ∈ Region.ready .any (addE l).toArray D ↔ i ∈ Region.ready .any l.toArray D := by
  rw [mem_ready, mem_ready]
  constructor
  · rintro ⟨h1, o, h2, h3⟩
    refine ⟨h1, ?_⟩
    cases hl : l[i]? with
    | none => rw [List.getElem?_toArray, addE_none hl] at h2; cases h2
    | some o' =>
      refine ⟨o', by simpa using hl, fun e he hb => h3 e ?_ hb⟩
      rw [List.getElem?_toArray, addE_get hl] at h2
      obtain rfl := Option.some.inj h2
      split
      · exact he
      · exact Array.mem_push_of_mem _ he
  · rintro ⟨h1, o, h2, h3⟩
    have hl : l[i]? = some o := by simpa using h2
    refine ⟨h1, (if i = 0 then o else edge0 o), by rw [List.getElem?_toArray, addE_get hl], fun e he hb => ?_⟩
    split at he
    · exact h3 e he hb
    · rcases Array.mem_push.1 he with h4 | h4
      · exact h3 e h4 hb
      · subst h4; exact h0
theorem addE_nil {l : List Oper} {D : Array Bool} (h0 : D.getD 0 false = true) : Region.ready .any (addE l).toArray D = [] ↔ Region.ready .any l.toArray D = [] := by
  rw [List.eq_nil_iff_forall_not_mem, List.eq_nil_iff_forall_not_mem]
  exact ⟨fun h i hi => h i ((addE_ready h0 i).2 hi), fun h i hi => h i ((addE_ready h0 i).1 hi)⟩
theorem addE_op {l : List Oper} {i : Nat} {K K' : Act → World → Prop} {a : Act} {w : World} (hK : ∀ a w, K a w → K' a w) (h : wpOp P (addE l).toArray Q i K a w) : wpOp P l.toArray Q i K' a w := by
  unfold wpOp at *
  simp only [List.getElem?_toArray] at *
  have hy : yielded (addE l).toArray a.tmps = yielded l.toArray a.tmps := funext fun g => addE_yielded l a.tmps g
  rw [hy] at h
  cases hl : l[i]? with
  | none => rw [addE_none hl] at h; exact hK _ _ h
  | some o =>
    rw [addE_get hl] at h
    simp only at h ⊢
    by_cases hi : i = 0
    · rw [if_pos hi] at h
      split
      · next hw => rw [if_pos hw] at h; exact h.imp (Oper.wp_mono hK) id
      · next hw => rw [if_neg hw] at h; exact hK _ _ h
    · rw [if_neg hi] at h
      have e1 : Region.wanted (edge0 o) (yielded l.toArray a.tmps) = Region.wanted o (yielded l.toArray a.tmps) := rfl
      rw [e1] at h
      split
      · next hw => rw [if_pos hw] at h; exact h.imp (fun q => Oper.wp_mono (o := o) hK q) id
      · next hw => rw [if_neg hw] at h; exact hK _ _ h
theorem addE_any {l : List Oper} : ∀ (fuel : Nat) (D : Array Bool) (a : Act) (w : World), D.getD 0 false = true → wpAny P .any (addE l).toArray Q fuel D a w → wpAny P .any l.toArray Q fuel D a w
  | 0, D, a, w, h0, h => ⟨(addE_nil h0).1 h.1, h.2⟩
  | fuel + 1, D, a, w, h0, h => ⟨fun hr => h.1 ((addE_nil h0).2 hr), fun i hi => addE_op (fun a' w' q => addE_any fuel _ a' w' (by
      by_cases hi0 : i = 0
      · subst hi0
        have : 0 < D.size := by
          rcases Nat.eq_zero_or_pos D.size with hz | hz
          · simp [hz] at h0
          · exact hz
        simp [this]
      · simpa [Array.getElem?_setIfInBounds_ne hi0] using h0) q) (h.2 i ((addE_ready h0 i).2 hi))⟩
theorem Ks_panic : ∀ (st : List Itm) (Q : Exit → Act → World → Prop) {c} {a : Act} {w : World}, Ks cx P st Q (.panic c) a w ↔ Q (.panic c) a w
  | [], _, _, _, _ => Iff.rfl
  | .inl _ :: st, Q, _, _, _ => Ks_panic st Q
  | .inr (.inl _) :: st, Q, _, _, _ => Ks_panic st Q
  | .inr (.inr _) :: st, Q, _, _, _ => Ks_panic st Q
/-- The first is a copy: taken first. From number k on each operation waits for all ahead of it but the first. -/
theorem w_drawf {id : Nat} {l : List Oper} {o : Oper} {os : List Oper} {M : List Nat} {ss : List Spec} (k : Nat) (hm : P.follows .mixedOrders = true) (hQ : ∀ c (a : Act) (d : Option Tmp) v w, Q (.panic c) (a.put d v) w → Q (.panic c) a w)
    (hl : l = o :: os) {d : Nat} (v : Value) (hg : o.guard = none) (hd : o.dst = some d) (hdn : Nat.blt d n = true) (hko : known G o = true) (hrun : ∀ w, (execOp (sEv G) o).run P w = .ok (.value v) w)
    (hfree : (Region.noSelect l.toArray && Region.free .any l.toArray (Array.replicate l.length false) 0 && (Region.ready .any l.toArray (Array.replicate l.length false)).contains 0) = true) (hk0 : Nat.blt 0 k = true)
    (hok : (listOk (addE l) M && Nat.beq M.length l.length && tailOk M k l.length && Nat.ble k l.length) = true)
    (h : Tele P n (addE l) w.drew M (fun G' F => ∀ w', Below w.drew.heap.size w.drew w' → HaveAll F w' → RW P (addE l).toArray cx n (Ks cx P st Q) ((addE l).drop k) G' w') ((addE l).take k) (Is v :: ss) (M.take k) [] G) : W P cx n Q (Itm.code (.region id l.toArray true) :: st) G w := fun a ha => by
  simp only [Bool.and_eq_true] at hok hfree
  obtain ⟨⟨⟨hok1, hM0⟩, htl⟩, hkl0⟩ := hok
  have hM := Nat.eq_of_beq_eq_true hM0
  have hkl := Nat.le_of_ble_eq_true hkl0
  have hkp : 0 < k := by simpa using hk0
  have hlen := addE_len l
  have ht := fun vs hp => tele_at (P := P) ((addE l).take k) (Is v :: ss) (M.take k) [] G h vs hp
  have hsl : (Is v :: ss).length = k := by
    have aux : ∀ (os : List Oper) (ss : List Spec) (ms : List Nat) (F : Facts) (G : Env) (E : Env → Facts → Prop), Tele P n (addE l) w.drew M E os ss ms F G → ss.length = os.length := by
      intro os
      induction os with
      | nil => intro ss ms F G E h; cases ss with
        | nil => rfl
        | cons => cases ms <;> exact h.elim
      | cons o os ih => intro ss ms F G E h; cases ss with
        | nil => cases ms <;> exact h.elim
        | cons s ss => cases ms with
          | nil => exact h.elim
          | cons m ms => obtain ⟨v, hv⟩ := s.inh; simp only [List.length_cons]; rw [ih ss ms _ _ E (h.2.2 v hv)]
    rw [aux _ _ _ _ _ _ h, List.length_take]; omega
  have hflow := wpAny_flow (P := P) (n := n) (G := G) (Q := Ks cx P st Q) (l := addE l) (ss := Is v :: ss) (M := M) (w0 := w.drew) (k := k) (static_of hok1) (by omega) (by rw [hlen]; exact htl) (fun vs hp => by
    obtain ⟨h1, h2⟩ := ht vs (fun j s hj => by simpa using hp j s hj)
    refine ⟨fun j o hjk hj => ?_, fun w' hb hh a' ha' => ?_⟩
    · obtain ⟨s, m, e1, e2, e4, e5⟩ := h1 j o (by rw [List.getElem?_take, if_pos hjk]; exact hj)
      have e2' : M[j]? = some m := by rw [List.getElem?_take, if_pos hjk] at e2; exact e2
      have htt : ((addE l).take k).take j = (addE l).take j := by rw [List.take_take]; congr 1; omega
      exact ⟨s, m, e1, e2', e4, fun w' hb hh => by have := e5 w' hb (by simpa using hh); rw [htt] at this; simpa using this⟩
    · exact (h2 w' hb (by simpa using hh)) a' (by simpa using ha')) hsl
  have hl0 : (addE l)[0]? = some o := by rw [hl]; rfl
  have hl1 : l[0]? = some o := by rw [hl]; rfl
  have hlp : 0 < l.length := by rw [hl]; simp
  -- nothing is listed
  have hI0 : Inv (addE l) (Is v :: ss) cx n G w.drew (fun j => match (Is v :: ss)[j]? with | some s => Classical.choose s.inh | none => undef) (Array.replicate (addE l).length false) a w.drew := by
    refine ⟨by simp, fun j o hj hl => ?_, Below.refl _ _, fun k s hl => ?_, fun k s hk => ?_, ha.size, ha.defers, fun t v _ hl => ha.at_ t v hl, fun k o d hk hd hl => ?_⟩
    · simp [Array.getElem?_replicate] at hl; split at hl <;> simp at hl
    · simp [Array.getElem?_replicate] at hl; split at hl <;> simp at hl
    · simp only [hk]
      exact Classical.choose_spec s.inh
    · simp [Array.getElem?_replicate] at hl; split at hl <;> simp at hl
  have hna : ∀ e ∈ o.after, Region.binds .any e = true → (Array.replicate (addE l).length false).getD e.on false = true := fun e he hb => by
    have h1 : (Region.ready .any l.toArray (Array.replicate l.length false)).contains 0 = true := hfree.2
    have h2 : 0 ∈ Region.ready .any l.toArray (Array.replicate l.length false) := by simpa using h1
    obtain ⟨_, o', h3, h4⟩ := mem_ready.1 h2
    have : o' = o := by rw [List.getElem?_toArray, hl1] at h3; exact (Option.some.inj h3).symm
    subst this
    rw [hlen]
    exact h4 e he hb
  have hI1 := Inv.step (static_of hok1) hI0 hl0 (fun d' hd' => by rw [hd] at hd'; cases hd'; exact hdn) (by simp [Array.getElem?_replicate]; split <;> rfl) hna (s := Is v) rfl (v := v) rfl (Below.refl w.drew.heap.size w.drew)
  have hw := wanted_none hg (yielded l.toArray a.tmps)
  refine drawn_in hm (fun i o' hi => by
    have h1 : l[i]? = some o' := by simpa using hi
    have h2 := listOk_sel hok1 i _ (addE_get h1)
    by_cases hi0 : i = 0
    · rw [if_pos hi0] at h2; exact h2
    · rw [if_neg hi0] at h2; exact h2) ?_
  have hsz : l.toArray.size = (l.length - 1) + 1 := by simp; omega
  have hsz2 : Array.replicate l.toArray.size false = Array.replicate l.length false := by simp
  rw [hsz2, hsz]
  refine wpAny_take (i := 0) (oi := o) (v := v) (by simpa using hl1) hfree.1.1 hfree.1.2 hfree.2 (fun c a' w' q => (Ks_panic st Q).2 (hQ c a' _ _ w' ((Ks_panic st Q).1 q))) (.inl ⟨hw, fun w' => by rw [exec_known ha hko]; exact hrun w'⟩) ?_
  refine addE_any _ _ _ _ (by simp [hlp]) ?_
  have hr : (Array.replicate l.length false) = (Array.replicate (addE l).length false) := by rw [hlen]
  rw [hr]
  refine hflow (l.length - 1) _ _ _ _ ?_ hI1 ?_
  · have : ∀ k, cf (List.replicate k false) = k := by
      intro k; induction k with
      | zero => rfl
      | succ k ih => simp only [List.replicate_succ, cf, ih]; simp; omega
    have h5 := cf_set (List.replicate l.length false) 0 (by simp [List.getElem?_replicate, hlp])
    rw [this] at h5
    rw [Array.toList_setIfInBounds, hlen]
    simp only [Array.toList_replicate]
    omega
  · intro i hi hil
    have : (0 : Nat) ≠ i := by omega
    rw [hlen] at hil
    have e : ((Array.replicate (addE l).length false).setIfInBounds 0 true).getD i false = (Array.replicate (addE l).length false).getD i false := by simp [Array.getElem?_setIfInBounds_ne this]
    rw [e]
    simp [Array.getElem?_replicate]
    split <;> rfl
theorem body_panic (P : Program) (fn : Func) (R : Ending → World → Prop) : ∀ c (a : Act) (d : Option Tmp) v w, bodyPost P fn R (.panic c) (a.put d v) w → bodyPost P fn R (.panic c) a w := fun c a d v w h => by
  refine ⟨?_, h.2⟩
  have h1 : (a.put d v).defers = [] := h.1
  cases d <;> simpa [Act.put] using h1
end
/-! ### Slice headers as elements -/
abbrev Hd := Option Addr × Nat × Nat
def encHd (h : Hd) : Value := .slice h.1 h.2.1 h.2.2
abbrev kHd : Kd Hd := Kd.scalar encHd (fun _ => rfl)
/-- What a header says of a row. -/
def HdOk {α : Type} (d : Kd α) (w : World) (h : Hd) (xs : List α) : Prop := h.2.1 = xs.length ∧ xs.length ≤ h.2.2 ∧ d.C w h.1 xs.length xs
theorem HdOk.on {α : Type} {d : Kd α} {w w' : World} {h : Hd} {xs : List α} (k : HdOk d w h xs) (hb : Below w.heap.size w w') : HdOk d w' h xs := ⟨k.1, k.2.1, Kd.C_below k.2.2 hb⟩
theorem rows_hd {α : Type} {d : Kd α} {e : TypeId} {w : World} {A : Option Addr} {n : Nat} {xss : List (List α)} (h : (Kd.slice e d).C w A n xss) :
    ∃ hds : List Hd, hds.length = xss.length ∧ kHd.C w A n hds ∧ ∀ i, i < xss.length → HdOk d w (hds.getD i (none, 0, 0)) (xss.getD i []) := by
  obtain ⟨h1, h2, h3⟩ := h
  have each : ∀ i, ∃ hd : Hd, i < xss.length → HdOk d w hd (xss.getD i []) ∧ ∃ ad, A = some ad ∧ w.cell? (ad.add i) = some (encHd hd) := fun i => by
    by_cases hi : i < xss.length
    · obtain ⟨ad, A0, c0, e1, e2, e3, e4⟩ := rows_at (h := (⟨h1, h2, h3⟩ : (Kd.slice e d).C w A n xss)) i (by omega)
      exact ⟨(A0, (xss.getD i []).length, c0), fun _ => ⟨⟨rfl, e3, e4⟩, ad, e1, e2⟩⟩
    · exact ⟨(none, 0, 0), fun h => absurd h hi⟩
  obtain ⟨f, hf⟩ := Classical.skolem.1 each
  have hget : ∀ i, i < xss.length → ((List.range xss.length).map f).getD i (none, 0, 0) = f i := fun i hi => by
    rw [List.getD_eq_getElem?_getD, List.getElem?_map, List.getElem?_range hi]; rfl
  refine ⟨(List.range xss.length).map f, by simp, ⟨by simp [h1], h2, fun hn => ?_⟩, fun i hi => by rw [hget i hi]; exact (hf i hi).1⟩
  obtain ⟨ad, e1, _⟩ := h3 hn
  refine ⟨ad, e1, fun j p hj => ?_⟩
  have hjl : j < xss.length := by
    have := (List.getElem?_eq_some_iff.1 hj).1
    simpa using this
  have hp : f j = p := by
    rw [List.getElem?_map, List.getElem?_range hjl] at hj
    simpa using hj
  obtain ⟨_, ad', e2, e3⟩ := hf j hjl
  rw [e1] at e2
  cases e2
  rw [hp] at e3
  refine ⟨[encHd p], rfl, rfl, fun i u hi => ?_⟩
  cases i with
  | zero =>
    simp at hi
    subst hi
    show w.cell? (ad.add (j * 1 + 0)) = _
    rw [Nat.mul_one, Nat.add_zero]
    exact e3
  | succ i => simp at hi
theorem hd_rows {α : Type} {d : Kd α} (e : TypeId) {w : World} {A : Option Addr} {n : Nat} {hds : List Hd} {xss : List (List α)} (h : kHd.C w A n hds) (hl : xss.length = hds.length) (hk : ∀ i, i < xss.length → HdOk d w (hds.getD i (none, 0, 0)) (xss.getD i [])) : (Kd.slice e d).C w A n xss := by
  obtain ⟨h1, h2, h3⟩ := h
  refine ⟨hl.trans h1, h2, fun hn => ?_⟩
  obtain ⟨ad, e1, h4⟩ := h3 hn
  refine ⟨ad, e1, fun j p hj => ?_⟩
  have hjl := (List.getElem?_eq_some_iff.1 hj).1
  have hjh : j < hds.length := by omega
  obtain ⟨c, h5, h6, h7⟩ := h4 j hds[j] (List.getElem?_eq_getElem hjh)
  refine ⟨c, h5, ?_, h7⟩
  have hk1 := hk j hjl
  have e2 : hds.getD j (none, 0, 0) = hds[j] := by rw [List.getD_eq_getElem?_getD, List.getElem?_eq_getElem hjh]; rfl
  have e3 : xss.getD j [] = p := by rw [List.getD_eq_getElem?_getD, hj]; rfl
  rw [e2, e3] at hk1
  obtain ⟨k1, k2, k3⟩ := hk1
  have h6' : c = [encHd hds[j]] := h6
  refine ⟨hds[j].1, hds[j].2.2, ?_, k2, k3⟩
  rw [h6', ← k1]
  rfl
end Go.Proofs.Ytiiljpaedelhlaa.Flow
