/- Flow, eleventh part: a variable's row that may have been cut: owned whole, or a full beginning of a block. Own work; plain theorems. -/
import Derived.Test.YtiiljpaedelhlaaFlowH
import Derived.ArgAppend
namespace Go.Proofs.Ytiiljpaedelhlaa.Flow
open Go.RowKit Go.Proofs.YtiiljpaedelhlaaW.PrintWords Go.Proofs.YtiiljpaedelhlaaW.PrintLast Go.Proofs.YtiiljpaedelhlaaW.PrintMore
set_option linter.unusedVariables false
set_option linter.unusedSimpArgs false
/-- A row of a variable's own: owned with its room, or without room the beginning of a block of its own. -/
def BR (k : IntKind) (e : TypeId) (w : World) (base : Nat) (ok : Nat → Prop) (A : Option Addr) (n c : Nat) (xs : List Int) : Prop :=
  (Kd.int k).R e w base ok (.slice A n c) xs ∨ ∃ g cur, A = some ⟨g, 0, none⟩ ∧ Blk w g e cur ∧ base ≤ g ∧ ok g ∧ n = xs.length ∧ c = n ∧ n ≤ cur.size ∧ cur.size ≤ 9223372036854775807 ∧ Nums k cur xs
section
variable {k : IntKind} {e : TypeId} {w w' : World} {base : Nat} {ok : Nat → Prop} {A : Option Addr} {n c : Nat} {xs : List Int}
theorem blk_C {g : Nat} {cur : Array Value} (hb : Blk w g e cur) (hn : xs.length ≤ cur.size) (hm : cur.size ≤ 9223372036854775807) (h : Nums k cur xs) : (Kd.int k).C w (some ⟨g, 0, none⟩) xs.length xs :=
  Own.C (own_blk (k := k) (e := e) g hb (Nat.le_refl _) rfl hn hm h)
theorem BR.of_R (h : (Kd.int k).R e w base ok (.slice A n c) xs) : BR k e w base ok A n c xs := .inl h
theorem BR.reads' (h : BR k e w base ok A n c xs) : n = xs.length ∧ n ≤ c ∧ (Kd.int k).C w A xs.length xs := by
  rcases h with h | ⟨g, cur, rfl, hb, h1, h2, h3, h4, h5, h6, h7⟩
  · exact Kd.R_reads' h
  · exact ⟨h3, by omega, blk_C hb (by omega) h6 h7⟩
theorem BR.own (h : BR k e w base ok A n c xs) : ∀ q, (Value.slice A n c).ownBlock = some q → ok q := by
  rcases h with h | ⟨g, cur, rfl, hb, h1, h2, h3, h4, h5, h6, h7⟩
  · exact h.1
  · intro q hq
    simp only [Value.ownBlock, Option.some.injEq] at hq
    subst hq
    exact h2
theorem BR.mono {ok' : Nat → Prop} (h : BR k e w base ok A n c xs) (hok : ∀ q, ok q → ok' q) : BR k e w base ok' A n c xs := by
  rcases h with h | ⟨g, cur, rfl, hb, h1, h2, h3⟩
  · exact .inl (Kd.R_mono h hok)
  · exact .inr ⟨g, cur, rfl, hb, h1, hok _ h2, h3⟩
theorem BR.bound (h : BR k e w base ok A n c xs) : BR k e w base (fun q => ok q ∧ base ≤ q ∧ q < w.heap.size) A n c xs := by
  rcases h with h | ⟨g, cur, rfl, hb, h1, h2, h3⟩
  · exact .inl (Kd.R_mono (Kd.R_bound h) (fun q hq => ⟨hq.1, hq.2.1, hq.2.2.1⟩))
  · exact .inr ⟨g, cur, rfl, hb, h1, ⟨h2, h1, hb.lt⟩, h3⟩
theorem BR.lower {base' : Nat} (h : BR k e w base ok A n c xs) (hb : base' ≤ base) : BR k e w base' ok A n c xs := by
  rcases h with h | ⟨g, cur, rfl, hb2, h1, h3⟩
  · exact .inl (Kd.R_lower h hb)
  · exact .inr ⟨g, cur, rfl, hb2, Nat.le_trans hb h1, h3⟩
theorem BR.step (h : BR k e w base ok A n c xs) (hm : ∀ q, ok q → q < w.heap.size → w'.heap[q]? = w.heap[q]?) : BR k e w' base ok A n c xs := by
  rcases h with h | ⟨g, cur, rfl, hb, h1, h2, h3⟩
  · exact .inl (Kd.R_step h hm)
  · exact .inr ⟨g, cur, rfl, (hm g h2 hb.lt).trans hb, h1, h2, h3⟩
theorem BR.below (h : BR k e w base ok A n c xs) (hb : Below w.heap.size w w') : BR k e w' base ok A n c xs := h.step (fun q _ hq => hb.block q hq)
theorem BR.kept {S : Nat → Prop} (h : BR k e w base ok A n c xs) (hk : Kept w w' S) (hne : ∀ q, ok q → ¬ S q) : BR k e w' base ok A n c xs := h.step (fun q ho hlt => hk.2 q hlt (hne q ho))
theorem BR.nil (k : IntKind) (e : TypeId) (w : World) (base : Nat) (ok : Nat → Prop) : BR k e w base ok none 0 0 [] := .inl (Kd.R_nil _ _ _ _ _)
theorem nums_take {cur : Array Value} (h : Nums k cur xs) (m : Nat) : Nums k cur (xs.take m) := fun j hj => by
  have hj1 : j < m ∧ j < xs.length := by simp at hj; omega
  rw [h j hj1.2]
  simp [List.getD_eq_getElem?_getD, List.getElem?_take, hj1.1]
/-- The first m of it, without room behind them. -/
theorem BR.cut (h : BR k e w base ok A n c xs) (m : Nat) (hm : m ≤ xs.length) : BR k e w base ok A m m (xs.take m) := by
  have hl : (xs.take m).length = m := by simp; omega
  rcases h with h | ⟨g, cur, rfl, hb, h1, h2, h3, h4, h5, h6, h7⟩
  · obtain ⟨hn0, hnc, _⟩ := Kd.R_reads' h
    subst hn0
    by_cases h0 : xs = []
    · subst h0
      simp only [List.length_nil, Nat.le_zero] at hm
      subst hm
      have ho := Kd.own_of_R h
      rcases ho.2 with ⟨hv, hn⟩ | ⟨g, cap, cur, hv, hb, hg, hn, hc3, hsz, ht⟩
      · injection hv with q1 q2 q3
        subst q1 q3
        exact .inl h
      · injection hv with q1 q2 q3
        subst q1 q3
        refine .inr ⟨g, cur, rfl, hg, hb, h.1 g rfl, rfl, rfl, by omega, ?_, fun j hj => by simp at hj⟩
        simp [maxLen] at hc3
        omega
    · obtain ⟨g, cap, cur, hv, hb, hg, hn, hsz, hN⟩ := row_block h h0
      have hown := Kd.own_of_R h
      injection hv with q1 q2 q3
      subst q1 q3
      have hmx : c ≤ 9223372036854775807 := by
        rcases hown.2 with ⟨hv, _⟩ | ⟨g', cap', cur', hv, _, _, _, hc3, _, _⟩
        · cases hv
        · injection hv with _ _ q4
          subst q4
          simp [maxLen] at hc3
          omega
      exact .inr ⟨g, cur, rfl, hg, hb, h.1 g rfl, hl.symm, rfl, by omega, by omega, nums_take hN m⟩
  · exact .inr ⟨g, cur, rfl, hb, h1, h2, hl.symm, rfl, by omega, h6, nums_take h7 m⟩
end
theorem C_cells {k : IntKind} {w : World} {ad : Addr} {m : Nat} {ys : List Int} (h : (Kd.int k).C w (some ad) m ys) (hn : 0 < m) : ∀ j u, (encs (Value.int k) ys)[j]? = some u → w.cell? (ad.add j) = some u := fun j u hu => by
  obtain ⟨ad', hA, hc⟩ := h.2.2 hn
  obtain rfl := Option.some.inj hA
  simp only [encs, List.getElem?_map, Option.map_eq_some_iff] at hu
  obtain ⟨p, hp, rfl⟩ := hu
  obtain ⟨c, hl, hK, hcell⟩ := hc j p hp
  have hK' : c = [Value.int k p] := hK
  subst hK'
  have := hcell 0 _ rfl
  have e1 : j * 1 + 0 = j := by omega
  rw [show (Kd.int k).sz = 1 from rfl, e1] at this
  exact this
section
variable {P : Program} {cx : Cx} {n : Nat} {Q : Exit → Act → World → Prop} {st : List Itm} {G : Env} {w : World} {ops : Array Oper} {o : Oper} {rest : List Oper}
/-- A variable's row grows by another row. -/
theorem rw_append_BR {dst : Nat} (k : IntKind) {w0 : World} (base : Nat) (hg : o.guard = none) (hd : o.dst = some dst) (hdn : Nat.blt dst n = true) (s x : Operand) (hks : knownO G s = true) (hkx : knownO G x = true) (t e : TypeId) (bytes : Nat)
    (ho : o.op = .call { callee := .builtin .append, args := #[s, x], argTypes := #[t, t] }) (ht : P.underlying t = some (.slice e)) (hinfo : (P.info? e).map (fun i => (i.zero, i.size, i.bytes)) = some (some (.int k 0), 1, bytes)) (hb0 : 0 < bytes)
    {xs ys : List Int} {A A2 : Option Addr} {m c m2 c2 : Nat} {ok : Nat → Prop} (hs : sEv G s = .slice A m c) (hx : sEv G x = .slice A2 m2 c2) (hfresh : ∀ q, w.heap.size ≤ q → ok q)
    (HO : BR k e w base ok A m c xs) (HR : (Kd.int k).C w A2 m2 ys) (HB : Below base w0 w) (hbase : base ≤ w.heap.size) (hl : (xs.length + m2) * bytes ≤ 140737488355328)
    (kk : ∀ A' c' w', BR k e w' base ok A' (xs ++ ys).length c' (xs ++ ys) → Below base w0 w' → w.grownBy w' (Value.slice A m c).ownBlock → RW P ops cx n Q rest ((dst, .slice A' (xs ++ ys).length c') :: G) w') : RW P ops cx n Q (o :: rest) G w := by
  rcases HO with HO | HC
  · exact rw_append_R k base hg hd hdn s x hks hkx t e bytes ho ht hinfo hb0 hs hx hfresh HO HR HB hbase hl (fun A' c' w' h1 h2 h3 => kk A' c' w' (.inl h1) h2 h3)
  · intro a ha
    have HC' := HC
    obtain ⟨g, cur, rfl, hb, h1, h2, h3, h4, h5, h6, h7⟩ := HC
    obtain ⟨i0, hi, hzz⟩ := Option.map_eq_some_iff.1 hinfo
    simp only [Prod.mk.injEq] at hzz
    obtain ⟨hz0, hz1, hz2⟩ := hzz
    have hys : ys.length = m2 := HR.1
    have hlen : xs.length + m2 ≤ 140737488355328 := Nat.le_trans (Nat.le_mul_of_pos_right _ hb0) hl
    have hCx := blk_C (k := k) hb (by omega) h6 h7
    rcases Nat.eq_zero_or_pos m2 with h0 | h0
    · subst h0
      obtain rfl : ys = [] := List.eq_nil_of_length_eq_zero hys
      have hk := kk (some ⟨g, 0, none⟩) c w (by rw [List.append_nil, ← h3]; exact .inr HC') HB (World.grownBy.refl _ _)
      have hrun : (Builtin.append_ #[t, t] o.type #[.slice (some ⟨g, 0, none⟩) m c, .slice A2 0 c2]).run P w = .ok (.slice (some ⟨g, 0, none⟩) m c) w := by
        have hmc : m ≤ c := by omega
        cases A2 with
        | none => simp [Builtin.append_, run_underlying ht, sizeOf, typeInfo, hi, Builtin.lenOf, Builtin.firstCells, hmc, storeCells]
        | some ad =>
          have hfc := run_firstCells_some (P := P) w i0.size 0 ad 0 c2 [] (by simp) (by simp)
          simp [Builtin.append_, run_underlying ht, sizeOf, typeInfo, hi, Builtin.lenOf, hmc, hfc, storeCells]
      rw [List.append_nil, ← h3] at hk
      refine wpList_plain hg fun K hK' => ?_
      have es : a.eval s = .slice (some ⟨g, 0, none⟩) m c := (eval_known ha hks).trans hs
      have ex : a.eval x = .slice A2 0 c2 := (eval_known ha hkx).trans hx
      unfold Oper.wp
      simp [execOp, ho, resolve, invoke, builtin, es, ex, hrun, Result.andThen]
      exact hK' _ _ (by rw [hd]; exact hk _ (ha.put hdn _))
    · obtain ⟨ad, hA, _⟩ := HR.2.2 h0
      subst hA
      have hxl : (encs (Value.int k) xs).length = xs.length := encs_length _
      refine wpList_append_grows w hg s x t ho e i0 (.int k 0) 1 bytes ht hi hz0 hz1 hz2 rfl (by omega) (some ⟨g, 0, none⟩) m c (encs (Value.int k) xs) ((eval_known ha hks).trans hs) (fun h => by cases h) (by rw [hxl]; omega)
        (fun b hb2 j u hu => by
          obtain rfl := Option.some.inj hb2
          have hx0 : 0 < xs.length := by
            have := (List.getElem?_eq_some_iff.1 hu).1
            rw [hxl] at this
            omega
          exact C_cells hCx hx0 j u hu) ad m2 c2 (encs (Value.int k) ys) ((eval_known ha hkx).trans hx) (by rw [encs_length]; omega) (C_cells HR h0) (fun u hu => ?_) (by omega) (by simp [maxLen]; omega) (by rw [h3]; exact hl) ?_
      · simp only [encs, List.mem_map] at hu
        obtain ⟨q, _, rfl⟩ := hu
        rfl
      · intro v' w' hown hgr
        have hownl : m + m2 = (xs ++ ys).length := by simp; omega
        rw [hownl, ← encs_append] at hown
        have hR : (Kd.int k).R e w' base ok v' (xs ++ ys) := by
          refine Kd.R_lower (Kd.R_of_own hown (fun q hq => ?_)) hbase
          rcases hown.2 with ⟨hv, _⟩ | ⟨g', cap', cur', hv, hge, _⟩
          · rw [hv] at hq
            cases hq
          · rw [hv] at hq
            simp only [Value.ownBlock, Option.some.injEq] at hq
            subst hq
            exact hfresh _ hge
        obtain ⟨A', c', rfl, _, h4'⟩ := R_shape hR
        have hBl : Below w.heap.size w w' := ⟨hgr.os, hgr.tape, hgr.output, hgr.size, fun q hq => hgr.block q hq (by simp)⟩
        rw [hd]
        exact kk A' c' w' (.inl h4') (HB.trans (hBl.mono hbase)) ⟨hgr.os, hgr.tape, hgr.output, hgr.size, fun q hq _ => hgr.block q hq (by simp)⟩ _ (ha.put hdn _)
end
end Go.Proofs.Ytiiljpaedelhlaa.Flow
