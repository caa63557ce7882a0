/- Flow, twentieth part: a drawn append to an empty literal. Own work, but for the proof of run_append_kd, which turns lines of the printed words. -/
import Derived.Test.YtheaipbnbnjlgaaFlowT
namespace Go.Proofs.Ytheaipbnbnjlgaa.Flow
open Go.RowKit Go.Proofs.YtheaipbnbnjlgaaW.PrintWords Go.Proofs.YtheaipbnbnjlgaaW.PrintLast Go.Proofs.YtheaipbnbnjlgaaW.PrintMore
set_option linter.unusedSimpArgs false
theorem append_fresh {P : Program} {t e ty : TypeId} (ht : P.underlying t = some (.slice e)) {g m2 c2 : Nat} {A2 : Option Addr} {w w' : World} {v : Value} (hm : 0 < m2)
    (h : (Builtin.append_ #[t, t] ty #[.slice none 0 0, .slice A2 m2 c2]).run P w = .ok v w') : (Builtin.append_ #[t, t] ty #[.slice (some ⟨g, 0, none⟩) 0 0, .slice A2 m2 c2]).run P w = .ok v w' := by
  have hz : ¬ m2 = 0 := by omega
  unfold Builtin.append_ at h ⊢
  simp [go_sem, run_underlying ht, Builtin.lenOf, Builtin.firstCells] at h ⊢
  simp only [if_neg hz] at h ⊢
  generalize Sem.run P (sizeOf e) w = r0 at h ⊢
  cases r0 with
  | ok sz w1 =>
    simp only [Result.andThen_ok] at h ⊢
    generalize Sem.run P (typeInfo e) w1 = r1 at h ⊢
    cases r1 with
    | ok i1 w2 =>
      simp only [Result.andThen_ok] at h ⊢
      split at h
      · cases h
      · rename_i hc
        rw [if_neg hc]
        generalize Sem.run P (typeInfo e) w2 = r2 at h ⊢
        cases r2 with
        | ok i2 w3 =>
          simp only [Result.andThen_ok] at h ⊢
          split at h
          · exfalso
            generalize Sem.run P (Builtin.mayShare sz 0 m2 none (Value.slice A2 m2 c2)) w3 = r3 at h
            cases r3 <;> simp [Result.andThen] at h
          · rename_i hc2
            rw [if_neg hc2]
            exact h
        | _ => simp [Result.andThen] at h
    | _ => simp [Result.andThen] at h
  | _ => simp [Result.andThen] at h
theorem append_zero {P : Program} {t e ty : TypeId} (ht : P.underlying t = some (.slice e)) (hsz : ∀ w, ∃ n, (sizeOf e).run P w = .ok n w) {g c2 : Nat} {A2 : Option Addr} (w : World) : (Builtin.append_ #[t, t] ty #[.slice (some ⟨g, 0, none⟩) 0 0, .slice A2 0 c2]).run P w = .ok (.slice (some ⟨g, 0, none⟩) 0 0) w := by
  obtain ⟨n, hn⟩ := hsz w
  unfold Builtin.append_
  simp [go_sem, run_underlying ht, Builtin.lenOf, Builtin.firstCells, hn, Result.andThen]
  cases A2 <;> simp [go_sem, Result.andThen, loadCellsFrom, storeCells]
section
open Go.Proofs.YtheaipbnbnjlgaaW.PrintWords.Kd
theorem run_append_kd {P : Program} {α : Type} (d : Kd α) {Rr : α → List Value → Prop} {W : World} (base : Nat) (ty t e : TypeId) (z : Value) (bytes : Nat)
    (ht : P.underlying t = some (.slice e)) (hinfo : (P.info? e).map (fun i => (i.zero, i.size, i.bytes)) = some (some z, d.sz, bytes)) (hz : z.cells.size = d.sz) (hs0 : 0 < d.sz) (hb0 : 0 < bytes)
    (v : Value) (xs ys : List α) (A : Option Addr) (m c : Nat) (ok okp : Nat → Prop)
    (HO : d.R e W base ok v xs) (HR : ReadsRow Rr d.sz W A m ys) (hKM : ∀ x cs, Rr x cs → d.M W base okp x cs) (hokp : ∀ k, okp k → ok k ∧ some k ≠ v.ownBlock) (hfresh : ∀ k, W.heap.size ≤ k → ok k)
    (hbase : base ≤ W.heap.size) (hl : (xs.length + m) * bytes ≤ 140737488355328) :
    ∃ v1 w1, (Builtin.append_ #[t, t] ty #[v, .slice A m c]).run P W = .ok v1 w1 ∧ d.R e w1 base ok v1 (xs ++ ys) ∧ W.grownBy w1 v.ownBlock ∧ (v1.ownBlock = v.ownBlock ∨ ∃ b, v1.ownBlock = some b ∧ W.heap.size ≤ b) := by
  obtain ⟨i0, hi, hzz⟩ := Option.map_eq_some_iff.1 hinfo
  simp only [Prod.mk.injEq] at hzz
  obtain ⟨hz0, hz1, hz2⟩ := hzz
  have hm : ys.length = m := HR.1
  have hlen : xs.length + m ≤ 140737488355328 := Nat.le_trans (Nat.le_mul_of_pos_right _ hb0) hl
  obtain ⟨hok, inner, hown, hr⟩ := HO
  have hrun : ∃ v1 w1, (Builtin.append_ #[t, t] ty #[v, .slice A m c]).run P W = .ok v1 w1 ∧ d.R e w1 base ok v1 (xs ++ ys) ∧ W.grownBy w1 v.ownBlock ∧ (v1.ownBlock = v.ownBlock ∨ ∃ b, v1.ownBlock = some b ∧ W.heap.size ≤ b) := by
    rcases A with _ | ad
    · have h0 : m = 0 := by
        rcases Nat.eq_zero_or_pos m with h0 | h0
        · exact h0
        · obtain ⟨ad, h, _⟩ := HR.2.2 h0
          cases h
      subst h0
      obtain rfl : ys = [] := List.eq_nil_of_length_eq_zero hm
      refine ⟨v, W, ?_, by rw [List.append_nil]; exact ⟨hok, inner, hown, hr⟩, World.grownBy.refl W _, .inl rfl⟩
      rcases hown.2 with ⟨rfl, hn⟩ | ⟨g, cap, cur, rfl, _, _, hnc, _⟩
      · simp [Builtin.append_, run_underlying ht, sizeOf, typeInfo, hi, Builtin.lenOf, Builtin.firstCells]
      · simp [Builtin.append_, run_underlying ht, sizeOf, typeInfo, hi, Builtin.lenOf, Builtin.firstCells, hnc, storeCells]
    · obtain ⟨news, hnr, hnc⟩ := ReadsRow.inner_ HR
      have hnM : Reps (d.M W base okp) d.sz ys news := hnr.imp_ (fun p c hp => hKM p c hp)
      have hone : ∀ u ∈ news, u.oneCell' = true := by
        intro u hu
        obtain ⟨q, hq, rfl⟩ := List.mem_iff_getElem.1 hu
        have hql : q / d.sz < ys.length := by
          rw [Nat.div_lt_iff_lt_mul hs0]
          rw [← hnM.1]
          exact hq
        have hc := hnM.2 (q / d.sz) _ (List.getElem?_eq_getElem hql)
        refine d.K_one (d.K_of_M hc) _ ?_
        rw [List.mem_iff_getElem?]
        refine ⟨q % d.sz, ?_⟩
        rw [List.getElem?_take, if_pos (Nat.mod_lt _ hs0), List.getElem?_drop, Nat.mul_comm, Nat.div_add_mod, List.getElem?_eq_getElem hq]
      obtain ⟨v1, w1, hrun, h2, hg, _, hat⟩ := run_append_own_at (P := P) W base t ty e i0 z d.sz bytes ht hi hz0 hz1 hz2 hz hs0 v xs.length inner hown ad m c news (by rw [hnM.1, hm]) hnc hone (by simp only [maxLen]; omega) hl hbase
      have hat' : v1.ownBlock = v.ownBlock ∨ ∃ b, v1.ownBlock = some b ∧ W.heap.size ≤ b := by
        rcases hat with hat | hat
        · exact .inl hat
        · exact .inr ⟨_, hat, Nat.le_refl _⟩
      have hne : ∀ k, some k ≠ v.ownBlock → k < W.heap.size → some k ≠ v1.ownBlock := by
        intro k hk hlt
        rcases hat' with hat | ⟨b, hb, hle⟩
        · rw [hat]; exact hk
        · rw [hb]
          intro he
          injection he with he
          omega
      have step : ∀ {q : α} {c : List Value} {o : Nat → Prop}, d.M W base o q c → (∀ k, o k → ok k ∧ some k ≠ v.ownBlock) → d.M w1 base (fun k => ok k ∧ some k ≠ v1.ownBlock) q c := by
        intro q c o hq ho
        have h1 := d.M_move (w1 := w1) (fun k hk => hg.block k hk.2.2.1 (ho k hk.1).2) (d.M_bound hq)
        exact d.M_mono (fun k hk => ⟨(ho k hk.1).1, hne k (ho k hk.1).2 hk.2.2.1⟩) h1
      refine ⟨v1, w1, hrun, ⟨fun k hk => ?_, inner ++ news, by rw [List.length_append, hm]; exact h2, reps_append (hr.imp_ (fun _ _ hq => step hq (fun _ hk => hk))) (hnM.imp_ (fun _ _ hq => step hq hokp))⟩, hg, hat'⟩
      rcases hat' with hat | ⟨b, hb, hle⟩
      · exact hok k (hat ▸ hk)
      · rw [hb] at hk
        injection hk with hk
        exact hfresh k (by omega)
  exact hrun
end
/-- A drawn append to a literal without elements: a row of the function's own. -/
theorem app_gives {α : Type} {d : Kd α} {P : Program} {o : Oper} {G : Env} {W : World} (B : Nat) (s x : Operand) (t e : TypeId) (z : Value) (bytes : Nat)
    (ho : o.op = .call { callee := .builtin .append, args := #[s, x], argTypes := #[t, t] }) (ht : P.underlying t = some (.slice e)) (hinfo : (P.info? e).map (fun i => (i.zero, i.size, i.bytes)) = some (some z, d.sz, bytes)) (hz : z.cells.size = d.sz) (hs0 : 0 < d.sz) (hb0 : 0 < bytes)
    (hKM : ∀ (W : World) (b : Nat) x cs, d.K W x cs → d.M W b (fun _ => False) x cs) (hsz : ∀ w, ∃ n, (sizeOf e).run P w = .ok n w)
    {ys : List α} {g m2 c2 : Nat} {A2 : Option Addr} (hs : sEv G s = .slice (some ⟨g, 0, none⟩) 0 0) (hx : sEv G x = .slice A2 m2 c2) (hblk : Blk W g e #[]) (hgB : B ≤ g) (HR : d.C W A2 m2 ys) (hl : m2 * bytes ≤ 140737488355328) :
    ∃ v w', (execOp (sEv G) o).run P W = .ok (.value v) w' ∧ (OwnKSpec d e B B ys).s v w' ∧ Below W.heap.size W w' := by
  have hlt := hblk.lt
  have run : ∀ v w', (Builtin.append_ #[t, t] o.type #[.slice (some ⟨g, 0, none⟩) 0 0, .slice A2 m2 c2]).run P W = .ok v w' → (execOp (sEv G) o).run P W = .ok (.value v) w' := fun v w' h => by
    unfold execOp
    simp only [ho, resolve, invoke, builtin, Sem.run_bind, Sem.run_pure, Result.andThen_ok, List.map_toArray, List.map_cons, List.map_nil, hs, hx, h]
  rcases Nat.eq_zero_or_pos m2 with h0 | h0
  · subst h0
    obtain rfl : ys = [] := List.eq_nil_of_length_eq_zero HR.1
    exact ⟨_, W, run _ _ (append_zero ht hsz W), ⟨_, _, rfl, OwnK.mono (lit_nilK d B hblk hgB) hgB⟩, Below.refl _ _⟩
  · obtain ⟨v1, w1, h1, h2, h3, _⟩ := run_append_kd d (Rr := d.K W) W.heap.size o.type t e z bytes ht hinfo hz hs0 hb0 (.slice none 0 0) [] ys A2 m2 c2 (fun _ => True) (fun _ => False) (Kd.R_nil _ _ _ _ _) HR (hKM W _) (fun _ h => h.elim) (fun _ _ => trivial) (Nat.le_refl _) (by simpa using hl)
    rw [List.nil_append] at h2
    obtain ⟨A', c', rfl, hc', _⟩ := Kd.R_reads h2
    refine ⟨_, w1, run _ _ (append_fresh ht h0 h1), ⟨A', c', rfl, OwnK.mono (OwnK.born h2 (by omega)) (by omega)⟩, ?_⟩
    exact ⟨h3.os, h3.tape, h3.output, h3.size, fun i hi => h3.block i hi (by simp [Value.ownBlock])⟩
end Go.Proofs.Ytheaipbnbnjlgaa.Flow
