/- Flow, eighth part: a variable that holds a row: stores into it, rows that grow beside it. Own work; plain theorems. -/
import Derived.Test.YtheaipbnbnjlgaaFlowG
namespace Go.Proofs.Ytheaipbnbnjlgaa.Flow
open Go.RowKit Go.Proofs.YtheaipbnbnjlgaaW.PrintWords Go.Proofs.YtheaipbnbnjlgaaW.PrintLast Go.Proofs.YtheaipbnbnjlgaaW.PrintMore
set_option linter.unusedVariables false
set_option linter.unusedSimpArgs false
section
variable {k : IntKind} {e t : TypeId} {w w' : World} {base b g : Nat} {A : Option Addr} {n c : Nat} {xs : List Int} {cs : Array Value}
theorem Own.keep (h : Own k e w base b A n c xs) (hk : Keep g w w') (hg : g < b) : Own k e w' base b A n c xs := h.step (fun q hq _ => hk.block q (by omega))
theorem Own.blockne (h : Own k e w base b A n c xs) (hg : g < b) : some g ≠ (Value.slice A n c).ownBlock := fun hq => by
  have := h.1 g hq.symm
  omega
theorem Blk.grown (h : Blk w g t cs) (hG : w.grownBy w' (Value.slice A n c).ownBlock) (hO : Own k e w base b A n c xs) (hg : g < b) : Blk w' g t cs := (hG.block g h.lt (hO.blockne hg)).trans h
theorem Blk.kept {S : Nat → Prop} (h : Blk w g t cs) (hk : Kept w w' S) (hS : ¬ S g) : Blk w' g t cs := (hk.2 g h.lt hS).trans h
/-- A row of the function's own made shorter: its first m. -/
theorem R_take {ok : Nat → Prop} (h : (Kd.int k).R e w base ok (.slice A n c) xs) (m : Nat) (hm : m ≤ xs.length) : (Kd.int k).R e w base ok (.slice A m c) (xs.take m) := by
  obtain ⟨hn0, hnc, _⟩ := Kd.R_reads' h
  subst hn0
  have ho := Kd.own_of_R h
  have hl : (xs.take m).length = m := by simp; omega
  have key : w.ownsRow base e 1 (.slice A m c) m (encs (Value.int k) (xs.take m)) := by
    refine ⟨by simp [encs]; omega, ?_⟩
    rcases ho.2 with ⟨hv, hn⟩ | ⟨g, cap, cur, hv, hb, hg, hn, hc3, hsz, ht⟩
    · left
      injection hv with h1 h2 h3
      subst h1 h3
      have : m = 0 := by omega
      subst this
      exact ⟨rfl, rfl⟩
    · right
      injection hv with h1 h2 h3
      subst h1 h3
      refine ⟨g, c, cur, rfl, hb, hg, by omega, hc3, hsz, ?_⟩
      have h4 : cur.toList.take (xs.length * 1) = encs (Value.int k) xs := ht
      have h5 : (cur.toList.take (xs.length * 1)).take (m * 1) = (encs (Value.int k) xs).take (m * 1) := by rw [h4]
      rw [List.take_take, Nat.min_eq_left (by omega)] at h5
      simpa [encs] using h5
  refine Kd.R_of_own (by rw [hl]; exact key) (fun q hq => ?_)
  cases A with
  | none => simp [Value.ownBlock] at hq
  | some ad => exact h.1 q hq
end
theorem Keep.kept {g : Nat} {w w' : World} (h : Keep g w w') : Kept w w' (fun q => q = g) := ⟨by rw [h.size]; exact Nat.le_refl _, fun i _ hn => h.block i hn⟩
section
variable {P : Program} {cx : Cx} {n : Nat} {Q : Exit → Act → World → Prop} {st : List Itm} {G : Env} {w : World} {ops : Array Oper} {o : Oper} {rest : List Oper}
/-- An owned row grows by another row; whose blocks it may have is told by any property. -/
theorem rw_append_R {dst : Nat} (k : IntKind) {w0 : World} (base : Nat) (hg : o.guard = none) (hd : o.dst = some dst) (hdn : Nat.blt dst n = true) (s x : Operand) (hks : knownO G s = true) (hkx : knownO G x = true) (t e : TypeId) (bytes : Nat)
    (ho : o.op = .call { callee := .builtin .append, args := #[s, x], argTypes := #[t, t] }) (ht : P.underlying t = some (.slice e)) (hinfo : (P.info? e).map (fun i => (i.zero, i.size, i.bytes)) = some (some (.int k 0), 1, bytes)) (hb0 : 0 < bytes)
    {xs ys : List Int} {A A2 : Option Addr} {m c m2 c2 : Nat} {ok : Nat → Prop} (hs : sEv G s = .slice A m c) (hx : sEv G x = .slice A2 m2 c2) (hfresh : ∀ q, w.heap.size ≤ q → ok q)
    (HO : (Kd.int k).R e w base ok (.slice A m c) xs) (HR : (Kd.int k).C w A2 m2 ys) (HB : Below base w0 w) (hbase : base ≤ w.heap.size) (hl : (xs.length + m2) * bytes ≤ 140737488355328)
    (kk : ∀ A' c' w', (Kd.int k).R e w' base ok (.slice A' (xs ++ ys).length c') (xs ++ ys) → Below base w0 w' → w.grownBy w' (Value.slice A m c).ownBlock → RW P ops cx n Q rest ((dst, .slice A' (xs ++ ys).length c') :: G) w') : RW P ops cx n Q (o :: rest) G w := fun a ha =>
  Kd.R_append_row (enc := Value.int k) 0 base hg s x t e (.int k 0) bytes ho ht hinfo rfl hb0 _ xs ys A2 m2 c2 ok ((eval_known ha hks).trans hs) ((eval_known ha hkx).trans hx) hfresh HO HR HB hbase hl
    (fun v1 w1 h1 h2 h3 _ => by
      obtain ⟨A', c', rfl, _, h4⟩ := R_shape h1
      rw [hd]
      exact kk A' c' w1 h4 h2 h3 _ (ha.put hdn _))
end
end Go.Proofs.Ytheaipbnbnjlgaa.Flow
