/- Flow, thirteenth part: rows of rows that grow; rows beside rows of another kind. Own work; plain theorems. -/
import Derived.Test.YtiiljpaedelhlaaFlowH
import Derived.Test.YtiiljpaedelhlaaWInvWords
namespace Go.Proofs.Ytiiljpaedelhlaa.Flow
open Go.RowKit Go.Proofs.YtiiljpaedelhlaaW.PrintWords Go.Proofs.YtiiljpaedelhlaaW.PrintLast Go.Proofs.YtiiljpaedelhlaaW.PrintMore
set_option linter.unusedVariables false
set_option linter.unusedSimpArgs false
theorem RR_shape {k : IntKind} {e2 e : TypeId} {w : World} {base : Nat} {ok : Nat → Prop} {v : Value} {xss : List (List Int)} (h : (Kd.slice e2 (Kd.int k)).R e w base ok v xss) : ∃ A c, v = .slice A xss.length c ∧ xss.length ≤ c := by
  obtain ⟨A, c, rfl, h1, _⟩ := Kd.R_reads h
  exact ⟨A, c, rfl, h1⟩
section
variable {P : Program} {cx : Cx} {n : Nat} {Q : Exit → Act → World → Prop} {st : List Itm} {G : Env} {w : World} {ops : Array Oper} {o : Oper} {rest : List Oper}
/-- A row of rows of the function's own grows by a row of its own. -/
theorem rw_append_one {dst : Nat} (k : IntKind) (e2 : TypeId) {w0 : World} (base : Nat) (hg : o.guard = none) (hd : o.dst = some dst) (hdn : Nat.blt dst n = true) (s x : Operand) (hks : knownO G s = true) (hkx : knownO G x = true) (t e : TypeId) (bytes : Nat)
    (ho : o.op = .call { callee := .builtin .append, args := #[s, x], argTypes := #[t, t] }) (ht : P.underlying t = some (.slice e)) (hinfo : (P.info? e).map (fun i => (i.zero, i.size, i.bytes)) = some (some (.slice none 0 0), 1, bytes)) (hb0 : 0 < bytes)
    {xss : List (List Int)} {X : List Int} {v : Value} {A1 : Option Addr} {m1 c1 g : Nat} {t2 : TypeId} {okp : Nat → Prop} (hs : sEv G s = v) (hx : sEv G x = .slice (some ⟨g, 0, none⟩) 1 1)
    (HO : (Kd.slice e2 (Kd.int k)).R e w base (fun q => base ≤ q) v xss) (hblk : Blk w g t2 #[.slice A1 m1 c1]) (hX : (Kd.int k).R e2 w base okp (.slice A1 m1 c1) X) (hokp : ∀ q, okp q → base ≤ q ∧ some q ≠ v.ownBlock)
    (HB : Below base w0 w) (hbase : base ≤ w.heap.size) (hl : (xss.length + 1) * bytes ≤ 140737488355328)
    (kk : ∀ A' c' w', (Kd.slice e2 (Kd.int k)).R e w' base (fun q => base ≤ q) (.slice A' (xss ++ [X]).length c') (xss ++ [X]) → Below base w0 w' → w.grownBy w' v.ownBlock → RW P ops cx n Q rest ((dst, .slice A' (xss ++ [X]).length c') :: G) w') : RW P ops cx n Q (o :: rest) G w := fun a ha => by
  refine Kd.R_append_rows (Kd.slice e2 (Kd.int k)) (Rr := fun y cs => y = X ∧ cs = [.slice A1 m1 c1]) base hg s x t e (.slice none 0 0) bytes ho ht hinfo rfl (show 0 < 1 by decide) hb0 v xss [X] (some ⟨g, 0, none⟩) 1 1 (fun q => base ≤ q) okp ((eval_known ha hks).trans hs) ((eval_known ha hkx).trans hx) HO ?_ ?_ hokp (fun q hq => Nat.le_trans hbase hq) HB hbase hl ?_
  · refine ⟨rfl, by decide, fun _ => ⟨_, rfl, fun j p hj => ?_⟩⟩
    match j, hj with
    | 0, hj =>
      obtain rfl := Option.some.inj hj
      refine ⟨[.slice A1 m1 c1], rfl, ⟨rfl, rfl⟩, fun i u hu => ?_⟩
      match i, hu with
      | 0, hu =>
        obtain rfl := Option.some.inj hu
        exact hblk.cellv rfl
      | i + 1, hu => simp at hu
    | j + 1, hj => simp at hj
  · rintro y cs ⟨rfl, rfl⟩
    exact ⟨_, rfl, hX⟩
  · intro v1 w1 h1 h2 h3 _
    obtain ⟨A', c', rfl, _⟩ := RR_shape h1
    rw [hd]
    exact kk A' c' w1 h1 h2 h3 _ (ha.put hdn _)
end
/-- Rows of unlike kinds don't share a block. -/
theorem apart_types {k1 k2 : IntKind} {e1 e2 : TypeId} {w : World} {b1 b2 : Nat} {ok1 ok2 : Nat → Prop} {v1 v2 : Value} {x1 x2 : List Int} (h1 : (Kd.int k1).R e1 w b1 ok1 v1 x1) (h2 : (Kd.int k2).R e2 w b2 ok2 v2 x2) (hne : e1 ≠ e2) : ∀ q, v1.ownBlock = some q → some q ≠ v2.ownBlock := fun q hq h => by
  obtain ⟨c1, h3⟩ := own_typed (Kd.own_of_R h1) q hq
  obtain ⟨c2, h4⟩ := own_typed (Kd.own_of_R h2) q h.symm
  rw [h3] at h4
  injection h4 with h4
  injection h4 with _ h5
  exact hne h5
/-- A row stays where one of another kind grows. -/
theorem Own.grown {k1 k2 : IntKind} {e1 e2 : TypeId} {w w' : World} {base b1 b2 : Nat} {A1 A2 : Option Addr} {n1 c1 n2 c2 : Nat} {x1 x2 : List Int} (h : Own k1 e1 w base b1 A1 n1 c1 x1) (h2 : Own k2 e2 w base b2 A2 n2 c2 x2) (hne : e2 ≠ e1) (hg : w.grownBy w' (Value.slice A2 n2 c2).ownBlock) : Own k1 e1 w' base b1 A1 n1 c1 x1 :=
  Kd.R_grown2 h rfl hg (apart_types h2 h hne)
end Go.Proofs.Ytiiljpaedelhlaa.Flow
