/- Flow, sixth part: rows of whole numbers. Own work; plain theorems. -/
import Derived.Test.YtheaipbnbnjlgaaFlowE
namespace Go.Proofs.Ytheaipbnbnjlgaa.Flow
open Go.RowKit Go.Proofs.YtheaipbnbnjlgaaW.PrintWords Go.Proofs.YtheaipbnbnjlgaaW.PrintLast Go.Proofs.YtheaipbnbnjlgaaW.PrintMore
set_option linter.unusedVariables false
set_option linter.unusedSimpArgs false
set_option linter.unusedSectionVars false
/-- A row of the call's own that was born at size b or later. -/
def Own (k : IntKind) (e : TypeId) (w : World) (base b : Nat) (A : Option Addr) (n c : Nat) (xs : List Int) : Prop := (Kd.int k).R e w base (fun q => b ≤ q) (.slice A n c) xs
section
variable {k : IntKind} {e : TypeId} {w w' : World} {base b : Nat} {A : Option Addr} {n c : Nat} {xs : List Int}
theorem Own.len (h : Own k e w base b A n c xs) : n = xs.length := (Kd.R_reads' h).1
theorem Own.cap (h : Own k e w base b A n c xs) : n ≤ c := (Kd.R_reads' h).2.1
theorem Own.C (h : Own k e w base b A n c xs) : (Kd.int k).C w A xs.length xs := (Kd.R_reads' h).2.2
theorem Own.on (h : Own k e w base b A n c xs) (hb : Below w.heap.size w w') : Own k e w' base b A n c xs := Kd.R_below h hb
theorem Own.below {B : Nat} (h : Own k e w base b A n c xs) (hb : Below B w w') (hB : w.heap.size ≤ B) : Own k e w' base b A n c xs := Kd.R_step h (fun q _ hq => hb.block q (by omega))
theorem Own.mono {b' : Nat} (h : Own k e w base b A n c xs) (hb : b' ≤ b) : Own k e w base b' A n c xs := Kd.R_mono h (fun q hq => Nat.le_trans hb hq)
theorem Own.lower {base' : Nat} (h : Own k e w base b A n c xs) (hb : base' ≤ base) : Own k e w base' b A n c xs := Kd.R_lower h hb
/-- Whatever is made at world W is born at W's size. -/
theorem Own.born {ok : Nat → Prop} {base' : Nat} (h : (Kd.int k).R e w base ok (.slice A n c) xs) (hb : base' ≤ base) : Own k e w base' base A n c xs :=
  Kd.R_lower (Kd.R_mono (Kd.R_bound h) (fun q hq => hq.2.1)) hb
theorem Own.nil (k : IntKind) (e : TypeId) (w : World) (base b : Nat) : Own k e w base b none 0 0 [] := Kd.R_nil _ _ _ _ _
/-- Another row was written, or nothing: blocks below the birth of that row stay. -/
theorem Own.step (h : Own k e w base b A n c xs) (hk : ∀ q, b ≤ q → q < w.heap.size → w'.heap[q]? = w.heap[q]?) : Own k e w' base b A n c xs := Kd.R_step h hk
theorem R_shape {ok : Nat → Prop} {v : Value} (h : (Kd.int k).R e w base ok v xs) : ∃ A c, v = .slice A xs.length c ∧ xs.length ≤ c ∧ (Kd.int k).R e w base ok (.slice A xs.length c) xs := by
  obtain ⟨A, c, rfl, h1, h2⟩ := Kd.R_reads h
  exact ⟨A, c, rfl, h1, h⟩
theorem C_len {α : Type} {d : Kd α} {ys : List α} {m : Nat} (h : d.C w A m ys) : ys.length = m := h.1
end
theorem own_lit_nil (W : World) (base : Nat) (e : TypeId) (k : IntKind) (hb : base ≤ W.heap.size) : Own k e (W.alloc (.cells #[] e)) base W.heap.size (some ⟨W.heap.size, 0, none⟩) 0 0 [] :=
  Own.born (new_ints W e k [] (by simp)) hb
/-- Owned, of a block that is known whole. -/
theorem own_blk {k : IntKind} {e : TypeId} {w : World} {g cap : Nat} {cur : Array Value} {xs : List Int} (base : Nat) (hb : Blk w g e cur) (hbase : base ≤ g) (hcap : cur.size = cap) (hn : xs.length ≤ cap) (hm : cap ≤ 9223372036854775807) (h : Nums k cur xs) : Own k e w base g (some ⟨g, 0, none⟩) xs.length cap xs := by
  refine Kd.R_of_own ⟨by simp [encs], Or.inr ⟨g, cap, cur, rfl, hbase, hb, hn, hm, by omega, ?_⟩⟩ (fun q hq => ?_)
  · apply List.ext_getElem?
    intro j
    by_cases hj : j < xs.length
    · rw [List.getElem?_take_of_lt (by omega)]
      have := h j hj
      simp only [Array.getElem?_toList, this, encs, List.getElem?_map, List.getD_eq_getElem?_getD, List.getElem?_eq_getElem hj, Option.map_some, Option.getD_some]
    · rw [List.getElem?_eq_none (by simp; omega), List.getElem?_eq_none (by simp [encs]; omega)]
  · simp only [Value.ownBlock, Option.some.injEq] at hq
    omega
theorem Nums.nil (k : IntKind) (cur : Array Value) : Nums k cur [] := fun j h => by simp at h
section
variable {P : Program} {cx : Cx} {n : Nat} {Q : Exit → Act → World → Prop} {st : List Itm} {G : Env} {w : World} {ops : Array Oper} {o : Oper} {rest : List Oper}
/-- A row of the call's own grows by another row. -/
theorem rw_append_row {dst : Nat} (k : IntKind) {w0 : World} (base : Nat) (hg : o.guard = none) (hd : o.dst = some dst) (hdn : Nat.blt dst n = true) (s x : Operand) (hks : knownO G s = true) (hkx : knownO G x = true) (t e : TypeId) (bytes : Nat)
    (ho : o.op = .call { callee := .builtin .append, args := #[s, x], argTypes := #[t, t] }) (ht : P.underlying t = some (.slice e)) (hinfo : (P.info? e).map (fun i => (i.zero, i.size, i.bytes)) = some (some (.int k 0), 1, bytes)) (hb0 : 0 < bytes)
    {xs ys : List Int} {A A2 : Option Addr} {m c m2 c2 b : Nat} (hs : sEv G s = .slice A m c) (hx : sEv G x = .slice A2 m2 c2) (hb : b ≤ w.heap.size)
    (HO : Own k e w base b A m c xs) (HR : (Kd.int k).C w A2 m2 ys) (HB : Below base w0 w) (hbase : base ≤ w.heap.size) (hl : (xs.length + m2) * bytes ≤ 140737488355328)
    (kk : ∀ A' n' c' w', n' = (xs ++ ys).length → Own k e w' base b A' n' c' (xs ++ ys) → Below base w0 w' → w.grownBy w' (Value.slice A m c).ownBlock → RW P ops cx n Q rest ((dst, .slice A' n' c') :: G) w') : RW P ops cx n Q (o :: rest) G w := fun a ha =>
  Kd.R_append_row (enc := Value.int k) 0 base hg s x t e (.int k 0) bytes ho ht hinfo rfl hb0 _ xs ys A2 m2 c2 (fun q => b ≤ q) ((eval_known ha hks).trans hs) ((eval_known ha hkx).trans hx) (fun q hq => Nat.le_trans hb hq) HO HR HB hbase hl
    (fun v1 w1 h1 h2 h3 _ => by
      obtain ⟨A', c', rfl, _, h4⟩ := R_shape h1
      rw [hd]
      exact kk A' _ c' w1 rfl h4 h2 h3 _ (ha.put hdn _))
end
/-- A row held against none. -/
theorem nil_step {P : Program} {t e : TypeId} (ht : P.underlying t = some (.slice e)) (d : Nat) (A : Option Addr) (m c : Nat) (w : World) : (Op.equalIn (d + 1) t (.slice A m c) (.slice none 0 0)).run P w = .ok A.isNone w := by
  cases A with
  | none => simp [Op.equalIn, run_underlying ht]
  | some a => simp [Op.equalIn, run_underlying ht]
theorem run_nil_eql {P : Program} {t e : TypeId} (ht : P.underlying t = some (.slice e)) (A : Option Addr) (m c : Nat) (w : World) : (binOp .eql t (.slice A m c) (.slice none 0 0)).run P w = .ok (.bool A.isNone) w := by
  have h2 : (Op.equalIn Op.maxDepth t (.slice A m c) (.slice none 0 0)).run P w = .ok A.isNone w := nil_step ht 9999 A m c w
  simp [binOp, Op.equal, h2]
/-- Bytes as a string. -/
theorem run_str_of {P : Program} {src dst e : TypeId} (hs : P.underlying src = some (.slice e)) (he : P.underlying e = some (.int .u8)) (hd : P.underlying dst = some .string) {w : World} {A : Option Addr} {m c : Nat} {xs : List Int} (h : (Kd.int .u8).C w A m xs) :
    (convert src dst (.slice A m c)).run P w = .ok (.string (strOfNums xs)) w := string_of_reads hs he hd (Kd.reads_of_C (d := (0 : Int)) h)
/-- Rows side by side, as a row of rows. -/
theorem rows_C {k : IntKind} {e t : TypeId} {w : World} {g : Nat} {cs : Array Value} {xss : List (List Int)} (hb : Blk w g t cs) (hl : xss.length ≤ 9223372036854775807) (h : ∀ (j : Nat) (xs : List Int), xss[j]? = some xs → ∃ A c, cs[j]? = some (Value.slice A xs.length c) ∧ xs.length ≤ c ∧ (Kd.int k).C w A xs.length xs) : (Kd.slice e (Kd.int k)).C w (some ⟨g, 0, none⟩) xss.length xss := by
  refine ⟨rfl, hl, fun hn => ⟨_, rfl, fun j p hj => ?_⟩⟩
  obtain ⟨A, c, h1, h2, h3⟩ := h j p hj
  refine ⟨[Value.slice A p.length c], rfl, ⟨A, c, rfl, h2, h3⟩, fun i u hu => ?_⟩
  rcases i with _ | i
  · have hu' : u = Value.slice A p.length c := by simpa using hu.symm
    subst hu'
    have e1 : (⟨g, 0, none⟩ : Addr).add (j * 1 + 0) = ⟨g, j, none⟩ := by rw [add_plain]; simp
    show w.cell? ((⟨g, 0, none⟩ : Addr).add (j * 1 + 0)) = _
    rw [e1, hb.cell, h1]
  · simp at hu
end Go.Proofs.Ytheaipbnbnjlgaa.Flow
