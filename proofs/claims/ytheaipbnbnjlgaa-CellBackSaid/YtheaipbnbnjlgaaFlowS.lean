/- Flow, seventeenth part: rows of any kind of element; elements that are structs without rows inside. Own work; plain theorems. -/
import Derived.Test.YtheaipbnbnjlgaaFlowI
namespace Go.Proofs.Ytheaipbnbnjlgaa.Flow
open Go.RowKit Go.Proofs.YtheaipbnbnjlgaaW.PrintWords Go.Proofs.YtheaipbnbnjlgaaW.PrintLast Go.Proofs.YtheaipbnbnjlgaaW.PrintMore
set_option linter.unusedVariables false
set_option linter.unusedSimpArgs false
set_option linter.unusedSectionVars false
/-- A row of the call's own that was born at size b or later. -/
def OwnK {α : Type} (d : Kd α) (e : TypeId) (w : World) (base b : Nat) (A : Option Addr) (n c : Nat) (xs : List α) : Prop := d.R e w base (fun q => b ≤ q) (.slice A n c) xs
section
variable {α : Type} {d : Kd α} {e : TypeId} {w w' w1 : World} {base b : Nat} {A : Option Addr} {n c : Nat} {xs : List α}
theorem OwnK.len (h : OwnK d e w base b A n c xs) : n = xs.length := (Kd.R_reads' h).1
theorem OwnK.cap (h : OwnK d e w base b A n c xs) : n ≤ c := (Kd.R_reads' h).2.1
theorem OwnK.C (h : OwnK d e w base b A n c xs) : d.C w A xs.length xs := (Kd.R_reads' h).2.2
theorem OwnK.Cn (h : OwnK d e w base b A n c xs) : d.C w A n xs := by rw [h.len]; exact h.C
theorem OwnK.on (h : OwnK d e w base b A n c xs) (hb : Below w.heap.size w w') : OwnK d e w' base b A n c xs := Kd.R_below h hb
theorem OwnK.mono {b' : Nat} (h : OwnK d e w base b A n c xs) (hb : b' ≤ b) : OwnK d e w base b' A n c xs := Kd.R_mono h (fun q hq => Nat.le_trans hb hq)
theorem OwnK.lower {base' : Nat} (h : OwnK d e w base b A n c xs) (hb : base' ≤ base) : OwnK d e w base' b A n c xs := Kd.R_lower h hb
theorem OwnK.nil (d : Kd α) (e : TypeId) (w : World) (base b : Nat) : OwnK d e w base b none 0 0 [] := Kd.R_nil _ _ _ _ _
theorem OwnK.born {ok : Nat → Prop} {base' : Nat} (h : d.R e w base ok (.slice A n c) xs) (hb : base' ≤ base) : OwnK d e w base' base A n c xs :=
  Kd.R_lower (Kd.R_mono (Kd.R_bound h) (fun q hq => hq.2.1)) hb
theorem OwnK.step (h : OwnK d e w base b A n c xs) (hk : ∀ q, b ≤ q → q < w.heap.size → w'.heap[q]? = w.heap[q]?) : OwnK d e w' base b A n c xs := Kd.R_step h hk
/-- A row of another type grows. -/
theorem OwnK.grown {α2 : Type} {d2 : Kd α2} {e2 : TypeId} {b2 : Nat} {A2 : Option Addr} {n2 c2 : Nat} {ys : List α2} (h : OwnK d e w base b A n c xs) (ho : OwnK d2 e2 w base b2 A2 n2 c2 ys) (hne : ∀ q, q ∈ e :: d.E → q ≠ e2) (hG : w.grownBy w' (Value.slice A2 n2 c2).ownBlock) : OwnK d e w' base b A n c xs := by
  have h0 := Kd.R_bound h
  refine Kd.R_mono (Kd.R_grown h0 hG (fun k hk he => ?_)) (fun q hq => hq.1)
  obtain ⟨hk1, hk2, hk3, q, hq, cells, hc⟩ := hk
  obtain ⟨_, inner, hown, _⟩ := ho
  obtain ⟨cells2, hc2⟩ := own_typed hown k he.symm
  rw [hc] at hc2
  injection hc2 with hc2
  injection hc2 with _ hc2
  exact hne q hq hc2
/-- A younger row grows. -/
theorem OwnK.elder (h : OwnK d e w1 base b A n c xs) (hB : Below w1.heap.size w1 w) {r : Option Nat} (hG : w.grownBy w' r) (hr : ∀ q, r = some q → w1.heap.size ≤ q) : OwnK d e w' base b A n c xs := by
  have h0 := Kd.R_below (Kd.R_bound h) hB
  refine Kd.R_mono (Kd.R_grown h0 hG (fun k hk he => ?_)) (fun q hq => hq.1)
  have := hr k he.symm
  omega
theorem OwnK.blk_ge {q : Nat} (h : OwnK d e w base b A n c xs) (hq : (Value.slice A n c).ownBlock = some q) : b ≤ q := h.1 q hq
theorem OwnK.blk_grown {g : Nat} {t : TypeId} {cs : Array Value} (hb : Blk w g t cs) (ho : OwnK d e w base b A n c xs) (hg : g < b ∨ e ≠ t) (hG : w.grownBy w' (Value.slice A n c).ownBlock) : Blk w' g t cs := by
  refine (hG.block g hb.lt (fun he => ?_)).trans hb
  rcases hg with hg | hg
  · have := ho.blk_ge he.symm; omega
  · obtain ⟨_, inner, hown, _⟩ := ho
    obtain ⟨cells2, hc2⟩ := own_typed hown g he.symm
    have hb' : w.heap[g]? = some (.cells cs t (0, 0)) := hb
    rw [hc2] at hb'
    injection hb' with hb'
    injection hb' with _ hb'
    exact hg hb'
theorem C_lenK {m : Nat} (h : d.C w A m xs) : xs.length = m := h.1
theorem C_nilK (d : Kd α) (w : World) (A : Option Addr) : d.C w A 0 [] := ⟨rfl, by omega, fun h => absurd h (by omega)⟩
end
/-- Structs without rows inside: a number of cells. -/
def flat {α : Type} (sz : Nat) (enc : α → List Value) (hl : ∀ x, (enc x).length = sz) (h1 : ∀ x, ∀ u ∈ enc x, u.oneCell' = true) : Kd α where
  sz := sz
  E := []
  K := fun _ x cs => cs = enc x
  M := fun _ _ _ x cs => cs = enc x
  K_len := fun h => by rw [h]; exact hl _
  K_one := fun h u hu => by rw [h] at hu; exact h1 _ u hu
  K_below := fun _ h => h
  K_of_M := fun h => h
  M_mono := fun _ h => h
  M_bound := fun h => h
  M_move := fun _ h => h
  M_lower := fun _ h => h
section
variable {α : Type} {sz : Nat} {enc : α → List Value} {hl1 : ∀ x, (enc x).length = sz} {h1 : ∀ x, ∀ u ∈ enc x, u.oneCell' = true}
/-- An element of such a row. -/
theorem flat_at {w : World} {A : Option Addr} {n : Nat} {xs : List α} (h : (flat sz enc hl1 h1).C w A n xs) (z : α) (i : Nat) (hi : i < n) : ∃ ad, A = some ad ∧ ∀ j u, (enc (xs.getD i z))[j]? = some u → w.cell? (ad.add (i * sz + j)) = some u := by
  obtain ⟨ad, c, h1, h2, h3, h4⟩ := Kd.C_get h z (i : Int) (by omega) (by omega)
  have h5 : c = enc (xs.getD ((i : Int)).toNat z) := h3
  subst h5
  exact ⟨ad, h1, h4⟩
theorem flat_len_flatten : ∀ (xs : List α), ((xs.map enc).flatten).length = xs.length * sz ∨ ¬ ∀ x, (enc x).length = sz
  | [] => by simp
  | x :: xs => by
    by_cases h : ∀ x, (enc x).length = sz
    · left
      rcases flat_len_flatten xs with h2 | h2
      · simp only [List.map_cons, List.flatten_cons, List.length_append, List.length_cons, h, h2, Nat.succ_mul]
        omega
      · exact absurd h h2
    · exact .inr h
theorem flat_get : ∀ (xs : List α) (hl : ∀ x, (enc x).length = sz) (j : Nat) (p : α), xs[j]? = some p → ∀ (i : Nat) (u : Value), (enc p)[i]? = some u → ((xs.map enc).flatten)[j * sz + i]? = some u
  | [], _, _, _, h, _, _, _ => by simp at h
  | x :: xs, hl, 0, p, h, i, u, hu => by
    obtain rfl := Option.some.inj (by simpa using h : some x = some p)
    have hi := (List.getElem?_eq_some_iff.1 hu).1
    simp only [List.map_cons, List.flatten_cons, Nat.zero_mul, Nat.zero_add]
    rw [List.getElem?_append_left hi]
    exact hu
  | x :: xs, hl, j + 1, p, h, i, u, hu => by
    have h2 := flat_get xs hl j p (by simpa using h) i u hu
    simp only [List.map_cons, List.flatten_cons]
    rw [List.getElem?_append_right (by rw [hl, Nat.succ_mul]; omega), hl, show (j + 1) * sz + i - sz = j * sz + i by rw [Nat.succ_mul]; omega]
    exact h2
/-- A literal of such elements. -/
theorem flat_blk {w : World} {g : Nat} {t : TypeId} {cs : Array Value} {xs : List α} (hb : Blk w g t cs) (hc : cs.toList = (xs.map enc).flatten) (hm : xs.length ≤ 9223372036854775807) : (flat sz enc hl1 h1).C w (some ⟨g, 0, none⟩) xs.length xs := by
  refine ⟨rfl, hm, fun hn => ⟨_, rfl, fun j p hj => ⟨enc p, hl1 p, rfl, fun i u hu => ?_⟩⟩⟩
  have h2 := flat_get xs hl1 j p hj i u hu
  have e1 : (⟨g, 0, none⟩ : Addr).add (j * sz + i) = ⟨g, j * sz + i, none⟩ := by rw [add_plain]
  show w.cell? ((⟨g, 0, none⟩ : Addr).add (j * sz + i)) = _
  rw [e1]
  refine hb.cellv ?_
  rw [← h2, ← hc]
  simp
theorem flat_own {w : World} {g cap : Nat} {e : TypeId} {cs : Array Value} {xs : List α} (base : Nat) (hb : Blk w g e cs) (hbase : base ≤ g) (hc : cs.toList = (xs.map enc).flatten) (hcap : xs.length = cap) (hm : xs.length * sz ≤ 9223372036854775807) (hm2 : xs.length ≤ 9223372036854775807) : OwnK (flat sz enc hl1 h1) e w base g (some ⟨g, 0, none⟩) xs.length cap xs := by
  have hlen : ((xs.map enc).flatten).length = xs.length * sz := by
    rcases flat_len_flatten (sz := sz) (enc := enc) xs with h | h
    · exact h
    · exact absurd hl1 h
  have hcs : cs.size = xs.length * sz := by rw [← hlen, ← hc]; simp
  refine ⟨fun q hq => ?_, (xs.map enc).flatten, ⟨hlen, Or.inr ⟨g, cap, cs, rfl, hbase, hb, by omega, by subst hcap; exact hm2, by subst hcap; exact hcs, ?_⟩⟩, ⟨hlen, fun j p hj => ?_⟩⟩
  · simp only [Value.ownBlock, Option.some.injEq] at hq
    omega
  · rw [hc, List.take_of_length_le (by rw [hlen]; exact Nat.le_refl _)]
  · show ((xs.map enc).flatten.drop (j * sz)).take sz = enc p
    apply List.ext_getElem?
    intro i
    rcases Nat.lt_or_ge i sz with hi | hi
    · rw [List.getElem?_take_of_lt hi, List.getElem?_drop, List.getElem?_eq_getElem (l := enc p) (by rw [hl1]; exact hi)]
      exact flat_get xs hl1 j p hj i _ (List.getElem?_eq_getElem _)
    · rw [List.getElem?_eq_none (by simp; omega), List.getElem?_eq_none (by rw [hl1]; exact hi)]
end
section
variable {P : Program} {cx : Cx} {n : Nat} {Q : Exit → Act → World → Prop} {st : List Itm} {G : Env} {w : World} {ops : Array Oper} {o : Oper} {rest : List Oper}
/-- A row of such elements, of the call's own, grows by another row. -/
theorem rw_append_flat {α : Type} {sz : Nat} {enc : α → List Value} {hl1 : ∀ x, (enc x).length = sz} {h1 : ∀ x, ∀ u ∈ enc x, u.oneCell' = true} {dst : Nat} {w0 : World} (base : Nat) (hg : o.guard = none) (hd : o.dst = some dst) (hdn : Nat.blt dst n = true) (s x : Operand) (hks : knownO G s = true) (hkx : knownO G x = true) (t e : TypeId) (z : Value) (bytes : Nat)
    (ho : o.op = .call { callee := .builtin .append, args := #[s, x], argTypes := #[t, t] }) (ht : P.underlying t = some (.slice e)) (hinfo : (P.info? e).map (fun i => (i.zero, i.size, i.bytes)) = some (some z, sz, bytes)) (hz : z.cells.size = sz) (hs0 : 0 < sz) (hb0 : 0 < bytes)
    {xs ys : List α} {A A2 : Option Addr} {m c m2 c2 b : Nat} (hs : sEv G s = .slice A m c) (hx : sEv G x = .slice A2 m2 c2) (hb : b ≤ w.heap.size)
    (HO : OwnK (flat sz enc hl1 h1) e w base b A m c xs) (HR : (flat sz enc hl1 h1).C w A2 m2 ys) (HB : Below base w0 w) (hbase : base ≤ w.heap.size) (hl : (xs.length + m2) * bytes ≤ 140737488355328)
    (kk : ∀ A' c' w', OwnK (flat sz enc hl1 h1) e w' base b A' (xs ++ ys).length c' (xs ++ ys) → Below base w0 w' → w.grownBy w' (Value.slice A m c).ownBlock → RW P ops cx n Q rest ((dst, .slice A' (xs ++ ys).length c') :: G) w') : RW P ops cx n Q (o :: rest) G w := fun a ha =>
  Kd.R_append_rows (flat sz enc hl1 h1) (Rr := fun x cs => cs = enc x) base hg s x t e z bytes ho ht hinfo hz hs0 hb0 _ xs ys A2 m2 c2 (fun q => b ≤ q) (fun _ => False) ((eval_known ha hks).trans hs) ((eval_known ha hkx).trans hx) HO HR (fun _ _ h => h) (fun _ h => h.elim) (fun q hq => Nat.le_trans hb hq) HB hbase hl
    (fun v1 w1 h1 h2 h3 _ => by
      obtain ⟨A', c', rfl, _, _⟩ := Kd.R_reads h1
      rw [hd]
      exact kk A' c' w1 h1 h2 h3 _ (ha.put hdn _))
end
/-- A drawn call's answer that is a row of the function's own. -/
def OwnKSpec {α : Type} (d : Kd α) (e : TypeId) (base b : Nat) (xs : List α) : Spec where
  s := fun v w => ∃ A c, v = .slice A xs.length c ∧ OwnK d e w base b A xs.length c xs
  pl := fun v => ∃ A c, v = .slice A xs.length c ∧ xs.length ≤ c
  stab := fun v w w' hb ⟨A, c, h1, h2⟩ => ⟨A, c, h1, h2.on hb⟩
  imp := fun v w ⟨A, c, h1, h2⟩ => ⟨A, c, h1, h2.cap⟩
  inh := ⟨.slice none xs.length xs.length, none, xs.length, rfl, Nat.le_refl _⟩
theorem ownk_fact {α : Type} {d : Kd α} {e : TypeId} {base b : Nat} {xs : List α} {A : Option Addr} {n c : Nat} {w : World} (h : (OwnKSpec d e base b xs).s (.slice A n c) w) : OwnK d e w base b A n c xs := by
  obtain ⟨A', c', he, h2⟩ := h
  injection he with h3 h4 h5
  subst h3 h4 h5
  exact h2
/-! ### Elements: where they lie -/
section
variable {P : Program} {w : World} {ad : Addr} {v : Value}
theorem cell_0 {k : Nat} (h : w.cell? (ad.add (k + 0)) = some v) : w.cell? (ad.add k) = some v := h
theorem cell_j {k j : Nat} (h : w.cell? (ad.add (k + (j + 1))) = some v) : w.cell? ⟨(ad.add k).block, (ad.add k).off + (j + 1), none⟩ = some v := by
  have e1 : ad.add (k + (j + 1)) = ⟨(ad.add k).block, (ad.add k).off + (j + 1), none⟩ := by
    unfold Addr.add
    rw [if_neg (by omega)]
    by_cases hk : k = 0
    · subst hk; simp
    · rw [if_neg hk]; simp; omega
  rw [← e1]
  exact h
theorem cell_g {g k i : Nat} (h : w.cell? ((⟨g, 0, none⟩ : Addr).add k) = some v) (hk : k = i := by simp) : w.cell? ⟨g, i, none⟩ = some v := by
  subst hk
  rwa [add_plain] at h
theorem cell_00 {k : Nat} (h : w.cell? (ad.add k) = some v) (hk : k = 0 := by simp) : w.cell? ad = some v := by
  subst hk
  simpa [Addr.add] using h
theorem cell_0j {k j : Nat} (h : w.cell? (ad.add k) = some v) (hk : k = j + 1 := by simp) : w.cell? ⟨ad.block, ad.off + (j + 1), none⟩ = some v := by
  subst hk
  simpa [Addr.add] using h
theorem run_at_k {t : TypeId} (e : TypeId) {sz : Nat} (ht : P.underlying t = some (.slice e)) (hi : (P.info? e).map (·.size) = some sz) (k : Nat) {n c : Nat} {ik : IntKind} (hk : k < n) (w : World) : (Instr.indexAt t (.slice (some ad) n c) (.int ik ((k : Nat) : Int))).run P w = .ok (.pointer (some (ad.add (k * sz)))) w := by
  obtain ⟨i0, hj, hs⟩ := Option.map_eq_some_iff.1 hi
  have h1 : ((k : Nat) : Int) < (n : Int) := by omega
  subst hs
  simp only [Instr.indexAt, asIntOf, Sem.run_bind, Sem.run_pure, Result.andThen_ok, run_underlying ht]
  rw [if_pos ⟨by omega, h1⟩]
  have h2 : (Go.sizeOf e).run P w = .ok i0.size w := by simp [Go.sizeOf, Go.typeInfo, hj]
  simp only [Sem.run_bind, h2, Result.andThen_ok, Sem.run_pure, Int.toNat_natCast]
theorem run_at_1 {t : TypeId} (e : TypeId) (ht : P.underlying t = some (.slice e)) (hi : (P.info? e).map (·.size) = some 1) (k : Nat) {n c : Nat} {ik : IntKind} (hk : k < n) (w : World) : (Instr.indexAt t (.slice (some ad) n c) (.int ik ((k : Nat) : Int))).run P w = .ok (.pointer (some (ad.add k))) w := by
  have h := run_at_k (ad := ad) (c := c) (ik := ik) e ht hi k hk w
  rwa [Nat.mul_one] at h
theorem run_at_z {t : TypeId} (e : TypeId) {sz : Nat} (ht : P.underlying t = some (.slice e)) (hi : (P.info? e).map (·.size) = some sz) {n c : Nat} {ik : IntKind} (hk : 0 < n) (w : World) : (Instr.indexAt t (.slice (some ad) n c) (.int ik 0)).run P w = .ok (.pointer (some ad)) w := by
  have h := run_at_k (ad := ad) (c := c) (ik := ik) e ht hi 0 hk w
  simpa [Addr.add] using h
end
theorem int_at {k : IntKind} {w : World} {A : Option Addr} {n : Nat} {xs : List Int} (h : (Kd.int k).C w A n xs) (z : Int) (i : Nat) (hi : i < n) : ∃ ad, A = some ad ∧ ∀ j u, [Value.int k (xs.getD i z)][j]? = some u → w.cell? (ad.add (i + j)) = some u := by
  obtain ⟨ad, c, h1, h2, h3, h4⟩ := Kd.C_get h z (i : Int) (by omega) (by omega)
  have h5 : c = [Value.int k (xs.getD ((i : Int)).toNat z)] := h3
  subst h5
  refine ⟨ad, h1, fun j u hu => ?_⟩
  have h6 := h4 j u hu
  have e1 : ((i : Int)).toNat * (Kd.int k).sz + j = i + j := by show ((i : Int)).toNat * 1 + j = i + j; omega
  rw [e1] at h6
  exact h6
theorem str_el {w : World} {A : Option Addr} {n : Nat} {xs : List ByteArray} (h : Kd.string.C w A n xs) (z : ByteArray) (i : Nat) (hi : i < n) : ∃ ad, A = some ad ∧ ∀ j u, [Value.string (xs.getD i z)][j]? = some u → w.cell? (ad.add (i + j)) = some u := by
  obtain ⟨ad, c, h1, h2, h3, h4⟩ := Kd.C_get h z (i : Int) (by omega) (by omega)
  have h5 : c = [Value.string (xs.getD ((i : Int)).toNat z)] := h3
  subst h5
  refine ⟨ad, h1, fun j u hu => ?_⟩
  have h6 := h4 j u hu
  have e1 : ((i : Int)).toNat * Kd.string.sz + j = i + j := by show ((i : Int)).toNat * 1 + j = i + j; omega
  rw [e1] at h6
  exact h6
section
variable {α : Type} {enc : α → Value} {h1 : ∀ x, (enc x).oneCell' = true}
theorem scal_own {w : World} {g cap : Nat} {e : TypeId} {cs : Array Value} {xs : List α} (base : Nat) (hb : Blk w g e cs) (hbase : base ≤ g) (hc : cs.toList = xs.map enc) (hcap : xs.length = cap) (hm : xs.length ≤ 9223372036854775807) : OwnK (Kd.scalar enc h1) e w base g (some ⟨g, 0, none⟩) xs.length cap xs := by
  have hcs : cs.size = xs.length := by rw [← Array.length_toList, hc, List.length_map]
  refine Kd.R_of_own ⟨by simp [encs], Or.inr ⟨g, cap, cs, rfl, hbase, hb, by omega, by subst hcap; exact hm, by omega, ?_⟩⟩ (fun q hq => ?_)
  · rw [hc, Nat.mul_one, List.take_of_length_le (by simp)]
    rfl
  · simp only [Value.ownBlock, Option.some.injEq] at hq
    omega
end
section
variable {P : Program} {cx : Cx} {n : Nat} {Q : Exit → Act → World → Prop} {st : List Itm} {G : Env} {w : World} {ops : Array Oper} {o : Oper} {rest : List Oper}
theorem rw_append_scal {α : Type} {enc : α → Value} {h1 : ∀ x : α, (enc x).oneCell' = true} {dst : Nat} {w0 : World} (base : Nat) (hg : o.guard = none) (hd : o.dst = some dst) (hdn : Nat.blt dst n = true) (s x : Operand) (hks : knownO G s = true) (hkx : knownO G x = true) (t e : TypeId) (z : Value) (bytes : Nat)
    (ho : o.op = .call { callee := .builtin .append, args := #[s, x], argTypes := #[t, t] }) (ht : P.underlying t = some (.slice e)) (hinfo : (P.info? e).map (fun i => (i.zero, i.size, i.bytes)) = some (some z, 1, bytes)) (hz : z.cells.size = 1 := by rfl) (hb0 : 0 < bytes)
    {xs ys : List α} {A A2 : Option Addr} {m c m2 c2 b : Nat} (hs : sEv G s = .slice A m c) (hx : sEv G x = .slice A2 m2 c2) (hb : b ≤ w.heap.size)
    (HO : OwnK (Kd.scalar enc h1) e w base b A m c xs) (HR : (Kd.scalar enc h1).C w A2 m2 ys) (HB : Below base w0 w) (hbase : base ≤ w.heap.size) (hl : (xs.length + m2) * bytes ≤ 140737488355328)
    (kk : ∀ A' c' w', OwnK (Kd.scalar enc h1) e w' base b A' (xs ++ ys).length c' (xs ++ ys) → Below base w0 w' → w.grownBy w' (Value.slice A m c).ownBlock → RW P ops cx n Q rest ((dst, .slice A' (xs ++ ys).length c') :: G) w') : RW P ops cx n Q (o :: rest) G w := fun a ha =>
  Kd.R_append_rows (Kd.scalar enc h1) (Rr := fun x cs => cs = [enc x]) base hg s x t e z bytes ho ht hinfo hz (show 0 < 1 by decide) hb0 _ xs ys A2 m2 c2 (fun q => b ≤ q) (fun _ => False) ((eval_known ha hks).trans hs) ((eval_known ha hkx).trans hx) HO HR (fun _ _ h => h) (fun _ h => h.elim) (fun q hq => Nat.le_trans hb hq) HB hbase hl
    (fun v1 w1 h1 h2 h3 _ => by
      obtain ⟨A', c', rfl, _, _⟩ := Kd.R_reads h1
      rw [hd]
      exact kk A' c' w1 h1 h2 h3 _ (ha.put hdn _))
end
theorem run_nil_neq {P : Program} {t e : TypeId} (ht : P.underlying t = some (.slice e)) (A : Option Addr) (m c : Nat) (w : World) : (binOp .neq t (.slice A m c) (.slice none 0 0)).run P w = .ok (.bool (!A.isNone)) w := by
  have h2 : (Op.equalIn Op.maxDepth t (.slice A m c) (.slice none 0 0)).run P w = .ok A.isNone w := nil_step ht 9999 A m c w
  simp [binOp, Op.equal, h2]
/-! ### Any kind -/
section
variable {α : Type} {d : Kd α} {e : TypeId} {w : World} {base b : Nat} {A : Option Addr} {n c : Nat} {xs ys : List α}
theorem OwnK.front (h : OwnK d e w base b A n c (xs ++ ys)) : d.C w A xs.length xs := by
  have h1 := Kd.C_take (m := xs.length) (OwnK.C h) (by simp)
  simpa using h1
theorem lit_nilK {g : Nat} (d : Kd α) (base : Nat) (hb : Blk w g e #[]) (hbase : base ≤ g) : OwnK d e w base g (some ⟨g, 0, none⟩) 0 0 [] :=
  ⟨fun q hq => by simp only [Value.ownBlock, Option.some.injEq] at hq; omega, [], ⟨by rw [List.length_nil, List.length_nil, Nat.zero_mul], Or.inr ⟨g, 0, #[], rfl, hbase, hb, Nat.le_refl _, Nat.zero_le _, by rw [Nat.zero_mul]; rfl, by rw [List.length_nil, Nat.zero_mul]; rfl⟩⟩, Reps.none _ _⟩
end
theorem made_to (z : Value) (n : Nat) : (madeCells #[z] n).toList = List.replicate n z := toList_madeCells_one z n
/-- A row that is made, of elements of one cell. -/
theorem make_run {P : Program} {t e : TypeId} {z : Value} {bytes : Nat} (ht : P.underlying t = some (.slice e)) (hinfo : (P.info? e).map (fun i => (i.zero, i.size, i.bytes)) = some (some z, 1, bytes)) (hz : z.cells = #[z]) (l c : Nat) (x y : Int) (hx : x = (l : Int)) (hy : y = (c : Int)) (hlc : l ≤ c) (hc : c ≤ 16777216) (hb : bytes ≤ 1000) (kl kc : IntKind) (w : World) :
    (Instr.makeSlice t (.int kl x) (.int kc y)).run P w = .ok (.slice (some ⟨w.heap.size, 0, none⟩) l c) (w.alloc (.cells (madeCells #[z] c) e)) := by
  subst hx hy
  obtain ⟨i0, hi, hzz⟩ := Option.map_eq_some_iff.1 hinfo
  simp only [Prod.mk.injEq] at hzz
  obtain ⟨h0, h1, h2⟩ := hzz
  have hbc : bytes * c ≤ 281474976710656 := Nat.le_trans (Nat.mul_le_mul hb hc) (by decide)
  have h := run_makeSlice (P := P) w t e i0 z ht hi h0 kl kc (l : Int) (c : Int) (by omega) (by omega) (by rw [h1]; omega) (by rw [h2, ← Int.natCast_mul]; exact Int.ofNat_le.2 hbc) (by omega)
  simp only [Int.toNat_natCast, h1, Nat.mul_one, hz] at h
  exact h
theorem made_own {α : Type} {enc : α → Value} {h1 : ∀ x, (enc x).oneCell' = true} {w : World} {g c : Nat} {e : TypeId} (z0 : α) (l : Nat) (base : Nat) (hb : Blk w g e (madeCells #[enc z0] c)) (hbase : base ≤ g) (hlc : l ≤ c) (hm : c ≤ 9223372036854775807) : OwnK (Kd.scalar enc h1) e w base g (some ⟨g, 0, none⟩) l c (List.replicate l z0) := by
  have hs : (madeCells #[enc z0] c).size = c := size_madeCells _ _
  have key : w.ownsRow base e 1 (.slice (some ⟨g, 0, none⟩) l c) (List.replicate l z0).length (encs enc (List.replicate l z0)) := by
    refine ⟨by simp [encs], Or.inr ⟨g, c, _, by rw [List.length_replicate], hbase, hb, by rw [List.length_replicate]; exact hlc, hm, by rw [hs]; omega, ?_⟩⟩
    rw [toList_madeCells_one]
    simp [encs, List.take_replicate, Nat.min_eq_left hlc]
  exact Kd.R_of_own key (fun q hq => by simp only [Value.ownBlock, Option.some.injEq] at hq; omega)
/-- Parts of rows. -/
def adrS (sz : Nat) (A : Option Addr) (c lo : Nat) : Option Addr := if c = lo then A else A.map (·.add (lo * sz))
section
variable {P : Program} {t e : TypeId} {A : Option Addr} {n c sz : Nat}
theorem sl_to (hu : P.underlying t = some (.slice e)) (hz : ∀ w, (sizeOf e).run P w = .ok sz w) (hi : Nat) (y : Int) (hy : y = (hi : Int)) (hc : hi ≤ c) (w : World) :
    (Instr.sliceAt t (.slice A n c) none (some (.int .i64 y)) none).run P w = .ok (.slice A hi c) w := by
  subst hy
  have h3 : (hi : Int) ≤ (c : Int) := by omega
  simp [go_sem, hu, h3, hz]
theorem sl_mid (hu : P.underlying t = some (.slice e)) (hz : ∀ w, (sizeOf e).run P w = .ok sz w) (lo hi : Nat) (x y : Int) (hx : x = (lo : Int)) (hy : y = (hi : Int)) (h1 : lo ≤ hi) (hc : hi ≤ c) (w : World) :
    (Instr.sliceAt t (.slice A n c) (some (.int .i64 x)) (some (.int .i64 y)) none).run P w = .ok (.slice (adrS sz A c lo) (hi - lo) (c - lo)) w := by
  subst hx hy
  have h3 : (hi : Int) ≤ (c : Int) := by omega
  have h4 : (lo : Int) ≤ (hi : Int) := by omega
  simp [go_sem, hu, h3, h4, hz, adrS]
theorem sl_from (hu : P.underlying t = some (.slice e)) (hz : ∀ w, (sizeOf e).run P w = .ok sz w) (lo : Nat) (x : Int) (hx : x = (lo : Int)) (h1 : lo ≤ n) (hc : n ≤ c) (w : World) :
    (Instr.sliceAt t (.slice A n c) (some (.int .i64 x)) none none).run P w = .ok (.slice (adrS sz A c lo) (n - lo) (c - lo)) w := by
  subst hx
  have h3 : (n : Int) ≤ (c : Int) := by omega
  have h4 : (lo : Int) ≤ (n : Int) := by omega
  simp [go_sem, hu, h3, h4, hz, adrS]
end
section
variable {P : Program} {cx : Cx} {n : Nat} {Q : Exit → Act → World → Prop} {st : List Itm} {G : Env} {w : World} {ops : Array Oper} {o : Oper} {rest : List Oper}
/-- A row of the call's own, of any kind without rows inside, grows by another row. -/
theorem rw_append_kd {α : Type} {d : Kd α} {dst : Nat} {w0 : World} (base : Nat) (hg : o.guard = none) (hd : o.dst = some dst) (hdn : Nat.blt dst n = true) (s x : Operand) (hks : knownO G s = true) (hkx : knownO G x = true) (t e : TypeId) (z : Value) (bytes : Nat)
    (ho : o.op = .call { callee := .builtin .append, args := #[s, x], argTypes := #[t, t] }) (ht : P.underlying t = some (.slice e)) (hinfo : (P.info? e).map (fun i => (i.zero, i.size, i.bytes)) = some (some z, d.sz, bytes)) (hz : z.cells.size = d.sz) (hs0 : 0 < d.sz) (hb0 : 0 < bytes) (hKM : ∀ x cs, d.K w x cs → d.M w base (fun _ => False) x cs)
    {xs ys : List α} {A A2 : Option Addr} {m c m2 c2 b : Nat} (hs : sEv G s = .slice A m c) (hx : sEv G x = .slice A2 m2 c2) (hb : b ≤ w.heap.size)
    (HO : OwnK d e w base b A m c xs) (HR : d.C w A2 m2 ys) (HB : Below base w0 w) (hbase : base ≤ w.heap.size) (hl : (xs.length + m2) * bytes ≤ 140737488355328)
    (kk : ∀ A' c' w', OwnK d e w' base b A' (xs ++ ys).length c' (xs ++ ys) → Below base w0 w' → w.grownBy w' (Value.slice A m c).ownBlock → RW P ops cx n Q rest ((dst, .slice A' (xs ++ ys).length c') :: G) w') : RW P ops cx n Q (o :: rest) G w := fun a ha =>
  Kd.R_append_rows d (Rr := d.K w) base hg s x t e z bytes ho ht hinfo hz hs0 hb0 _ xs ys A2 m2 c2 (fun q => b ≤ q) (fun _ => False) ((eval_known ha hks).trans hs) ((eval_known ha hkx).trans hx) HO HR hKM (fun _ h => h.elim) (fun q hq => Nat.le_trans hb hq) HB hbase hl
    (fun v1 w1 h1 h2 h3 _ => by
      obtain ⟨A', c', rfl, _, _⟩ := Kd.R_reads h1
      rw [hd]
      exact kk A' c' w1 h1 h2 h3 _ (ha.put hdn _))
end
theorem kd_at {α : Type} {d : Kd α} {w : World} {A : Option Addr} {n : Nat} {xs : List α} (h : d.C w A n xs) (enc : α → List Value) (henc : ∀ x cs, d.K w x cs → cs = enc x) (z : α) (i : Nat) (hi : i < n) : ∃ ad, A = some ad ∧ ∀ j u, (enc (xs.getD i z))[j]? = some u → w.cell? (ad.add (i * d.sz + j)) = some u := by
  obtain ⟨ad, c, h1, h2, h3, h4⟩ := Kd.C_get h z (i : Int) (by omega) (by omega)
  have h5 : c = enc (xs.getD ((i : Int)).toNat z) := henc _ _ h3
  subst h5
  exact ⟨ad, h1, h4⟩
section
variable {α : Type} {d : Kd α} {e : TypeId} {w : World} {base b : Nat} {A : Option Addr} {n c : Nat} {xs : List α}
theorem OwnK.full (h : OwnK d e w base b A n c xs) : OwnK d e w base b A xs.length c xs := by
  have h1 := h.len
  subst h1
  exact h
theorem OwnK.adr (h : OwnK d e w base b A n c xs) (hn : 0 < n) : ∃ g, A = some ⟨g, 0, none⟩ := by
  have hl := h.len
  obtain ⟨_, inner, hown, _⟩ := h
  rcases hown.2 with ⟨hv, h2⟩ | ⟨g, cap, cur, hv, _⟩
  · omega
  · injection hv with h1 _ _
    exact ⟨g, h1⟩
end
section
variable {P : Program} {cx : Cx} {n : Nat} {Q : Exit → Act → World → Prop} {st : List Itm} {G : Env} {w : World} {ops : Array Oper} {o : Oper} {rest : List Oper}
/-- An element of a row of the call's own is written. -/
theorem rw_store_el {α : Type} {d : Kd α} {w0 : World} (base : Nat) (hg : o.guard = none) (hd : o.dst = none) (t : TypeId) (p x : Operand) (hkp : knownO G p = true) (hkx : knownO G x = true) (ho : o.op = .store t p x) (e : TypeId)
    {g m c b i : Nat} {ad : Addr} {xs : List α} (x' : α) {u : Value} (seg : List Value) (haddr : sEv G p = .pointer (some ad)) (had : ad = ⟨g, i * d.sz, none⟩) (hx : sEv G x = u) (hu : u.cells.toList = seg) (ht : (P.info? t).map (·.size) = some seg.length) (h1 : ∀ q ∈ seg, q.oneCell' = true) (hsz : seg.length = d.sz)
    (HO : OwnK d e w base b (some ⟨g, 0, none⟩) m c xs) (hi : i < m) (hM : d.M w base (fun _ => False) x' seg) (HB : Below base w0 w)
    (kk : ∀ w', OwnK d e w' base b (some ⟨g, 0, none⟩) m c (xs.set i x') → Below base w0 w' → w.grownBy w' (Value.slice (some ⟨g, 0, none⟩) m c).ownBlock → RW P ops cx n Q rest G w') : RW P ops cx n Q (o :: rest) G w := fun a ha => by
  obtain ⟨ad2, cs, h2, h3, _, h4⟩ := Kd.C_get (OwnK.Cn HO) x' (i : Int) (by omega) (by omega)
  injection h2 with h2
  subst h2
  refine Kd.R_store d base hd hg t p x ho e (i : Int) 0 xs x' u seg cs (fun q => b ≤ q) (fun _ => False) (((eval_known ha hkp).trans haddr).trans (by rw [had])) (by simp) ((eval_known ha hkx).trans hx) hu ht h1 HO (by omega) (by omega) h3 (fun j v hj => ?_) (by omega) ?_ (fun _ h => h.elim) HB (fun w1 k1 k2 k3 => ?_)
  · have := h4 j v hj
    rwa [add_plain] at this
  · rw [List.take_zero, List.nil_append, Nat.zero_add, List.drop_of_length_le (by omega), List.append_nil]
    exact hM
  · have k1' : d.R e w1 base (fun q => b ≤ q) (.slice (some ⟨g, 0, none⟩) m c) (xs.set i x') := by simpa using k1
    exact kk w1 k1' k2 k3 _ ha
end
section
variable {P : Program} {cx : Cx} {n : Nat} {Q : Exit → Act → World → Prop} {st : List Itm} {G : Env} {w : World} {ops : Array Oper} {o : Oper} {rest : List Oper}
/-- A row that is made, of elements of any kind without rows inside. -/
theorem rw_make_kd {α : Type} {d : Kd α} {dst : Nat} {w0 : World} (base : Nat) (hg : o.guard = none) (hd : o.dst = some dst) (hdn : Nat.blt dst n = true) (t e : TypeId) (x y : Operand) (hkx : knownO G x = true) (hky : knownO G y = true) (ho : o.op = .makeSlice t x y) (l : Nat) (hx : sEv G x = .int .i64 ((l : Nat) : Int)) (hy : sEv G y = .int .i64 ((l : Nat) : Int))
    (z : Value) (bytes : Nat) (z0 : α) (ht : P.underlying t = some (.slice e)) (hinfo : (P.info? e).map (fun i => (i.zero, i.size, i.bytes)) = some (some z, d.sz, bytes)) (hz : z.cells.size = d.sz) (hs0 : 0 < d.sz) (hb0 : 0 < bytes) (hzero : d.M w base (fun _ => False) z0 z.cells.toList) (hl : l * bytes ≤ 281474976710656) (HB : Below base w0 w) (hbase : base ≤ w.heap.size)
    (kk : ∀ A c w', OwnK d e w' base w.heap.size A l c (List.replicate l z0) → Below base w0 w' → w.grownBy w' none → RW P ops cx n Q rest ((dst, .slice A l c) :: G) w') : RW P ops cx n Q (o :: rest) G w := fun a ha =>
  Kd.R_make d base e hg hd t x y ho ((l : Nat) : Int) ((eval_known ha hkx).trans hx) ((eval_known ha hky).trans hy) ht z bytes hinfo hz hs0 hb0 z0 (ok := fun q => w.heap.size ≤ q) (okp := fun _ => False) hzero (fun _ h => h.elim) (Nat.le_refl _) (by omega) (by simpa using hl) HB hbase
    (fun v1 w1 h1 h2 h3 _ => by
      rw [Int.toNat_natCast] at h1
      obtain ⟨A', c', rfl, _, _⟩ := Kd.R_reads h1
      have h4 : OwnK d e w1 base w.heap.size A' l c' (List.replicate l z0) := by simpa [OwnK] using h1
      have e1 : (List.replicate l z0).length = l := List.length_replicate
      rw [hd, e1]
      exact kk A' c' w1 h4 h2 h3 _ (ha.put hdn _))
end
/-- A row of a row of rows. -/
theorem rows_at {α : Type} {d : Kd α} {e : TypeId} {w : World} {A : Option Addr} {n : Nat} {xss : List (List α)} (h : (Kd.slice e d).C w A n xss) (i : Nat) (hi : i < n) : ∃ ad A0 c0, A = some ad ∧ w.cell? (ad.add i) = some (.slice A0 (xss.getD i []).length c0) ∧ (xss.getD i []).length ≤ c0 ∧ d.C w A0 (xss.getD i []).length (xss.getD i []) := by
  obtain ⟨ad, c, h1, h2, ⟨A0, c0, h3, h4, h5⟩, h6⟩ := Kd.C_get h [] (i : Int) (by omega) (by omega)
  subst h3
  have h7 := h6 0 _ rfl
  have e1 : ((i : Int)).toNat * (Kd.slice e d).sz + 0 = i := by show ((i : Int)).toNat * 1 + 0 = i; omega
  rw [e1] at h7
  exact ⟨ad, A0, c0, h1, h7, h4, h5⟩
theorem getD_mem {α : Type} (xs : List α) (i : Nat) (z : α) (h : i < xs.length) : xs.getD i z ∈ xs := by
  rw [List.getD_eq_getElem?_getD, List.getElem?_eq_getElem h]
  exact List.getElem_mem h
end Go.Proofs.Ytheaipbnbnjlgaa.Flow
