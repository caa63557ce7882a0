/- Flow, fifteenth part: rows of rows, no two of which share a block. Own work; plain theorems. -/
import Derived.Test.YtjndoihnpnmbjaaFlowP
import Derived.Test.YtjndoihnpnmbjaaWApart
namespace Go.Proofs.Ytjndoihnpnmbjaa.Flow
open Go.RowKit Go.Proofs.YtjndoihnpnmbjaaW.PrintWords Go.Proofs.YtjndoihnpnmbjaaW.PrintLast Go.Proofs.YtjndoihnpnmbjaaW.PrintMore
set_option linter.unusedVariables false
set_option linter.unusedSimpArgs false
section
variable {P : Program} {n : Nat} {Q : Exit → Act → World → Prop} {st : List Itm} {G : Env} {w : World} {ops : Array Oper} {o : Oper} {rest : List Oper}
/-- A row of rows of the function's own, all apart, grows by a row that is none of them. -/
theorem rw_append_oneS {dst : Nat} (k : IntKind) (e2 : TypeId) {w0 : World} (base : Nat) (hg : o.guard = none) (hd : o.dst = some dst) (hdn : Nat.blt dst n = true) (s x : Operand) (hks : knownO G s = true) (hkx : knownO G x = true) (t e : TypeId) (bytes : Nat)
    (ho : o.op = .call { callee := .builtin .append, args := #[s, x], argTypes := #[t, t] }) (ht : P.underlying t = some (.slice e)) (hinfo : (P.info? e).map (fun i => (i.zero, i.size, i.bytes)) = some (some (.slice none 0 0), 1, bytes)) (hb0 : 0 < bytes)
    {xss : List (List Int)} {X : List Int} {v : Value} {A1 : Option Addr} {m1 c1 g : Nat} {t2 : TypeId} {okp okv : Nat → Prop} (hs : sEv G s = v) (hx : sEv G x = .slice (some ⟨g, 0, none⟩) 1 1)
    (HO : Kd.S (Kd.slice e2 (Kd.int k)) e w base okv v xss) (hov : ∀ q, okv q → base ≤ q) (hblk : Blk w g t2 #[.slice A1 m1 c1]) (hX : (Kd.int k).R e2 w base okp (.slice A1 m1 c1) X) (hokp : ∀ q, okp q → base ≤ q ∧ ¬ okv q)
    (HB : Below base w0 w) (hbase : base ≤ w.heap.size) (hl : (xss.length + 1) * bytes ≤ 140737488355328)
    (kk : ∀ A' c' w', Kd.S (Kd.slice e2 (Kd.int k)) e w' base (fun q => base ≤ q) (.slice A' (xss ++ [X]).length c') (xss ++ [X]) → Below base w0 w' → w.grownBy w' v.ownBlock → RW P ops n Q rest ((dst, .slice A' (xss ++ [X]).length c') :: G) w') : RW P ops n Q (o :: rest) G w := fun a ha => by
  obtain ⟨f, hf, hR⟩ := Kd.S_tag HO xss.length okp (fun q hq => (hokp q hq).2)
  refine Kd.R_append_rows (Kd.tag f (Kd.slice e2 (Kd.int k))) (Rr := fun y cs => y = (X, xss.length) ∧ cs = [.slice A1 m1 c1]) base hg s x t e (.slice none 0 0) bytes ho ht hinfo rfl (show 0 < 1 by decide) hb0 v xss.zipIdx [(X, xss.length)] (some ⟨g, 0, none⟩) 1 1 (fun q => base ≤ q) okp ((eval_known ha hks).trans hs) ((eval_known ha hkx).trans hx) (Kd.R_mono hR hov) ?_ ?_ (fun q hq => ⟨(hokp q hq).1, fun e => (hokp q hq).2 (hR.1 q e.symm)⟩) (fun q hq => Nat.le_trans hbase hq) HB hbase (by rw [List.length_zipIdx]; exact hl) ?_
  · refine ⟨rfl, by decide, fun _ => ⟨_, rfl, fun j p hj => ?_⟩⟩
    match j, hj with
    | 0, hj =>
      obtain rfl := Option.some.inj hj
      refine ⟨[.slice A1 m1 c1], rfl, ⟨rfl, rfl⟩, fun i u hu => ?_⟩
      match i, hu with
      | 0, hu =>
        obtain rfl := Option.some.inj hu
        exact hblk.cellv rfl
      | i + 1, hu => simp at hu
    | j + 1, hj => simp at hj
  · rintro y cs ⟨rfl, rfl⟩
    exact ⟨_, rfl, Kd.R_mono hX (fun q hq => ⟨hq, hf q hq⟩)⟩
  · intro v1 w1 h1 h2 h3 _
    rw [← Kd.zip_snoc] at h1
    have hS : Kd.S (Kd.slice e2 (Kd.int k)) e w1 base (fun q => base ≤ q) v1 (xss ++ [X]) := ⟨f, h1⟩
    obtain ⟨A', c', rfl, _⟩ := RR_shape (Kd.S_R hS)
    rw [hd]
    exact kk A' c' w1 hS h2 h3 _ (ha.put hdn _)
end
/-- What a row of rows apart looks like. -/
theorem S_shapes {e2 e : TypeId} {w : World} {base : Nat} {ok : Nat → Prop} {v : Value} {xss : List (List Int)} (h : Kd.S (Kd.slice e2 (Kd.int .u8)) e w base ok v xss) (hp : 0 < xss.length) :
    ∃ (ob c : Nat) (sh : Nat → Sh), v = .slice (some ⟨ob, 0, none⟩) xss.length c ∧ ob < w.heap.size ∧ (∀ k, k < xss.length → w.cell? ⟨ob, k, none⟩ = some (V (sh k))) ∧ (∀ i, i < xss.length → (sh i).nil = false → (sh i).g ≠ ob) ∧
      (∀ i j, i < xss.length → j < xss.length → (sh i).nil = false → (sh j).nil = false → (sh i).g = (sh j).g → i = j) ∧ (∀ i, i < xss.length → LR e2 w (sh i) (xss.getD i [])) ∧ (∀ i, i < xss.length → (sh i).nil = false → base ≤ (sh i).g) := by
  obtain ⟨f, h0, inner, ho, hr⟩ := h
  rw [List.length_zipIdx] at ho
  have hrl := hr.1
  rw [List.length_zipIdx] at hrl
  have hrl1 : inner.length = xss.length := by rw [hrl]; show xss.length * 1 = _; omega
  have key : ∀ j, j < xss.length → ∃ s : Sh, inner[j]? = some (V s) ∧ LR e2 w s (xss.getD j []) ∧ (s.nil = false → (some s.g ≠ v.ownBlock ∧ f s.g = j) ∧ base ≤ s.g) := fun j hj => by
    have h1 := hr.2 j (xss[j], j) (Kd.zip_at (List.getElem?_eq_getElem hj))
    obtain ⟨vj, h2, h3⟩ := h1
    have hlt : j < inner.length := by omega
    have h4 : (inner.drop (j * 1)).take 1 = [inner[j]] := by
      rw [Nat.mul_one, List.drop_eq_getElem_cons hlt]
      rfl
    have h5 : inner[j] = vj := by
      have h6 : (inner.drop (j * 1)).take 1 = [vj] := h2
      rw [h4] at h6
      exact List.head_eq_of_cons_eq h6
    obtain ⟨A, c, rfl, hle, h7⟩ := R_shape h3
    have h8 := Kd.R_bound h7
    obtain ⟨s, hV, hLR, hge⟩ := own_shape (b := base) (Kd.R_mono h8 (fun q hq => hq.2.1))
    refine ⟨s, by rw [List.getElem?_eq_getElem hlt, h5, hV], ?_, fun hn => ?_⟩
    · rw [List.getD_eq_getElem?_getD, List.getElem?_eq_getElem hj]
      exact hLR
    · have h9 : (Value.slice A xss[j].length c).ownBlock = some s.g := by
        rw [← hV]
        unfold V
        rw [adrS_some hn]
        rfl
      have h10 := h7.1 s.g h9
      exact ⟨⟨h10.1.2, h10.2⟩, (hge hn).2⟩
  rcases ho.2 with ⟨hv, hn⟩ | ⟨g, cap, cur, hv, hb, hg, hn, hc, hsz, ht⟩
  · omega
  · have hob : v.ownBlock = some g := by rw [hv]; rfl
    have hblk : Blk w g e cur := hg
    have key2 : ∀ j, ∃ s : Sh, j < xss.length → inner[j]? = some (V s) ∧ LR e2 w s (xss.getD j []) ∧ (s.nil = false → (some s.g ≠ v.ownBlock ∧ f s.g = j) ∧ base ≤ s.g) := fun j => by
      by_cases hj : j < xss.length
      · obtain ⟨s, hs⟩ := key j hj
        exact ⟨s, fun _ => hs⟩
      · exact ⟨⟨true, 0, 0, 0⟩, fun h => absurd h hj⟩
    obtain ⟨sh, hsh⟩ := (Classical.skolem (b := fun _ => Sh) (p := fun j s => j < xss.length → inner[j]? = some (V s) ∧ LR e2 w s (xss.getD j []) ∧ (s.nil = false → (some s.g ≠ v.ownBlock ∧ f s.g = j) ∧ base ≤ s.g))).1 key2
    refine ⟨g, cap, sh, hv, hblk.lt, fun j hj => ?_, fun i hi hnil e => ?_, fun i j hi hj hni hnj he => ?_, fun i hi => (hsh i hi).2.1, fun i hi hnil => ((hsh i hi).2.2 hnil).2⟩
    · refine hblk.cellv ?_
      have h2 : (cur.toList.take (xss.length * 1))[j]? = some (V (sh j)) := by rw [show cur.toList.take (xss.length * 1) = inner from ht]; exact (hsh j hj).1
      rw [List.getElem?_take_of_lt (by omega)] at h2
      simpa using h2
    · exact ((hsh i hi).2.2 hnil).1.1 (by rw [hob, e])
    · rw [← ((hsh i hi).2.2 hni).1.2, ← ((hsh j hj).2.2 hnj).1.2, he]
end Go.Proofs.Ytjndoihnpnmbjaa.Flow
