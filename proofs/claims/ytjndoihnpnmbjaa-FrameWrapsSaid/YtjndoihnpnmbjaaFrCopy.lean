/- Copies with marks: the walks. -/
import Derived.Test.YtjndoihnpnmbjaaFrNone
import Derived.Test.YtjndoihnpnmbjaaFlowP
namespace Go.Proofs.Ytjndoihnpnmbjaa.PFrameSums
open Go.RowKit Go.Proofs.YtjndoihnpnmbjaaW.PrintWords Go.Proofs.YtjndoihnpnmbjaaW.PrintLast Go.Proofs.YtjndoihnpnmbjaaW.PrintMore
open Go.Proofs.Ytjndoihnpnmbjaa.Flow
set_option linter.unusedVariables false
set_option linter.unusedSimpArgs false


theorem info22_ : (Try.prog.info? 22).map (fun i => (i.zero, i.size, i.bytes)) = some (some (.slice none 0 0), 1, 24) := by kernel_rfl
theorem u8_mod (x : Int) : IntKind.u8.wrap x = x % 256 := by simp [IntKind.wrap, IntKind.bits, IntKind.signed] <;> omega
def mark (k j : Nat) : Int := ((29 * k + 5 * j + 3 : Nat) : Int) % 256
def mks (k n : Nat) : List Int := (List.range n).map (mark k)
theorem mks_len (k n : Nat) : (mks k n).length = n := by simp [mks]
theorem mks_get (k n j : Nat) (h : j < n) : (mks k n).getD j 0 = mark k j := by simp [mks, List.getD_eq_getElem?_getD, List.getElem?_range, h]
theorem mks_snoc (k n : Nat) : mks k (n + 1) = mks k n ++ [mark k n] := by simp [mks, List.range_succ]
theorem mks_of {k n : Nat} {ys : List Int} (hl : ys.length = n) (h : ∀ j, j < n → ys.getD j 0 = mark k j) : ys = mks k n := by
  apply List.ext_getElem
  · rw [hl, mks_len]
  · intro j h1 h2
    have h3 := h j (by omega)
    rw [List.getD_eq_getElem?_getD, List.getElem?_eq_getElem h1] at h3
    simp only [Option.getD_some] at h3
    rw [h3]
    simp [mks]
theorem cell_same {w w' : World} {a : Addr} (h : w'.heap[a.block]? = w.heap[a.block]?) : w'.cell? a = w.cell? a := by unfold World.cell?; rw [h]
def upd (ys : Nat → List Int) (k : Nat) (y : List Int) : Nat → List Int := fun i => if i = k then y else ys i
def updS (gv : Nat → Sh) (k : Nat) (s : Sh) : Nat → Sh := fun i => if i = k then s else gv i
section
variable (w0 w : World) (ob m : Nat) (sh : Nat → Sh)
def P1 (W : World) (ys : Nat → List Int) : Prop := Below w0.heap.size w0 W ∧ W.heap.size = w.heap.size ∧ W.heap[ob]? = w.heap[ob]? ∧ ∀ i, i < m → LR 5 W (sh i) (ys i)
def P2 (k : Nat) (gv : Nat → Sh) (W : World) : Prop := Below w0.heap.size w0 W ∧ w.heap.size ≤ W.heap.size ∧ W.heap[ob]? = w.heap[ob]? ∧ (∀ i, i < m → LR 5 W (sh i) (mks i (sh i).n)) ∧
  ∀ i, i < k → (gv i).nil = false ∧ (gv i).n = (sh i).n + 10 ∧ LR 5 W (gv i) (mks i ((sh i).n + 10)) ∧ (((sh i).nil = false ∧ (gv i).g = (sh i).g) ∨ w.heap.size ≤ (gv i).g)
end
section
variable {w0 w W W' : World} {ob m k : Nat} {sh gv : Nat → Sh} {ys : Nat → List Int}
theorem P1.put (h : P1 w0 w ob m sh W ys) (hd : ∀ i j, i < m → j < m → (sh i).nil = false → (sh j).nil = false → (sh i).g = (sh j).g → i = j) (hobn : ∀ i, i < m → (sh i).nil = false → (sh i).g ≠ ob) (hg0 : ∀ i, i < m → (sh i).nil = false → w0.heap.size ≤ (sh i).g)
    (hk : k < m) (hn : (sh k).nil = false) (hK : Keep (sh k).g W W') {y : List Int} (hy : LR 5 W' (sh k) y) : P1 w0 w ob m sh W' (upd ys k y) := by
  obtain ⟨h1, h2, h3, h4⟩ := h
  refine ⟨hK.below (hg0 k hk hn) h1, by rw [hK.size, h2], (hK.block ob (fun e => hobn k hk hn e.symm)).trans h3, fun i hi => ?_⟩
  unfold upd
  by_cases he : i = k
  · rw [if_pos he, he]
    exact hy
  · rw [if_neg he]
    exact (h4 i hi).keep hK (fun hi2 e => he (hd i k hi hk hi2 hn e))
theorem P2.on (h : P2 w0 w ob m sh k gv W) (hob : ob < w.heap.size) (hb : Below W.heap.size W W') : P2 w0 w ob m sh k gv W' := by
  obtain ⟨h1, h2, h3, h4, h5⟩ := h
  exact ⟨chain h1 hb, Nat.le_trans h2 hb.size, (hb.block ob (by omega)).trans h3, fun i hi => (h4 i hi).on hb, fun i hi => ⟨(h5 i hi).1, (h5 i hi).2.1, (h5 i hi).2.2.1.on hb, (h5 i hi).2.2.2⟩⟩
theorem P2.keep (h : P2 w0 w ob m sh k gv W) {g : Nat} (hK : Keep g W W') (h1' : ∀ i, i < m → (sh i).nil = false → (sh i).g ≠ g ∨ LR 5 W' (sh i) (mks i (sh i).n)) (h2' : ∀ i, i < k → (gv i).g ≠ g) (h3' : ob ≠ g) (h4' : w0.heap.size ≤ g) : P2 w0 w ob m sh k gv W' := by
  obtain ⟨h1, h2, h3, h4, h5⟩ := h
  refine ⟨hK.below h4' h1, by rw [hK.size]; exact h2, (hK.block ob h3').trans h3, fun i hi => ?_, fun i hi => ⟨(h5 i hi).1, (h5 i hi).2.1, (h5 i hi).2.2.1.keep hK (fun _ => h2' i hi), (h5 i hi).2.2.2⟩⟩
  cases hn : (sh i).nil with
  | true => exact (h4 i hi).stay (fun h => by rw [hn] at h; cases h)
  | false =>
    rcases h1' i hi hn with h6 | h6
    · exact (h4 i hi).keep hK (fun _ => h6)
    · exact h6
theorem P2.grown {v : Value} {xss : List (List Value)} {base : Nat} {ok : Nat → Prop} (h : P2 w0 w ob m sh k gv W) (hR : (Kd.raw 1).R 22 W base ok v xss) (hok : ∀ q, ok q → w.heap.size ≤ q) (hob : ob < w.heap.size) (hB : Below w0.heap.size w0 W') (hG : W.grownBy W' v.ownBlock) : P2 w0 w ob m sh k gv W' := by
  obtain ⟨h1, h2, h3, h4, h5⟩ := h
  have far : ∀ {s : Sh} {y : List Int}, LR 5 W s y → LR 5 W' s y := fun {s y} hs => hs.stay (fun hn => by
    obtain ⟨cur, hb, _⟩ := hs.2.2 hn
    refine hG.block s.g hb.lt (fun e => ?_)
    obtain ⟨cells, ht⟩ := Kd.R_typed hR s.g e.symm
    have hb' : W.heap[s.g]? = some (.cells cur 5 (0, 0)) := hb
    rw [hb'] at ht
    injection ht with ht
    injection ht with _ ht
    cases ht)
  exact ⟨hB, Nat.le_trans h2 hG.size, (hG.block ob (by omega) (fun e => by have := hok ob (hR.1 ob e.symm); omega)).trans h3, fun i hi => far (h4 i hi), fun i hi => ⟨(h5 i hi).1, (h5 i hi).2.1, far (h5 i hi).2.2.1, (h5 i hi).2.2.2⟩⟩
theorem raw_keep {v : Value} {xss : List (List Value)} {base : Nat} {ok : Nat → Prop} {s : Sh} {y : List Int} (hR : (Kd.raw 1).R 22 W base ok v xss) (hs : LR 5 W s y) (hn : s.nil = false) (hK : Keep s.g W W') : (Kd.raw 1).R 22 W' base ok v xss := by
  obtain ⟨cur, hb, _⟩ := hs.2.2 hn
  have hb' : W.heap[s.g]? = some (.cells cur 5 (0, 0)) := hb
  refine Kd.R_grown2 hR rfl hK.grown (fun q hq hv => ?_)
  obtain rfl := Option.some.inj hq
  obtain ⟨cells, ht⟩ := Kd.R_typed hR s.g hv.symm
  rw [hb'] at ht
  injection ht with ht
  injection ht with _ ht
  cases ht
end
theorem raw_empty {w : World} {g base : Nat} {ok : Nat → Prop} (hb : Blk w g 22 #[]) (hbase : base ≤ g) (hok : ok g) : (Kd.raw 1).R 22 w base ok (.slice (some ⟨g, 0, none⟩) 0 0) [] :=
  ⟨fun q hq => by simp only [Value.ownBlock, Option.some.injEq] at hq; rw [← hq]; exact hok, [], ⟨rfl, Or.inr ⟨g, 0, #[], rfl, hbase, hb, Nat.le_refl _, by simp [maxLen], rfl, rfl⟩⟩, ⟨rfl, fun j p hj => by simp at hj⟩⟩
section
variable {P : Program} {n : Nat} {Q : Exit → Act → World → Prop} {st : List Itm} {G : Env} {w : World} {ops : Array Oper} {o : Oper} {rest : List Oper}
theorem rw_append_raw {dst : Nat} {w0 : World} (base : Nat) (hg : o.guard = none) (hd : o.dst = some dst) (hdn : Nat.blt dst n = true) (s x : Operand) (hks : knownO G s = true) (hkx : knownO G x = true) (t e : TypeId) (bytes : Nat)
    (ho : o.op = .call { callee := .builtin .append, args := #[s, x], argTypes := #[t, t] }) (ht : P.underlying t = some (.slice e)) (hinfo : (P.info? e).map (fun i => (i.zero, i.size, i.bytes)) = some (some (.slice none 0 0), 1, bytes)) (hb0 : 0 < bytes)
    {xss : List (List Value)} {v u : Value} {g : Nat} {t2 : TypeId} {ok : Nat → Prop} (hs : sEv G s = v) (hx : sEv G x = .slice (some ⟨g, 0, none⟩) 1 1)
    (HO : (Kd.raw 1).R e w base ok v xss) (hblk : Blk w g t2 #[u]) (hu : u.oneCell' = true) (hfresh : ∀ q, w.heap.size ≤ q → ok q)
    (HB : Below base w0 w) (hbase : base ≤ w.heap.size) (hl : (xss.length + 1) * bytes ≤ 140737488355328)
    (kk : ∀ A' c' w', (Kd.raw 1).R e w' base ok (.slice A' (xss.length + 1) c') (xss ++ [[u]]) → Below base w0 w' → w.grownBy w' v.ownBlock → RW P ops n Q rest ((dst, .slice A' (xss.length + 1) c') :: G) w') : RW P ops n Q (o :: rest) G w := fun a ha => by
  refine Kd.R_append_rows (Kd.raw 1) (Rr := fun y cs => y = [u] ∧ cs = [u]) base hg s x t e (.slice none 0 0) bytes ho ht hinfo rfl (show 0 < 1 by decide) hb0 v xss [[u]] (some ⟨g, 0, none⟩) 1 1 ok (fun _ => False) ((eval_known ha hks).trans hs) ((eval_known ha hkx).trans hx) HO ?_ ?_ (fun q hq => hq.elim) hfresh HB hbase hl ?_
  · refine ⟨rfl, by decide, fun _ => ⟨_, rfl, fun j p hj => ?_⟩⟩
    match j, hj with
    | 0, hj =>
      obtain rfl := Option.some.inj hj
      refine ⟨[u], rfl, ⟨rfl, rfl⟩, fun i z hz => ?_⟩
      match i, hz with
      | 0, hz =>
        obtain rfl := Option.some.inj hz
        exact hblk.cellv rfl
      | i + 1, hz => simp at hz
    | j + 1, hj => simp at hj
  · rintro y cs ⟨rfl, rfl⟩
    exact ⟨rfl, rfl, fun z hz => by rw [List.mem_singleton.1 hz]; exact hu⟩
  · intro v1 w1 h1 h2 h3 _
    obtain ⟨A', c', rfl, _, _⟩ := Kd.R_reads h1
    have e1 : (xss ++ [[u]]).length = xss.length + 1 := by simp
    rw [hd]
    rw [e1] at h1 ⊢
    exact kk A' c' w1 h1 h2 h3 _ (ha.put hdn _)
end
def gcells (gv : Nat → Sh) (k : Nat) : List (List Value) := (List.range k).map fun i => [V (gv i)]
theorem gcells_len (gv : Nat → Sh) (k : Nat) : (gcells gv k).length = k := by simp [gcells]
theorem gcells_snoc (gv : Nat → Sh) (k : Nat) (s : Sh) : gcells (updS gv k s) (k + 1) = gcells gv k ++ [[V s]] := by
  unfold gcells updS
  rw [List.range_succ, List.map_append]
  congr 1
  · refine List.map_congr_left fun i hi => ?_
    have := List.mem_range.1 hi
    rw [if_neg (by omega)]
  · simp
theorem gcells_at {W : World} {A : Option Addr} {m c base : Nat} {ok : Nat → Prop} {gv : Nat → Sh} (hR : (Kd.raw 1).R 22 W base ok (.slice A m c) (gcells gv m)) (k : Nat) (hk : k < m) : ∃ ad, A = some ad ∧ W.cell? (ad.add k) = some (V (gv k)) := by
  have h := (Kd.R_reads' hR).2.2
  obtain ⟨ad, cs, h1, h2, h3, h4⟩ := Kd.C_get h ([] : List Value) (k : Int) (by omega) (by rw [gcells_len]; omega)
  have e1 : (gcells gv m).getD ((k : Int)).toNat [] = [V (gv k)] := by
    unfold gcells
    rw [List.getD_eq_getElem?_getD]
    simp [List.getElem?_range, hk]
  have h3' : cs = [V (gv k)] := by rw [← e1]; exact h3.1
  subst h3'
  have h5 := h4 0 _ rfl
  refine ⟨ad, h1, ?_⟩
  have e2 : ((k : Int)).toNat * (Kd.raw 1).sz + 0 = k := by
    show ((k : Int)).toNat * 1 + 0 = k
    omega
  rw [e2] at h5
  exact h5

theorem upd_mark {ys : Nat → List Int} {k j : Nat} (hl : j < (ys k).length) (h : ∀ i, i < j → (ys k).getD i 0 = mark k i) : ∀ i, i < j + 1 → (upd ys k ((ys k).set j (mark k j)) k).getD i 0 = mark k i := fun i hi => by
  unfold upd
  rw [if_pos rfl]
  by_cases he : i = j
  · subst he
    simp [List.getD_eq_getElem?_getD, hl]
  · have := h i (by omega)
    rw [List.getD_eq_getElem?_getD] at this ⊢
    rw [List.getElem?_set_ne (by omega)]
    exact this
set_option maxHeartbeats 4000000 in
theorem apart_calls (w0 w : World) (hB : Below w0.heap.size w0 w) (ob m lc : Nat) (sh : Nat → Sh) (xs : Nat → List Int) (hL : ∀ k, k < m → w.cell? ⟨ob, k, none⟩ = some (V (sh k))) (hob : ob < w.heap.size) (hobn : ∀ i, i < m → (sh i).nil = false → (sh i).g ≠ ob) (hd : ∀ i j, i < m → j < m → (sh i).nil = false → (sh j).nil = false → (sh i).g = (sh j).g → i = j) (hR : ∀ i, i < m → LR 5 w (sh i) (xs i)) (hg0 : ∀ i, i < m → (sh i).nil = false → w0.heap.size ≤ (sh i).g) (hm : m ≤ 1000) (hn : ∀ i, i < m → (sh i).n ≤ 1000000) :
    Calls Try.prog 18 #[.slice (some ⟨ob, 0, none⟩) m lc] w fun e w' => e = .returned (.bool true) ∧ Below w0.heap.size w0 w' := by
  refine calls_flow Try.func18 rfl 117 rfl (Nat.le_of_ble_eq_true rfl) [(0, .slice (some ⟨ob, 0, none⟩) m lc)] ?_ ?_
  · intro t v h; exact args_look rfl t v h
  refine w_seq ?_
  refine w_region ?_
  refine rw_val (v := .bool false) (w' := w) rfl rfl rfl rfl rfl ?_
  refine rw_end ?_
  refine w_seq ?_
  refine w_seq ?_
  refine w_region ?_
  refine rw_val (v := .slice (some ⟨ob, 0, none⟩) m lc) (w' := w) rfl rfl rfl rfl rfl ?_
  refine rw_val (v := .int .i64 (m : Int)) (w' := w) rfl rfl rfl rfl (by simp [go_sem, sEv, sLook, nbeq, i64_w, -List.length_flatten]) ?_
  refine rw_val (v := .int .i64 0) (w' := w) rfl rfl rfl rfl rfl ?_
  refine rw_end ?_
  refine w_block ?_
  refine w_loop (fun m_ G W_ => ∃ (k : Nat) (ys : Nat → List Int), k + m_ = m ∧ P1 w0 w ob m sh W_ ys ∧ (∀ i, i < k → ys i = mks i (sh i).n) ∧ G = [(0, .slice (some ⟨ob, 0, none⟩) m lc), (13, .slice (some ⟨ob, 0, none⟩) m lc), (14, .int .i64 (m : Int)), (15, .int .i64 (k : Int))]) m [(0, .slice (some ⟨ob, 0, none⟩) m lc), (13, .slice (some ⟨ob, 0, none⟩) m lc), (14, .int .i64 (m : Int)), (15, .int .i64 0)] ⟨0, xs, by omega, ⟨hB, rfl, rfl, hR⟩, fun i hi => by omega, rfl⟩ ⟨rfl, rfl, rfl, rfl, trivial⟩ ?_
  rintro m1_ G w_1 ⟨k, ys, hkm, hP, hys, rfl⟩
  have hB1_ := hP.1
  have hs_w_1 := hP.2.1
  refine w_seq ?_
  refine w_region ?_
  refine rw_val (v := .bool (decide ((k : Int) < (m : Int)))) (w' := w_1) rfl rfl rfl rfl (by simp [go_sem, sEv, sLook, nbeq, i64_w, -List.length_flatten]) ?_
  refine rw_end ?_
  refine w_seq ?_
  refine w_cond rfl rfl (fun cK => ?_) (fun cK => ?_)
  · refine w_skip ?_
    refine w_seq ?_
    refine w_block ?_
    refine w_seq ?_
    refine w_region ?_
    refine rw_val (v := .int .i64 (k : Int)) (w' := w_1) rfl rfl rfl rfl rfl ?_
    refine rw_val (v := .pointer (some ⟨ob, k, none⟩)) (w' := w_1) rfl rfl rfl rfl (by have lko_ := of_decide_eq_true cK; simp [go_sem, sEv, sLook, nbeq, i64_w, -List.length_flatten, Try.underlying32, add_plain]; omega) ?_
    refine rw_val (v := .slice (adrS (sh k)) ((sh k).n) ((sh k).c)) (w' := w_1) rfl rfl rfl rfl (by have lko_ := of_decide_eq_true cK; have ho_ := ((cell_same (a := ⟨ob, k, none⟩) hP.2.2.1).trans (hL k (by omega))); simp [go_sem, sEv, sLook, nbeq, i64_w, -List.length_flatten, ho_, V]) ?_
    refine rw_val (v := .int .i64 (k : Int)) (w' := w_1) rfl rfl rfl rfl rfl ?_
    refine rw_val (v := .slice (adrS (sh k)) ((sh k).n) ((sh k).c)) (w' := w_1) rfl rfl rfl rfl rfl ?_
    refine rw_end ?_
    refine w_weaken (G' := [(0, .slice (some ⟨ob, 0, none⟩) m lc), (3, .int .i64 (k : Int)), (4, .slice (adrS (sh k)) ((sh k).n) ((sh k).c)), (13, .slice (some ⟨ob, 0, none⟩) m lc), (14, .int .i64 (m : Int)), (15, .int .i64 (k : Int))]) ⟨rfl, rfl, rfl, rfl, rfl, rfl, trivial⟩ ?_
    refine w_seq ?_
    refine w_region ?_
    refine rw_val (v := .slice (adrS (sh k)) ((sh k).n) ((sh k).c)) (w' := w_1) rfl rfl rfl rfl rfl ?_
    refine rw_val (v := .int .i64 ((sh k).n : Int)) (w' := w_1) rfl rfl rfl rfl (by simp [go_sem, sEv, sLook, nbeq, i64_w, -List.length_flatten]) ?_
    refine rw_val (v := .int .i64 0) (w' := w_1) rfl rfl rfl rfl rfl ?_
    refine rw_end ?_
    refine w_block ?_
    have lk0_ := of_decide_eq_true cK
    have hnk_ := hn k (by omega)
    refine w_loop (fun m_ G W_ => ∃ (j : Nat) (ys2 : Nat → List Int), j + m_ = (sh k).n ∧ P1 w0 w ob m sh W_ ys2 ∧ (∀ i, i < k → ys2 i = mks i (sh i).n) ∧ (∀ i, i < j → (ys2 k).getD i 0 = mark k i) ∧ G = [(0, .slice (some ⟨ob, 0, none⟩) m lc), (13, .slice (some ⟨ob, 0, none⟩) m lc), (14, .int .i64 (m : Int)), (15, .int .i64 (k : Int)), (3, .int .i64 (k : Int)), (4, V (sh k)), (21, .int .i64 ((sh k).n : Int)), (22, .int .i64 (j : Int))]) (sh k).n [(0, .slice (some ⟨ob, 0, none⟩) m lc), (13, .slice (some ⟨ob, 0, none⟩) m lc), (14, .int .i64 (m : Int)), (15, .int .i64 (k : Int)), (3, .int .i64 (k : Int)), (4, V (sh k)), (21, .int .i64 ((sh k).n : Int)), (22, .int .i64 0)] ⟨0, ys, by omega, hP, hys, fun i hi => by omega, rfl⟩ ⟨rfl, rfl, rfl, rfl, rfl, rfl, rfl, rfl, trivial⟩ ?_
    rintro m2_ G w_2 ⟨j, ys2, hjm, hP2, hys2, hmk, rfl⟩
    have hB2_ := hP2.1
    have hs_w_2 := hP2.2.1
    refine w_seq ?_
    refine w_region ?_
    refine rw_val (v := .bool (decide ((j : Int) < ((sh k).n : Int)))) (w' := w_2) rfl rfl rfl rfl (by simp [go_sem, sEv, sLook, nbeq, i64_w, -List.length_flatten]) ?_
    refine rw_end ?_
    refine w_seq ?_
    refine w_cond rfl rfl (fun cJ => ?_) (fun cJ => ?_)
    · refine w_skip ?_
      refine w_seq ?_
      refine w_block ?_
      refine w_seq ?_
      refine w_region ?_
      refine rw_val (v := .int .i64 (j : Int)) (w' := w_2) rfl rfl rfl rfl rfl ?_
      refine rw_val (v := .int .i64 (j : Int)) (w' := w_2) rfl rfl rfl rfl rfl ?_
      refine rw_end ?_
      refine w_region ?_
      refine rw_val (v := .slice (adrS (sh k)) ((sh k).n) ((sh k).c)) (w' := w_2) rfl rfl rfl rfl rfl ?_
      refine rw_val (v := .int .i64 (j : Int)) (w' := w_2) rfl rfl rfl rfl rfl ?_
      refine rw_val (v := .int .i64 (k : Int)) (w' := w_2) rfl rfl rfl rfl rfl ?_
      refine rw_val (v := .int .i64 ((29 * k : Nat) : Int)) (w' := w_2) rfl rfl rfl rfl (by simp [go_sem, sEv, sLook, nbeq, i64_w, -List.length_flatten]; first | (exact wrap_id (by omega) (by omega)) | (rw [wrap_id (by omega) (by omega)]; omega) | omega) ?_
      refine rw_val (v := .int .i64 (j : Int)) (w' := w_2) rfl rfl rfl rfl rfl ?_
      refine rw_val (v := .int .i64 ((5 * j : Nat) : Int)) (w' := w_2) rfl rfl rfl rfl (by simp [go_sem, sEv, sLook, nbeq, i64_w, -List.length_flatten]; first | (exact wrap_id (by omega) (by omega)) | (rw [wrap_id (by omega) (by omega)]; omega) | omega) ?_
      refine rw_val (v := .int .i64 ((29 * k + 5 * j : Nat) : Int)) (w' := w_2) rfl rfl rfl rfl (by simp [go_sem, sEv, sLook, nbeq, i64_w, -List.length_flatten]; first | (exact wrap_id (by omega) (by omega)) | (rw [wrap_id (by omega) (by omega)]; omega) | omega) ?_
      refine rw_val (v := .int .i64 ((29 * k + 5 * j + 3 : Nat) : Int)) (w' := w_2) rfl rfl rfl rfl (by simp [go_sem, sEv, sLook, nbeq, i64_w, -List.length_flatten]; first | (exact wrap_id (by omega) (by omega)) | (rw [wrap_id (by omega) (by omega)]; omega) | omega) ?_
      refine rw_val (v := .int .u8 (mark k j)) (w' := w_2) rfl rfl rfl rfl (by simp [go_sem, sEv, sLook, nbeq, i64_w, -List.length_flatten]; rw [u8_mod]; unfold mark; congr 1) ?_
      have lj0_ := of_decide_eq_true cJ
      obtain ⟨hnil_, hcell_, hfro_⟩ := (hP2.2.2.2 k (by omega)).at j (by omega)
      have hA_ := adrS_some hnil_
      refine rw_val (v := .pointer (some ⟨(sh k).g, j, none⟩)) (w' := w_2) rfl rfl rfl rfl (by simp [go_sem, sEv, sLook, nbeq, i64_w, -List.length_flatten, Try.underlying22, hA_, add_plain]; omega) ?_
      obtain ⟨cur, hbk_, hput_⟩ := (hP2.2.2.2 k (by omega)).put j (by omega) (mark k j)
      refine rw_store (g := (sh k).g) (i := j) (l := [.int .u8 (mark k j)]) (cs' := cur.setIfInBounds j (.int .u8 (mark k j))) rfl rfl rfl hbk_ rfl (by simp [go_sem, sEv, sLook, nbeq, i64_w, -List.length_flatten, putCells, hcell_, hfro_]) ?_
      intro w_3 hK_ hb3_
      have hP3_ := hP2.put hd hobn hg0 (by omega) hnil_ hK_ (hput_ _ hb3_)
      have hB3_ := hP3_.1
      refine rw_end ?_
      refine w_weaken (G' := [(0, .slice (some ⟨ob, 0, none⟩) m lc), (3, .int .i64 (k : Int)), (4, .slice (adrS (sh k)) ((sh k).n) ((sh k).c)), (13, .slice (some ⟨ob, 0, none⟩) m lc), (14, .int .i64 (m : Int)), (15, .int .i64 (k : Int)), (21, .int .i64 ((sh k).n : Int)), (22, .int .i64 (j : Int))]) ⟨rfl, rfl, rfl, rfl, rfl, rfl, rfl, rfl, trivial⟩ ?_
      refine w_blk ?_
      refine w_region ?_
      refine rw_val (v := .int .i64 ((j + 1 : Nat) : Int)) (w' := w_3) rfl rfl rfl rfl (by simp [go_sem, sEv, sLook, nbeq, i64_w, -List.length_flatten]; exact wrap_id (by omega) (by omega)) ?_
      refine rw_val (v := .int .i64 ((j + 1 : Nat) : Int)) (w' := w_3) rfl rfl rfl rfl rfl ?_
      refine rw_end ?_
      have lj_ := of_decide_eq_true cJ
      exact w_back (m2_ - 1) [(0, .slice (some ⟨ob, 0, none⟩) m lc), (13, .slice (some ⟨ob, 0, none⟩) m lc), (14, .int .i64 (m : Int)), (15, .int .i64 (k : Int)), (3, .int .i64 (k : Int)), (4, V (sh k)), (21, .int .i64 ((sh k).n : Int)), (22, .int .i64 ((j + 1 : Nat) : Int))] (by omega) ⟨rfl, rfl, rfl, rfl, rfl, rfl, rfl, rfl, trivial⟩ ⟨j + 1, upd ys2 k ((ys2 k).set j (mark k j)), by omega, hP3_, fun i hi => by unfold upd; rw [if_neg (by omega)]; exact hys2 i hi, fun i hi => upd_mark (by rw [(hP2.2.2.2 k (by omega)).1]; omega) hmk i hi, rfl⟩
    · have lj_ := of_decide_eq_false cJ
      have hlk_ := (hP2.2.2.2 k (by omega)).1
      have hyk_ := mks_of hlk_ (fun i hi => hmk i (by omega))
      have hys3_ : ∀ i, i < k + 1 → ys2 i = mks i (sh i).n := fun i hi => by
        by_cases he : i = k
        · rw [he]; exact hyk_
        · exact hys2 i (by omega)
      refine w_exit rfl ?_
      refine w_blk ?_
      refine w_region ?_
      refine rw_val (v := .int .i64 ((k + 1 : Nat) : Int)) (w' := w_2) rfl rfl rfl rfl (by simp [go_sem, sEv, sLook, nbeq, i64_w, -List.length_flatten]; exact wrap_id (by omega) (by omega)) ?_
      refine rw_val (v := .int .i64 ((k + 1 : Nat) : Int)) (w' := w_2) rfl rfl rfl rfl rfl ?_
      refine rw_end ?_
      have lk_ := of_decide_eq_true cK
      exact w_back (m1_ - 1) [(0, .slice (some ⟨ob, 0, none⟩) m lc), (13, .slice (some ⟨ob, 0, none⟩) m lc), (14, .int .i64 (m : Int)), (15, .int .i64 ((k + 1 : Nat) : Int))] (by omega) ⟨rfl, rfl, rfl, rfl, trivial⟩ ⟨k + 1, ys2, by omega, hP2, hys3_, rfl⟩
  · have lk_ := of_decide_eq_false cK
    have hke_ : k = m := by omega
    refine w_exit rfl ?_
    refine w_seq ?_
    refine w_region ?_
    refine rw_new (cs := #[]) (t := 22) (fun g => .slice (some ⟨g, 0, none⟩) 0 0) rfl rfl rfl rfl (by kernel_rfl) ?_
    intro g2 w3 hg7 hz6 hb4 hk5
    have hm_ : ∀ i, i < m → LR 5 w3 (sh i) (mks i (sh i).n) := fun i hi => by rw [← hys i (by omega)]; exact (hP.2.2.2 i hi).on hb4
    have hs0_ := hb4.size
    have hbw_ := hB.size
    have hPa_ : P2 w0 w ob m sh 0 sh w3 := ⟨chain hP.1 hb4, by omega, (hb4.block ob (by omega)).trans hP.2.2.1, hm_, fun i hi => by omega⟩
    have hGa_ : (Kd.raw 1).R 22 w3 w0.heap.size (fun q => w.heap.size ≤ q) (.slice (some ⟨g2, 0, none⟩) 0 0) (gcells sh 0) := raw_empty hk5 (by omega) (by omega)
    have hBa_ := hPa_.1
    refine rw_val (v := .slice (some ⟨g2, 0, none⟩) 0 0) (w' := w3) rfl rfl rfl rfl rfl ?_
    refine rw_end ?_
    refine w_seq ?_
    refine w_seq ?_
    refine w_region ?_
    refine rw_val (v := .slice (some ⟨ob, 0, none⟩) m lc) (w' := w3) rfl rfl rfl rfl rfl ?_
    refine rw_val (v := .int .i64 (m : Int)) (w' := w3) rfl rfl rfl rfl (by simp [go_sem, sEv, sLook, nbeq, i64_w, -List.length_flatten]) ?_
    refine rw_val (v := .int .i64 0) (w' := w3) rfl rfl rfl rfl rfl ?_
    refine rw_end ?_
    refine w_block ?_
    refine w_loop (fun m_ G W_ => ∃ (k : Nat) (gv : Nat → Sh) (A6 : Option Addr) (c6 : Nat), k + m_ = m ∧ P2 w0 w ob m sh k gv W_ ∧ (Kd.raw 1).R 22 W_ w0.heap.size (fun q => w.heap.size ≤ q) (.slice A6 k c6) (gcells gv k) ∧ G = [(0, .slice (some ⟨ob, 0, none⟩) m lc), (38, .slice (some ⟨ob, 0, none⟩) m lc), (39, .int .i64 (m : Int)), (40, .int .i64 (k : Int)), (6, .slice A6 k c6)]) m [(0, .slice (some ⟨ob, 0, none⟩) m lc), (38, .slice (some ⟨ob, 0, none⟩) m lc), (39, .int .i64 (m : Int)), (40, .int .i64 0), (6, .slice (some ⟨g2, 0, none⟩) 0 0)] ⟨0, sh, _, _, by omega, hPa_, hGa_, rfl⟩ ⟨rfl, rfl, rfl, rfl, rfl, trivial⟩ ?_
    rintro m3_ G w_3 ⟨k, gv, A6, c6, hkm, hP, hGr, rfl⟩
    have hB3_ := hP.1
    have hs_w_3 := hP.2.1
    refine w_seq ?_
    refine w_region ?_
    refine rw_val (v := .bool (decide ((k : Int) < (m : Int)))) (w' := w_3) rfl rfl rfl rfl (by simp [go_sem, sEv, sLook, nbeq, i64_w, -List.length_flatten]) ?_
    refine rw_end ?_
    refine w_seq ?_
    refine w_cond rfl rfl (fun cK => ?_) (fun cK => ?_)
    · refine w_skip ?_
      refine w_seq ?_
      refine w_block ?_
      refine w_seq ?_
      refine w_region ?_
      refine rw_val (v := .int .i64 (k : Int)) (w' := w_3) rfl rfl rfl rfl rfl ?_
      refine rw_val (v := .pointer (some ⟨ob, k, none⟩)) (w' := w_3) rfl rfl rfl rfl (by have lko_ := of_decide_eq_true cK; simp [go_sem, sEv, sLook, nbeq, i64_w, -List.length_flatten, Try.underlying32, add_plain]; omega) ?_
      refine rw_val (v := .slice (adrS (sh k)) ((sh k).n) ((sh k).c)) (w' := w_3) rfl rfl rfl rfl (by have lko_ := of_decide_eq_true cK; have ho_ := ((cell_same (a := ⟨ob, k, none⟩) hP.2.2.1).trans (hL k (by omega))); simp [go_sem, sEv, sLook, nbeq, i64_w, -List.length_flatten, ho_, V]) ?_
      refine rw_val (v := .int .i64 (k : Int)) (w' := w_3) rfl rfl rfl rfl rfl ?_
      refine rw_val (v := .slice (adrS (sh k)) ((sh k).n) ((sh k).c)) (w' := w_3) rfl rfl rfl rfl rfl ?_
      refine rw_end ?_
      refine w_weaken (G' := [(0, .slice (some ⟨ob, 0, none⟩) m lc), (6, .slice A6 k c6), (7, .int .i64 (k : Int)), (8, .slice (adrS (sh k)) ((sh k).n) ((sh k).c)), (38, .slice (some ⟨ob, 0, none⟩) m lc), (39, .int .i64 (m : Int)), (40, .int .i64 (k : Int))]) ⟨rfl, rfl, rfl, rfl, rfl, rfl, rfl, trivial⟩ ?_
      refine w_seq ?_
      refine w_region ?_
      refine rw_val (v := .slice (adrS (sh k)) ((sh k).n) ((sh k).c)) (w' := w_3) rfl rfl rfl rfl rfl ?_
      refine rw_val (v := .int .i64 ((sh k).n : Int)) (w' := w_3) rfl rfl rfl rfl (by simp [go_sem, sEv, sLook, nbeq, i64_w, -List.length_flatten]) ?_
      refine rw_val (v := .int .i64 ((sh k).n : Int)) (w' := w_3) rfl rfl rfl rfl rfl ?_
      refine rw_end ?_
      refine w_seq ?_
      refine w_block ?_
      have lk0_ := of_decide_eq_true cK
      have hnk_ := hn k (by omega)
      refine w_loop (fun m_ G W_ => ∃ s : Sh, s.n + m_ = (sh k).n + 10 ∧ (sh k).n ≤ s.n ∧ P2 w0 w ob m sh k gv W_ ∧ (Kd.raw 1).R 22 W_ w0.heap.size (fun q => w.heap.size ≤ q) (.slice A6 k c6) (gcells gv k) ∧ LR 5 W_ s (mks k s.n) ∧ (s.nil = false → (((sh k).nil = false ∧ s.g = (sh k).g) ∨ (w.heap.size ≤ s.g ∧ ∀ i, i < k → (gv i).g ≠ s.g))) ∧ G = [(0, .slice (some ⟨ob, 0, none⟩) m lc), (38, .slice (some ⟨ob, 0, none⟩) m lc), (39, .int .i64 (m : Int)), (40, .int .i64 (k : Int)), (6, .slice A6 k c6), (7, .int .i64 (k : Int)), (8, V s), (9, .int .i64 ((sh k).n : Int))]) 10 [(0, .slice (some ⟨ob, 0, none⟩) m lc), (38, .slice (some ⟨ob, 0, none⟩) m lc), (39, .int .i64 (m : Int)), (40, .int .i64 (k : Int)), (6, .slice A6 k c6), (7, .int .i64 (k : Int)), (8, V (sh k)), (9, .int .i64 ((sh k).n : Int))] ⟨sh k, rfl, Nat.le_refl _, hP, hGr, hP.2.2.2.1 k (by omega), fun h => .inl ⟨h, rfl⟩, rfl⟩ ⟨rfl, rfl, rfl, rfl, rfl, rfl, rfl, rfl, trivial⟩ ?_
      rintro m4_ G w_4 ⟨s, hsm, hsn, hP4, hG4, hL4, hS4, rfl⟩
      have hB4_ := hP4.1
      have hs_w_4 := hP4.2.1
      refine w_seq ?_
      refine w_seq ?_
      refine w_region ?_
      refine rw_val (v := .slice (adrS s) s.n s.c) (w' := w_4) rfl rfl rfl rfl rfl ?_
      refine rw_val (v := .int .i64 (s.n : Int)) (w' := w_4) rfl rfl rfl rfl (by simp [go_sem, sEv, sLook, nbeq, i64_w, -List.length_flatten]) ?_
      refine rw_val (v := .int .i64 ((sh k).n : Int)) (w' := w_4) rfl rfl rfl rfl rfl ?_
      refine rw_val (v := .int .i64 (((sh k).n + 10 : Nat) : Int)) (w' := w_4) rfl rfl rfl rfl (by simp [go_sem, sEv, sLook, nbeq, i64_w, -List.length_flatten]; first | (exact wrap_id (by omega) (by omega)) | (rw [wrap_id (by omega) (by omega)]; omega) | omega) ?_
      refine rw_val (v := .bool (decide ((s.n : Int) < (((sh k).n + 10 : Nat) : Int)))) (w' := w_4) rfl rfl rfl rfl (by simp [go_sem, sEv, sLook, nbeq, i64_w, -List.length_flatten]) ?_
      refine rw_end ?_
      refine w_weaken (G' := [(0, .slice (some ⟨ob, 0, none⟩) m lc), (6, .slice A6 k c6), (7, .int .i64 (k : Int)), (8, .slice (adrS s) s.n s.c), (9, .int .i64 ((sh k).n : Int)), (38, .slice (some ⟨ob, 0, none⟩) m lc), (39, .int .i64 (m : Int)), (40, .int .i64 (k : Int)), (51, .bool (decide ((s.n : Int) < (((sh k).n + 10 : Nat) : Int))))]) ⟨rfl, rfl, rfl, rfl, rfl, rfl, rfl, rfl, rfl, trivial⟩ ?_
      refine w_cond rfl rfl (fun cG => ?_) (fun cG => ?_)
      · refine w_skip ?_
        refine w_block ?_
        refine w_region ?_
        refine rw_val (v := .slice (adrS s) s.n s.c) (w' := w_4) rfl rfl rfl rfl rfl ?_
        refine rw_val (v := .int .i64 (k : Int)) (w' := w_4) rfl rfl rfl rfl rfl ?_
        refine rw_val (v := .int .i64 ((29 * k : Nat) : Int)) (w' := w_4) rfl rfl rfl rfl (by simp [go_sem, sEv, sLook, nbeq, i64_w, -List.length_flatten]; first | (exact wrap_id (by omega) (by omega)) | (rw [wrap_id (by omega) (by omega)]; omega) | omega) ?_
        refine rw_val (v := .slice (adrS s) s.n s.c) (w' := w_4) rfl rfl rfl rfl rfl ?_
        refine rw_val (v := .int .i64 (s.n : Int)) (w' := w_4) rfl rfl rfl rfl (by simp [go_sem, sEv, sLook, nbeq, i64_w, -List.length_flatten]) ?_
        refine rw_val (v := .int .i64 ((5 * s.n : Nat) : Int)) (w' := w_4) rfl rfl rfl rfl (by simp [go_sem, sEv, sLook, nbeq, i64_w, -List.length_flatten]; first | (exact wrap_id (by omega) (by omega)) | (rw [wrap_id (by omega) (by omega)]; omega) | omega) ?_
        refine rw_val (v := .int .i64 ((29 * k + 5 * s.n : Nat) : Int)) (w' := w_4) rfl rfl rfl rfl (by simp [go_sem, sEv, sLook, nbeq, i64_w, -List.length_flatten]; first | (exact wrap_id (by omega) (by omega)) | (rw [wrap_id (by omega) (by omega)]; omega) | omega) ?_
        refine rw_val (v := .int .i64 ((29 * k + 5 * s.n + 3 : Nat) : Int)) (w' := w_4) rfl rfl rfl rfl (by simp [go_sem, sEv, sLook, nbeq, i64_w, -List.length_flatten]; first | (exact wrap_id (by omega) (by omega)) | (rw [wrap_id (by omega) (by omega)]; omega) | omega) ?_
        refine rw_val (v := .int .u8 (mark k s.n)) (w' := w_4) rfl rfl rfl rfl (by simp [go_sem, sEv, sLook, nbeq, i64_w, -List.length_flatten]; rw [u8_mod]; unfold mark; congr 1) ?_
        refine rw_new (cs := #[.int .u8 (mark k s.n)]) (t := 5) (fun g => .slice (some ⟨g, 0, none⟩) 1 1) rfl rfl rfl rfl (by kernel_rfl) ?_
        intro gx_ w_5 hgx_ hzx_ hbx_ hkx_
        have hP5_ := hP4.on hob hbx_
        have hG5_ := Kd.R_below hG4 hbx_
        have hL5_ := hL4.on hbx_
        have hB5_ := hP5_.1
        have hs5_ := hP5_.2.1
        have lg_ := of_decide_eq_true cG
        refine rw_append_sh rfl rfl rfl (.tmp 52) (.tmp 61) rfl rfl 22 5 rfl (by kernel_rfl) info5 (sl := s) rfl rfl hL5_ hkx_ (by omega) ?_
        intro s2 w_6 hnil2_ hn2_ hL6_ hor_
        have hP6_ : P2 w0 w ob m sh k gv w_6 := by
          rcases hor_ with ⟨hsnil_, hg2_, hK_, cur, hc1_, hc2_⟩ | ⟨hge_, hBl_⟩
          · have hS_ := hS4 hsnil_
            refine hP5_.keep hK_ (fun i hi hin => ?_) (fun i hi e => ?_) (fun e => ?_) ?_
            · by_cases he : i = k
              · rcases hS_ with ⟨hkn_, hkg_⟩ | ⟨hf1_, hf2_⟩
                · right
                  rw [he]
                  have hq_ := hP5_.2.2.2.1 k (by omega)
                  refine ⟨hq_.1, hq_.2.1, fun _ => ?_⟩
                  obtain ⟨cur2, r1, r2, r3, r4, r5⟩ := hq_.2.2 hkn_
                  have ec_ : cur2 = cur := by
                    have r6 : w_5.heap[(sh k).g]? = some (.cells cur2 5 (0, 0)) := r1
                    have r7 : w_5.heap[s.g]? = some (.cells cur 5 (0, 0)) := hc1_
                    rw [hkg_, r6] at r7
                    injection r7 with r7
                    injection r7
                  subst ec_
                  exact ⟨_, by rw [← hkg_]; exact hc2_, by simp [r2], r3, r4, set_far r5 s.n (by rw [mks_len]; exact hsn)⟩
                · left
                  intro e
                  have := (hR i hi).lt hin
                  omega
              · left
                intro e
                rcases hS_ with ⟨hkn_, hkg_⟩ | ⟨hf1_, hf2_⟩
                · exact he (hd i k hi (by omega) hin hkn_ (by rw [e, hkg_]))
                · have := (hR i hi).lt hin
                  omega
            · obtain ⟨t1, t2, t3, t4⟩ := hP5_.2.2.2.2 i hi
              rcases hS_ with ⟨hkn_, hkg_⟩ | ⟨hf1_, hf2_⟩
              · rcases t4 with ⟨t5, t6⟩ | t5
                · have := hd i k (by omega) (by omega) t5 hkn_ (by rw [← t6, e, hkg_])
                  omega
                · have := (hR k (by omega)).lt hkn_
                  omega
              · exact hf2_ i hi e
            · rcases hS_ with ⟨hkn_, hkg_⟩ | ⟨hf1_, hf2_⟩
              · exact hobn k (by omega) hkn_ (by rw [e, hkg_])
              · omega
            · rcases hS_ with ⟨hkn_, hkg_⟩ | ⟨hf1_, hf2_⟩
              · rw [hkg_]
                exact hg0 k (by omega) hkn_
              · have := hB.size
                omega
          · exact hP5_.on hob hBl_
        have hG6_ : (Kd.raw 1).R 22 w_6 w0.heap.size (fun q => w.heap.size ≤ q) (.slice A6 k c6) (gcells gv k) := by
          rcases hor_ with ⟨hsnil_, hg2_, hK_, _⟩ | ⟨hge_, hBl_⟩
          · exact raw_keep hG5_ hL5_ hsnil_ hK_
          · exact Kd.R_below hG5_ hBl_
        have hS6_ : s2.nil = false → (((sh k).nil = false ∧ s2.g = (sh k).g) ∨ (w.heap.size ≤ s2.g ∧ ∀ i, i < k → (gv i).g ≠ s2.g)) := fun _ => by
          rcases hor_ with ⟨hsnil_, hg2_, hK_, _⟩ | ⟨hge_, hBl_⟩
          · rw [hg2_]
            exact hS4 hsnil_
          · right
            refine ⟨by omega, fun i hi e => ?_⟩
            obtain ⟨t1, t2, t3, t4⟩ := hP5_.2.2.2.2 i hi
            have := t3.lt t1
            omega
        have hB6_ := hP6_.1
        refine rw_val (v := .slice (adrS s2) s2.n s2.c) (w' := w_6) rfl rfl rfl rfl rfl ?_
        refine rw_end ?_
        refine w_weaken (G' := [(0, .slice (some ⟨ob, 0, none⟩) m lc), (6, .slice A6 k c6), (7, .int .i64 (k : Int)), (8, .slice (adrS s2) s2.n s2.c), (9, .int .i64 ((sh k).n : Int)), (38, .slice (some ⟨ob, 0, none⟩) m lc), (39, .int .i64 (m : Int)), (40, .int .i64 (k : Int))]) ⟨rfl, rfl, rfl, rfl, rfl, rfl, rfl, rfl, trivial⟩ ?_
        refine w_blk ?_
        exact w_back (m4_ - 1) [(0, .slice (some ⟨ob, 0, none⟩) m lc), (38, .slice (some ⟨ob, 0, none⟩) m lc), (39, .int .i64 (m : Int)), (40, .int .i64 (k : Int)), (6, .slice A6 k c6), (7, .int .i64 (k : Int)), (8, V s2), (9, .int .i64 ((sh k).n : Int))] (by omega) ⟨rfl, rfl, rfl, rfl, rfl, rfl, rfl, rfl, trivial⟩ ⟨s2, by omega, by omega, hP6_, hG6_, by rw [hn2_, mks_snoc]; exact hL6_, hS6_, rfl⟩
      · refine w_exit rfl ?_
        refine w_region ?_
        refine rw_val (v := .slice A6 k c6) (w' := w_4) rfl rfl rfl rfl rfl ?_
        refine rw_val (v := .slice (adrS s) s.n s.c) (w' := w_4) rfl rfl rfl rfl rfl ?_
        refine rw_new (cs := #[V s]) (t := 22) (fun g => .slice (some ⟨g, 0, none⟩) 1 1) rfl rfl rfl rfl (by kernel_rfl) ?_
        intro gy_ w_7 hgy_ hzy_ hby_ hky_
        have hP7_ := hP4.on hob hby_
        have hG7_ := Kd.R_below hG4 hby_
        have hL7_ := hL4.on hby_
        have hB7_ := hP7_.1
        have hs7_ := hP7_.2.1
        have lg_ := of_decide_eq_false cG
        have hse_ : s.n = (sh k).n + 10 := by omega
        have hsp_ := hL7_.pos (by omega)
        have hbw_ := hB.size
        refine rw_append_raw (w0 := w0) w0.heap.size rfl rfl rfl (.tmp 63) (.tmp 65) rfl rfl 32 22 24 rfl (by kernel_rfl) info22_ (by decide) rfl rfl hG7_ hky_ rfl (fun q hq => by omega) hB7_ (by omega) (by rw [gcells_len]; omega) ?_
        intro A8 c8 w_8 hG8_ hB8_ hgr_
        rw [gcells_len]
        rw [gcells_len] at hG8_
        have hP8_ := hP7_.grown hG7_ (fun q hq => hq) hob hB8_ hgr_
        have hL8_ : LR 5 w_8 s (mks k s.n) := hL7_.stay (fun hn => by
          obtain ⟨cur, hb, _⟩ := hL7_.2.2 hn
          refine hgr_.block s.g hb.lt (fun e => ?_)
          obtain ⟨cells, ht⟩ := Kd.R_typed hG7_ s.g e.symm
          have hb' : w_7.heap[s.g]? = some (.cells cur 5 (0, 0)) := hb
          rw [hb'] at ht
          injection ht with ht
          injection ht with _ ht
          cases ht)
        have hPn_ : P2 w0 w ob m sh (k + 1) (updS gv k s) w_8 := ⟨hP8_.1, hP8_.2.1, hP8_.2.2.1, hP8_.2.2.2.1, fun i hi => by
          unfold updS
          by_cases he : i = k
          · rw [if_pos he, he]
            refine ⟨hsp_, hse_, by rw [← hse_]; exact hL8_, ?_⟩
            rcases hS4 hsp_ with h | h
            · exact .inl h
            · exact .inr h.1
          · rw [if_neg he]
            exact hP8_.2.2.2.2 i (by omega)⟩
        have hGn_ : (Kd.raw 1).R 22 w_8 w0.heap.size (fun q => w.heap.size ≤ q) (.slice A8 (k + 1) c8) (gcells (updS gv k s) (k + 1)) := by rw [gcells_snoc]; exact hG8_
        refine rw_val (v := .slice A8 (k + 1) c8) (w' := w_8) rfl rfl rfl rfl rfl ?_
        refine rw_end ?_
        refine w_weaken (G' := [(0, .slice (some ⟨ob, 0, none⟩) m lc), (6, .slice A8 (k + 1) c8), (38, .slice (some ⟨ob, 0, none⟩) m lc), (39, .int .i64 (m : Int)), (40, .int .i64 (k : Int))]) ⟨rfl, rfl, rfl, rfl, rfl, trivial⟩ ?_
        refine w_blk ?_
        refine w_region ?_
        refine rw_val (v := .int .i64 ((k + 1 : Nat) : Int)) (w' := w_8) rfl rfl rfl rfl (by simp [go_sem, sEv, sLook, nbeq, i64_w, -List.length_flatten]; exact wrap_id (by omega) (by omega)) ?_
        refine rw_val (v := .int .i64 ((k + 1 : Nat) : Int)) (w' := w_8) rfl rfl rfl rfl rfl ?_
        refine rw_end ?_
        exact w_back (m3_ - 1) [(0, .slice (some ⟨ob, 0, none⟩) m lc), (38, .slice (some ⟨ob, 0, none⟩) m lc), (39, .int .i64 (m : Int)), (40, .int .i64 ((k + 1 : Nat) : Int)), (6, .slice A8 (k + 1) c8)] (by omega) ⟨rfl, rfl, rfl, rfl, rfl, trivial⟩ ⟨k + 1, updS gv k s, _, _, by omega, hPn_, hGn_, rfl⟩
    · have lk_ := of_decide_eq_false cK
      obtain rfl : m = k := by omega
      refine w_exit rfl ?_
      refine w_seq ?_
      refine w_seq ?_
      refine w_region ?_
      refine rw_val (v := .slice A6 m c6) (w' := w_3) rfl rfl rfl rfl rfl ?_
      refine rw_val (v := .int .i64 (m : Int)) (w' := w_3) rfl rfl rfl rfl (by simp [go_sem, sEv, sLook, nbeq, i64_w, -List.length_flatten]) ?_
      refine rw_val (v := .int .i64 0) (w' := w_3) rfl rfl rfl rfl rfl ?_
      refine rw_end ?_
      refine w_block ?_
      refine w_loop (fun m_ G W_ => ∃ k : Nat, k + m_ = m ∧ Below w_3.heap.size w_3 W_ ∧ G = [(0, .slice (some ⟨ob, 0, none⟩) m lc), (68, .slice A6 m c6), (69, .int .i64 (m : Int)), (70, .int .i64 (k : Int))]) m [(0, .slice (some ⟨ob, 0, none⟩) m lc), (68, .slice A6 m c6), (69, .int .i64 (m : Int)), (70, .int .i64 0)] ⟨0, by omega, Below.refl _ _, rfl⟩ ⟨rfl, rfl, rfl, rfl, trivial⟩ ?_
      rintro m5_ G w_5 ⟨k, hkm, hB5_, rfl⟩
      have hBz_ := chain hP.1 hB5_
      have hs_w_5 := hB5_.size
      refine w_seq ?_
      refine w_region ?_
      refine rw_val (v := .bool (decide ((k : Int) < (m : Int)))) (w' := w_5) rfl rfl rfl rfl (by simp [go_sem, sEv, sLook, nbeq, i64_w, -List.length_flatten]) ?_
      refine rw_end ?_
      refine w_seq ?_
      refine w_cond rfl rfl (fun cK => ?_) (fun cK => ?_)
      · refine w_skip ?_
        refine w_seq ?_
        refine w_block ?_
        refine w_seq ?_
        refine w_region ?_
        refine rw_val (v := .int .i64 (k : Int)) (w' := w_5) rfl rfl rfl rfl rfl ?_
        have lk0_ := of_decide_eq_true cK
        obtain ⟨adg, hAg_, hcg_⟩ := gcells_at hGr k (by omega)
        obtain ⟨g1_, g2_, g3_, g4_⟩ := hP.2.2.2.2 k (by omega)
        have hnk_ := hn k (by omega)
        subst hAg_
        refine rw_val (v := .pointer (some (adg.add k))) (w' := w_5) rfl rfl rfl rfl (by simp [go_sem, sEv, sLook, nbeq, i64_w, -List.length_flatten, Try.underlying32]; omega) ?_
        refine rw_val (v := .slice (adrS (gv k)) ((gv k).n) ((gv k).c)) (w' := w_5) rfl rfl rfl rfl (by have hg_ := cellOn hcg_ hB5_; simp [go_sem, sEv, sLook, nbeq, i64_w, -List.length_flatten, hg_, V]) ?_
        refine rw_val (v := .int .i64 (k : Int)) (w' := w_5) rfl rfl rfl rfl rfl ?_
        refine rw_val (v := .slice (adrS (gv k)) ((gv k).n) ((gv k).c)) (w' := w_5) rfl rfl rfl rfl rfl ?_
        refine rw_end ?_
        refine w_weaken (G' := [(0, .slice (some ⟨ob, 0, none⟩) m lc), (10, .int .i64 (k : Int)), (11, .slice (adrS (gv k)) ((gv k).n) ((gv k).c)), (68, .slice (some adg) m c6), (69, .int .i64 (m : Int)), (70, .int .i64 (k : Int))]) ⟨rfl, rfl, rfl, rfl, rfl, rfl, trivial⟩ ?_
        refine w_seq ?_
        refine w_region ?_
        refine rw_val (v := .slice (adrS (gv k)) ((gv k).n) ((gv k).c)) (w' := w_5) rfl rfl rfl rfl rfl ?_
        refine rw_val (v := .int .i64 (((sh k).n + 10 : Nat) : Int)) (w' := w_5) rfl rfl rfl rfl (by simp [go_sem, sEv, sLook, nbeq, i64_w, -List.length_flatten]; omega) ?_
        refine rw_val (v := .int .i64 0) (w' := w_5) rfl rfl rfl rfl rfl ?_
        refine rw_end ?_
        refine w_block ?_
        refine w_loop (fun m_ G W_ => ∃ j : Nat, j + m_ = (sh k).n + 10 ∧ Below w_3.heap.size w_3 W_ ∧ G = [(0, .slice (some ⟨ob, 0, none⟩) m lc), (68, .slice (some adg) m c6), (69, .int .i64 (m : Int)), (70, .int .i64 (k : Int)), (10, .int .i64 (k : Int)), (11, V (gv k)), (76, .int .i64 (((sh k).n + 10 : Nat) : Int)), (77, .int .i64 (j : Int))]) ((sh k).n + 10) [(0, .slice (some ⟨ob, 0, none⟩) m lc), (68, .slice (some adg) m c6), (69, .int .i64 (m : Int)), (70, .int .i64 (k : Int)), (10, .int .i64 (k : Int)), (11, V (gv k)), (76, .int .i64 (((sh k).n + 10 : Nat) : Int)), (77, .int .i64 0)] ⟨0, by omega, hB5_, rfl⟩ ⟨rfl, rfl, rfl, rfl, rfl, rfl, rfl, rfl, trivial⟩ ?_
        rintro m6_ G w_6 ⟨j, hjm, hB6_, rfl⟩
        have hPw_ := hP.on hob hB6_
        have hs_w_6 := hB6_.size
        refine w_seq ?_
        refine w_region ?_
        refine rw_val (v := .bool (decide ((j : Int) < (((sh k).n + 10 : Nat) : Int)))) (w' := w_6) rfl rfl rfl rfl (by simp [go_sem, sEv, sLook, nbeq, i64_w, -List.length_flatten]) ?_
        refine rw_end ?_
        refine w_seq ?_
        refine w_cond rfl rfl (fun cQ => ?_) (fun cQ => ?_)
        · refine w_skip ?_
          refine w_seq ?_
          refine w_block ?_
          refine w_seq ?_
          refine w_region ?_
          have lq0_ := of_decide_eq_true cQ
          obtain ⟨hgn_, hgc_, hgf_⟩ := (hPw_.2.2.2.2 k (by omega)).2.2.1.at j (by omega)
          rw [mks_get k _ j (by omega)] at hgc_
          have hAg2_ := adrS_some hgn_
          have hsc_ : j < (sh k).n → (sh k).nil = false ∧ w_6.cell? ⟨(sh k).g, j, none⟩ = some (.int .u8 (mark k j)) := fun h_ => by obtain ⟨p1_, p2_, _⟩ := (hPw_.2.2.2.1 k (by omega)).at j h_; rw [mks_get k _ j h_] at p2_; exact ⟨p1_, p2_⟩
          refine rw_val (v := .int .i64 (j : Int)) (w' := w_6) rfl rfl rfl rfl rfl ?_
          refine rw_val (v := .int .i64 (j : Int)) (w' := w_6) rfl rfl rfl rfl rfl ?_
          refine rw_end ?_
          refine w_seq ?_
          rcases bcase (decide ((j : Int) < ((sh k).n : Int))) with cJ | cJ
          · refine w_draw (M := [0, 0, 3, 7, 0, 16, 0, 64, 240, 496, 1008, 2047, 4095, 8191, 8191, 8191, 57343, 122879, 253951, 524287, 1048575, 2097151, 2097151, 8388607, 16777215, 2097151, 67108863, 134217727, 2097151, 2097151, 807403519, 1881145343, 4294967295, 8589934591, 17179869183]) (ss := [Is (.slice (adrS (gv k)) ((gv k).n) ((gv k).c)), Is (.int .i64 (j : Int)), Is (.pointer (some ⟨(gv k).g, j, none⟩)), Is (.int .u8 (mark k j)), Is (.int .i64 (k : Int)), Is (.int .i64 ((29 * k : Nat) : Int)), Is (.int .i64 (j : Int)), Is (.int .i64 ((5 * j : Nat) : Int)), Is (.int .i64 ((29 * k + 5 * j : Nat) : Int)), Is (.int .i64 ((29 * k + 5 * j + 3 : Nat) : Int)), Is (.int .u8 (mark k j)), Is (.bool false), Is (.bool false), Is (.int .i64 (j : Int)), Is (.slice (some ⟨ob, 0, none⟩) m lc), Is (.int .i64 (k : Int)), Is (.pointer (some ⟨ob, k, none⟩)), Is (.slice (adrS (sh k)) ((sh k).n) ((sh k).c)), Is (.int .i64 ((sh k).n : Int)), Is (.bool (decide ((j : Int) < ((sh k).n : Int)))), Is (.bool (decide ((j : Int) < ((sh k).n : Int)))), Is undef, Is undef, Is undef, Is undef, Is undef, Is undef, Is undef, Is undef, Is undef, Is undef, Is undef, Is undef, Is (.bool false), Is (.bool false)]) rfl (by decide +kernel) ?_
            refine t_is (.slice (adrS (gv k)) ((gv k).n) ((gv k).c)) rfl rfl rfl rfl (fun W_ hW_ F_ => rfl) ?_
            refine t_is (.int .i64 (j : Int)) rfl rfl rfl rfl (fun W_ hW_ F_ => rfl) ?_
            refine t_is (.pointer (some ⟨(gv k).g, j, none⟩)) rfl rfl rfl rfl (fun W_ hW_ F_ => by simp [go_sem, sEv, sLook, nbeq, i64_w, -List.length_flatten, Try.underlying22, hAg2_, add_plain]; omega) ?_
            refine t_is (.int .u8 (mark k j)) rfl rfl rfl rfl (fun W_ hW_ F_ => by have e_ := cellOn hgc_ (below_of_drew hW_); simp [go_sem, sEv, sLook, nbeq, i64_w, -List.length_flatten, e_]) ?_
            refine t_is (.int .i64 (k : Int)) rfl rfl rfl rfl (fun W_ hW_ F_ => rfl) ?_
            refine t_is (.int .i64 ((29 * k : Nat) : Int)) rfl rfl rfl rfl (fun W_ hW_ F_ => (by simp [go_sem, sEv, sLook, nbeq, i64_w, -List.length_flatten]; first | (exact wrap_id (by omega) (by omega)) | (rw [wrap_id (by omega) (by omega)]; omega) | omega)) ?_
            refine t_is (.int .i64 (j : Int)) rfl rfl rfl rfl (fun W_ hW_ F_ => rfl) ?_
            refine t_is (.int .i64 ((5 * j : Nat) : Int)) rfl rfl rfl rfl (fun W_ hW_ F_ => (by simp [go_sem, sEv, sLook, nbeq, i64_w, -List.length_flatten]; first | (exact wrap_id (by omega) (by omega)) | (rw [wrap_id (by omega) (by omega)]; omega) | omega)) ?_
            refine t_is (.int .i64 ((29 * k + 5 * j : Nat) : Int)) rfl rfl rfl rfl (fun W_ hW_ F_ => (by simp [go_sem, sEv, sLook, nbeq, i64_w, -List.length_flatten]; first | (exact wrap_id (by omega) (by omega)) | (rw [wrap_id (by omega) (by omega)]; omega) | omega)) ?_
            refine t_is (.int .i64 ((29 * k + 5 * j + 3 : Nat) : Int)) rfl rfl rfl rfl (fun W_ hW_ F_ => (by simp [go_sem, sEv, sLook, nbeq, i64_w, -List.length_flatten]; first | (exact wrap_id (by omega) (by omega)) | (rw [wrap_id (by omega) (by omega)]; omega) | omega)) ?_
            refine t_is (.int .u8 (mark k j)) rfl rfl rfl rfl (fun W_ hW_ F_ => (by simp [go_sem, sEv, sLook, nbeq, i64_w, -List.length_flatten]; rw [u8_mod]; unfold mark; congr 1)) ?_
            refine t_is (.bool false) rfl rfl rfl rfl (fun W_ hW_ F_ => by simp [go_sem, sEv, sLook, nbeq, i64_w, -List.length_flatten]) ?_
            refine t_is (.bool false) rfl rfl rfl rfl (fun W_ hW_ F_ => rfl) ?_
            refine t_gis (c := false) (.int .i64 (j : Int)) rfl rfl rfl rfl rfl rfl rfl (fun W_ hW_ F_ => rfl) ?_
            refine t_gis (c := false) (.slice (some ⟨ob, 0, none⟩) m lc) rfl rfl rfl rfl rfl rfl rfl (fun W_ hW_ F_ => rfl) ?_
            refine t_gis (c := false) (.int .i64 (k : Int)) rfl rfl rfl rfl rfl rfl rfl (fun W_ hW_ F_ => rfl) ?_
            refine t_gis (c := false) (.pointer (some ⟨ob, k, none⟩)) rfl rfl rfl rfl rfl rfl rfl (fun W_ hW_ F_ => (by have lko_ := of_decide_eq_true cK; simp [go_sem, sEv, sLook, nbeq, i64_w, -List.length_flatten, Try.underlying32, add_plain]; omega)) ?_
            refine t_gis (c := false) (.slice (adrS (sh k)) ((sh k).n) ((sh k).c)) rfl rfl rfl rfl rfl rfl rfl (fun W_ hW_ F_ => (by have lko_ := of_decide_eq_true cK; have ho_ := (cellOn ((cell_same (a := ⟨ob, k, none⟩) hPw_.2.2.1).trans (hL k (by omega))) (below_of_drew hW_)); simp [go_sem, sEv, sLook, nbeq, i64_w, -List.length_flatten, ho_, V])) ?_
            refine t_gis (c := false) (.int .i64 ((sh k).n : Int)) rfl rfl rfl rfl rfl rfl rfl (fun W_ hW_ F_ => (by simp [go_sem, sEv, sLook, nbeq, i64_w, -List.length_flatten])) ?_
            refine t_gis (c := false) (.bool (decide ((j : Int) < ((sh k).n : Int)))) rfl rfl rfl rfl rfl rfl rfl (fun W_ hW_ F_ => by simp [go_sem, sEv, sLook, nbeq, i64_w, -List.length_flatten]) ?_
            refine t_gis (c := false) (.bool (decide ((j : Int) < ((sh k).n : Int)))) rfl rfl rfl rfl rfl rfl rfl (fun W_ hW_ F_ => rfl) ?_
            refine t_off (c := decide ((j : Int) < ((sh k).n : Int))) rfl rfl rfl (by first | (rw [cJ]; rfl) | simp [cJ]) rfl rfl ?_
            refine t_off (c := decide ((j : Int) < ((sh k).n : Int))) rfl rfl rfl (by first | (rw [cJ]; rfl) | simp [cJ]) rfl rfl ?_
            refine t_off (c := decide ((j : Int) < ((sh k).n : Int))) rfl rfl rfl (by first | (rw [cJ]; rfl) | simp [cJ]) rfl rfl ?_
            refine t_off (c := decide ((j : Int) < ((sh k).n : Int))) rfl rfl rfl (by first | (rw [cJ]; rfl) | simp [cJ]) rfl rfl ?_
            refine t_off (c := decide ((j : Int) < ((sh k).n : Int))) rfl rfl rfl (by first | (rw [cJ]; rfl) | simp [cJ]) rfl rfl ?_
            refine t_off (c := decide ((j : Int) < ((sh k).n : Int))) rfl rfl rfl (by first | (rw [cJ]; rfl) | simp [cJ]) rfl rfl ?_
            refine t_off (c := decide ((j : Int) < ((sh k).n : Int))) rfl rfl rfl (by first | (rw [cJ]; rfl) | simp [cJ]) rfl rfl ?_
            refine t_off (c := decide ((j : Int) < ((sh k).n : Int))) rfl rfl rfl (by first | (rw [cJ]; rfl) | simp [cJ]) rfl rfl ?_
            refine t_off (c := decide ((j : Int) < ((sh k).n : Int))) rfl rfl rfl (by first | (rw [cJ]; rfl) | simp [cJ]) rfl rfl ?_
            refine t_off (c := decide ((j : Int) < ((sh k).n : Int))) rfl rfl rfl (by first | (rw [cJ]; rfl) | simp [cJ]) rfl rfl ?_
            refine t_off (c := decide ((j : Int) < ((sh k).n : Int))) rfl rfl rfl (by first | (rw [cJ]; rfl) | simp [cJ]) rfl rfl ?_
            refine t_off (c := decide ((j : Int) < ((sh k).n : Int))) rfl rfl rfl (by first | (rw [cJ]; rfl) | simp [cJ]) rfl rfl ?_
            refine t_gis (c := false) (.bool false) rfl rfl rfl rfl rfl rfl rfl (fun W_ hW_ F_ => by first | (simp [go_sem, sEv, sLook, nbeq, i64_w, -List.length_flatten, cJ]; done) | (simp [go_sem, sEv, sLook, nbeq, i64_w, -List.length_flatten] <;> omega) | (simp [go_sem, sEv, sLook, nbeq, i64_w, -List.length_flatten]; intro h_; exact absurd (by omega) h_) | (rw [cJ]; simp [go_sem, sEv, sLook, nbeq, i64_w, -List.length_flatten]; done)) ?_
            refine t_is (.bool false) rfl rfl rfl rfl (fun W_ hW_ F_ => by simp [go_sem, sEv, sLook, nbeq, i64_w, -List.length_flatten]) ?_
            refine t_end ?_
            intro w10 hb11_ F12
            have hb11 := below_of_drew hb11_
            have hs_w10 := hb11.size
            refine w_weaken (G' := [(0, .slice (some ⟨ob, 0, none⟩) m lc), (10, .int .i64 (k : Int)), (11, .slice (adrS (gv k)) ((gv k).n) ((gv k).c)), (68, .slice (some adg) m c6), (69, .int .i64 (m : Int)), (70, .int .i64 (k : Int)), (76, .int .i64 (((sh k).n + 10 : Nat) : Int)), (77, .int .i64 (j : Int)), (114, .bool false)]) ⟨rfl, rfl, rfl, rfl, rfl, rfl, rfl, rfl, rfl, trivial⟩ ?_
            refine w_cond_f rfl rfl rfl ?_
            refine w_skip ?_
            refine w_blk ?_
            refine w_region ?_
            refine rw_val (v := .int .i64 ((j + 1 : Nat) : Int)) (w' := w10) rfl rfl rfl rfl (by simp [go_sem, sEv, sLook, nbeq, i64_w, -List.length_flatten]; exact wrap_id (by omega) (by omega)) ?_
            refine rw_val (v := .int .i64 ((j + 1 : Nat) : Int)) (w' := w10) rfl rfl rfl rfl rfl ?_
            refine rw_end ?_
            have lq_ := of_decide_eq_true cQ
            exact w_back (m6_ - 1) [(0, .slice (some ⟨ob, 0, none⟩) m lc), (68, .slice (some adg) m c6), (69, .int .i64 (m : Int)), (70, .int .i64 (k : Int)), (10, .int .i64 (k : Int)), (11, V (gv k)), (76, .int .i64 (((sh k).n + 10 : Nat) : Int)), (77, .int .i64 ((j + 1 : Nat) : Int))] (by omega) ⟨rfl, rfl, rfl, rfl, rfl, rfl, rfl, rfl, trivial⟩ ⟨j + 1, by omega, (chain hB6_ hb11), rfl⟩
          · refine w_draw (M := [0, 0, 3, 7, 0, 16, 0, 64, 240, 496, 1008, 2047, 4095, 8191, 8191, 8191, 57343, 122879, 253951, 524287, 1048575, 2097151, 2097151, 8388607, 16777215, 2097151, 67108863, 134217727, 2097151, 2097151, 807403519, 1881145343, 4294967295, 8589934591, 17179869183]) (ss := [Is (.slice (adrS (gv k)) ((gv k).n) ((gv k).c)), Is (.int .i64 (j : Int)), Is (.pointer (some ⟨(gv k).g, j, none⟩)), Is (.int .u8 (mark k j)), Is (.int .i64 (k : Int)), Is (.int .i64 ((29 * k : Nat) : Int)), Is (.int .i64 (j : Int)), Is (.int .i64 ((5 * j : Nat) : Int)), Is (.int .i64 ((29 * k + 5 * j : Nat) : Int)), Is (.int .i64 ((29 * k + 5 * j + 3 : Nat) : Int)), Is (.int .u8 (mark k j)), Is (.bool false), Is (.bool false), Is (.int .i64 (j : Int)), Is (.slice (some ⟨ob, 0, none⟩) m lc), Is (.int .i64 (k : Int)), Is (.pointer (some ⟨ob, k, none⟩)), Is (.slice (adrS (sh k)) ((sh k).n) ((sh k).c)), Is (.int .i64 ((sh k).n : Int)), Is (.bool (decide ((j : Int) < ((sh k).n : Int)))), Is (.bool (decide ((j : Int) < ((sh k).n : Int)))), Is (.slice (some ⟨ob, 0, none⟩) m lc), Is (.int .i64 (k : Int)), Is (.pointer (some ⟨ob, k, none⟩)), Is (.slice (adrS (sh k)) ((sh k).n) ((sh k).c)), Is (.int .i64 (j : Int)), Is (.pointer (some ⟨(sh k).g, j, none⟩)), Is (.int .u8 (mark k j)), Is (.slice (adrS (gv k)) ((gv k).n) ((gv k).c)), Is (.int .i64 (j : Int)), Is (.pointer (some ⟨(gv k).g, j, none⟩)), Is (.int .u8 (mark k j)), Is (.bool false), Is (.bool false), Is (.bool false)]) rfl (by decide +kernel) ?_
            refine t_is (.slice (adrS (gv k)) ((gv k).n) ((gv k).c)) rfl rfl rfl rfl (fun W_ hW_ F_ => rfl) ?_
            refine t_is (.int .i64 (j : Int)) rfl rfl rfl rfl (fun W_ hW_ F_ => rfl) ?_
            refine t_is (.pointer (some ⟨(gv k).g, j, none⟩)) rfl rfl rfl rfl (fun W_ hW_ F_ => by simp [go_sem, sEv, sLook, nbeq, i64_w, -List.length_flatten, Try.underlying22, hAg2_, add_plain]; omega) ?_
            refine t_is (.int .u8 (mark k j)) rfl rfl rfl rfl (fun W_ hW_ F_ => by have e_ := cellOn hgc_ (below_of_drew hW_); simp [go_sem, sEv, sLook, nbeq, i64_w, -List.length_flatten, e_]) ?_
            refine t_is (.int .i64 (k : Int)) rfl rfl rfl rfl (fun W_ hW_ F_ => rfl) ?_
            refine t_is (.int .i64 ((29 * k : Nat) : Int)) rfl rfl rfl rfl (fun W_ hW_ F_ => (by simp [go_sem, sEv, sLook, nbeq, i64_w, -List.length_flatten]; first | (exact wrap_id (by omega) (by omega)) | (rw [wrap_id (by omega) (by omega)]; omega) | omega)) ?_
            refine t_is (.int .i64 (j : Int)) rfl rfl rfl rfl (fun W_ hW_ F_ => rfl) ?_
            refine t_is (.int .i64 ((5 * j : Nat) : Int)) rfl rfl rfl rfl (fun W_ hW_ F_ => (by simp [go_sem, sEv, sLook, nbeq, i64_w, -List.length_flatten]; first | (exact wrap_id (by omega) (by omega)) | (rw [wrap_id (by omega) (by omega)]; omega) | omega)) ?_
            refine t_is (.int .i64 ((29 * k + 5 * j : Nat) : Int)) rfl rfl rfl rfl (fun W_ hW_ F_ => (by simp [go_sem, sEv, sLook, nbeq, i64_w, -List.length_flatten]; first | (exact wrap_id (by omega) (by omega)) | (rw [wrap_id (by omega) (by omega)]; omega) | omega)) ?_
            refine t_is (.int .i64 ((29 * k + 5 * j + 3 : Nat) : Int)) rfl rfl rfl rfl (fun W_ hW_ F_ => (by simp [go_sem, sEv, sLook, nbeq, i64_w, -List.length_flatten]; first | (exact wrap_id (by omega) (by omega)) | (rw [wrap_id (by omega) (by omega)]; omega) | omega)) ?_
            refine t_is (.int .u8 (mark k j)) rfl rfl rfl rfl (fun W_ hW_ F_ => (by simp [go_sem, sEv, sLook, nbeq, i64_w, -List.length_flatten]; rw [u8_mod]; unfold mark; congr 1)) ?_
            refine t_is (.bool false) rfl rfl rfl rfl (fun W_ hW_ F_ => by simp [go_sem, sEv, sLook, nbeq, i64_w, -List.length_flatten]) ?_
            refine t_is (.bool false) rfl rfl rfl rfl (fun W_ hW_ F_ => rfl) ?_
            refine t_gis (c := false) (.int .i64 (j : Int)) rfl rfl rfl rfl rfl rfl rfl (fun W_ hW_ F_ => rfl) ?_
            refine t_gis (c := false) (.slice (some ⟨ob, 0, none⟩) m lc) rfl rfl rfl rfl rfl rfl rfl (fun W_ hW_ F_ => rfl) ?_
            refine t_gis (c := false) (.int .i64 (k : Int)) rfl rfl rfl rfl rfl rfl rfl (fun W_ hW_ F_ => rfl) ?_
            refine t_gis (c := false) (.pointer (some ⟨ob, k, none⟩)) rfl rfl rfl rfl rfl rfl rfl (fun W_ hW_ F_ => (by have lko_ := of_decide_eq_true cK; simp [go_sem, sEv, sLook, nbeq, i64_w, -List.length_flatten, Try.underlying32, add_plain]; omega)) ?_
            refine t_gis (c := false) (.slice (adrS (sh k)) ((sh k).n) ((sh k).c)) rfl rfl rfl rfl rfl rfl rfl (fun W_ hW_ F_ => (by have lko_ := of_decide_eq_true cK; have ho_ := (cellOn ((cell_same (a := ⟨ob, k, none⟩) hPw_.2.2.1).trans (hL k (by omega))) (below_of_drew hW_)); simp [go_sem, sEv, sLook, nbeq, i64_w, -List.length_flatten, ho_, V])) ?_
            refine t_gis (c := false) (.int .i64 ((sh k).n : Int)) rfl rfl rfl rfl rfl rfl rfl (fun W_ hW_ F_ => (by simp [go_sem, sEv, sLook, nbeq, i64_w, -List.length_flatten])) ?_
            refine t_gis (c := false) (.bool (decide ((j : Int) < ((sh k).n : Int)))) rfl rfl rfl rfl rfl rfl rfl (fun W_ hW_ F_ => by simp [go_sem, sEv, sLook, nbeq, i64_w, -List.length_flatten]) ?_
            refine t_gis (c := false) (.bool (decide ((j : Int) < ((sh k).n : Int)))) rfl rfl rfl rfl rfl rfl rfl (fun W_ hW_ F_ => rfl) ?_
            refine t_gis (c := decide ((j : Int) < ((sh k).n : Int))) (.slice (some ⟨ob, 0, none⟩) m lc) rfl rfl rfl (by first | (rw [cJ]; rfl) | simp [cJ]) rfl rfl rfl (fun W_ hW_ F_ => rfl) ?_
            refine t_gis (c := decide ((j : Int) < ((sh k).n : Int))) (.int .i64 (k : Int)) rfl rfl rfl (by first | (rw [cJ]; rfl) | simp [cJ]) rfl rfl rfl (fun W_ hW_ F_ => rfl) ?_
            refine t_gis (c := decide ((j : Int) < ((sh k).n : Int))) (.pointer (some ⟨ob, k, none⟩)) rfl rfl rfl (by first | (rw [cJ]; rfl) | simp [cJ]) rfl rfl rfl (fun W_ hW_ F_ => (by have lko_ := of_decide_eq_true cK; simp [go_sem, sEv, sLook, nbeq, i64_w, -List.length_flatten, Try.underlying32, add_plain]; omega)) ?_
            refine t_gis (c := decide ((j : Int) < ((sh k).n : Int))) (.slice (adrS (sh k)) ((sh k).n) ((sh k).c)) rfl rfl rfl (by first | (rw [cJ]; rfl) | simp [cJ]) rfl rfl rfl (fun W_ hW_ F_ => (by have lko_ := of_decide_eq_true cK; have ho_ := (cellOn ((cell_same (a := ⟨ob, k, none⟩) hPw_.2.2.1).trans (hL k (by omega))) (below_of_drew hW_)); simp [go_sem, sEv, sLook, nbeq, i64_w, -List.length_flatten, ho_, V])) ?_
            refine t_gis (c := decide ((j : Int) < ((sh k).n : Int))) (.int .i64 (j : Int)) rfl rfl rfl (by first | (rw [cJ]; rfl) | simp [cJ]) rfl rfl rfl (fun W_ hW_ F_ => rfl) ?_
            refine t_gis (c := decide ((j : Int) < ((sh k).n : Int))) (.pointer (some ⟨(sh k).g, j, none⟩)) rfl rfl rfl (by first | (rw [cJ]; rfl) | simp [cJ]) rfl rfl rfl (fun W_ hW_ F_ => by have h_ := adrS_some (hsc_ (by have := of_decide_eq_true cJ; omega)).1; simp [go_sem, sEv, sLook, nbeq, i64_w, -List.length_flatten, Try.underlying22, h_, add_plain]; (have := of_decide_eq_true cJ); omega) ?_
            refine t_gis (c := decide ((j : Int) < ((sh k).n : Int))) (.int .u8 (mark k j)) rfl rfl rfl (by first | (rw [cJ]; rfl) | simp [cJ]) rfl rfl rfl (fun W_ hW_ F_ => by have e_ := cellOn (hsc_ (by have := of_decide_eq_true cJ; omega)).2 (below_of_drew hW_); simp [go_sem, sEv, sLook, nbeq, i64_w, -List.length_flatten, e_]) ?_
            refine t_gis (c := decide ((j : Int) < ((sh k).n : Int))) (.slice (adrS (gv k)) ((gv k).n) ((gv k).c)) rfl rfl rfl (by first | (rw [cJ]; rfl) | simp [cJ]) rfl rfl rfl (fun W_ hW_ F_ => rfl) ?_
            refine t_gis (c := decide ((j : Int) < ((sh k).n : Int))) (.int .i64 (j : Int)) rfl rfl rfl (by first | (rw [cJ]; rfl) | simp [cJ]) rfl rfl rfl (fun W_ hW_ F_ => rfl) ?_
            refine t_gis (c := decide ((j : Int) < ((sh k).n : Int))) (.pointer (some ⟨(gv k).g, j, none⟩)) rfl rfl rfl (by first | (rw [cJ]; rfl) | simp [cJ]) rfl rfl rfl (fun W_ hW_ F_ => by simp [go_sem, sEv, sLook, nbeq, i64_w, -List.length_flatten, Try.underlying22, hAg2_, add_plain]; omega) ?_
            refine t_gis (c := decide ((j : Int) < ((sh k).n : Int))) (.int .u8 (mark k j)) rfl rfl rfl (by first | (rw [cJ]; rfl) | simp [cJ]) rfl rfl rfl (fun W_ hW_ F_ => by have e_ := cellOn hgc_ (below_of_drew hW_); simp [go_sem, sEv, sLook, nbeq, i64_w, -List.length_flatten, e_]) ?_
            refine t_gis (c := decide ((j : Int) < ((sh k).n : Int))) (.bool false) rfl rfl rfl (by first | (rw [cJ]; rfl) | simp [cJ]) rfl rfl rfl (fun W_ hW_ F_ => by simp [go_sem, sEv, sLook, nbeq, i64_w, -List.length_flatten]) ?_
            refine t_gis (c := false) (.bool false) rfl rfl rfl rfl rfl rfl rfl (fun W_ hW_ F_ => by first | (simp [go_sem, sEv, sLook, nbeq, i64_w, -List.length_flatten, cJ]; done) | (simp [go_sem, sEv, sLook, nbeq, i64_w, -List.length_flatten] <;> omega) | (simp [go_sem, sEv, sLook, nbeq, i64_w, -List.length_flatten]; intro h_; exact absurd (by omega) h_) | (rw [cJ]; simp [go_sem, sEv, sLook, nbeq, i64_w, -List.length_flatten]; done)) ?_
            refine t_is (.bool false) rfl rfl rfl rfl (fun W_ hW_ F_ => by simp [go_sem, sEv, sLook, nbeq, i64_w, -List.length_flatten]) ?_
            refine t_end ?_
            intro w15 hb16_ F17
            have hb16 := below_of_drew hb16_
            have hs_w15 := hb16.size
            refine w_weaken (G' := [(0, .slice (some ⟨ob, 0, none⟩) m lc), (10, .int .i64 (k : Int)), (11, .slice (adrS (gv k)) ((gv k).n) ((gv k).c)), (68, .slice (some adg) m c6), (69, .int .i64 (m : Int)), (70, .int .i64 (k : Int)), (76, .int .i64 (((sh k).n + 10 : Nat) : Int)), (77, .int .i64 (j : Int)), (114, .bool false)]) ⟨rfl, rfl, rfl, rfl, rfl, rfl, rfl, rfl, rfl, trivial⟩ ?_
            refine w_cond_f rfl rfl rfl ?_
            refine w_skip ?_
            refine w_blk ?_
            refine w_region ?_
            refine rw_val (v := .int .i64 ((j + 1 : Nat) : Int)) (w' := w15) rfl rfl rfl rfl (by simp [go_sem, sEv, sLook, nbeq, i64_w, -List.length_flatten]; exact wrap_id (by omega) (by omega)) ?_
            refine rw_val (v := .int .i64 ((j + 1 : Nat) : Int)) (w' := w15) rfl rfl rfl rfl rfl ?_
            refine rw_end ?_
            have lq_ := of_decide_eq_true cQ
            exact w_back (m6_ - 1) [(0, .slice (some ⟨ob, 0, none⟩) m lc), (68, .slice (some adg) m c6), (69, .int .i64 (m : Int)), (70, .int .i64 (k : Int)), (10, .int .i64 (k : Int)), (11, V (gv k)), (76, .int .i64 (((sh k).n + 10 : Nat) : Int)), (77, .int .i64 ((j + 1 : Nat) : Int))] (by omega) ⟨rfl, rfl, rfl, rfl, rfl, rfl, rfl, rfl, trivial⟩ ⟨j + 1, by omega, (chain hB6_ hb16), rfl⟩
        · refine w_exit rfl ?_
          refine w_blk ?_
          refine w_region ?_
          refine rw_val (v := .int .i64 ((k + 1 : Nat) : Int)) (w' := w_6) rfl rfl rfl rfl (by simp [go_sem, sEv, sLook, nbeq, i64_w, -List.length_flatten]; exact wrap_id (by omega) (by omega)) ?_
          refine rw_val (v := .int .i64 ((k + 1 : Nat) : Int)) (w' := w_6) rfl rfl rfl rfl rfl ?_
          refine rw_end ?_
          have lk_ := of_decide_eq_true cK
          exact w_back (m5_ - 1) [(0, .slice (some ⟨ob, 0, none⟩) m lc), (68, .slice (some adg) m c6), (69, .int .i64 (m : Int)), (70, .int .i64 ((k + 1 : Nat) : Int))] (by omega) ⟨rfl, rfl, rfl, rfl, trivial⟩ ⟨k + 1, by omega, hB6_, rfl⟩
      · refine w_exit rfl ?_
        refine w_seq ?_
        refine w_region ?_
        refine rw_val (v := .bool true) (w' := w_5) rfl rfl rfl rfl rfl ?_
        refine rw_end ?_
        refine w_ret (post_ret1 rfl rfl ?_)
        exact ⟨rfl, (chain hP.1 hB5_)⟩
end Go.Proofs.Ytjndoihnpnmbjaa.PFrameSums
namespace Go.Proofs.Ytjndoihnpnmbjaa.PFrameSums
open Go.RowKit Go.Proofs.YtjndoihnpnmbjaaW.PrintWords Go.Proofs.YtjndoihnpnmbjaaW.PrintLast Go.Proofs.YtjndoihnpnmbjaaW.PrintMore
open Go.Proofs.Ytjndoihnpnmbjaa.Flow
set_option linter.unusedVariables false
set_option linter.unusedSimpArgs false


theorem make0_run (w : World) (l : Int) (n : Nat) (hl : l = (n : Int)) (hn : n ≤ 16777216) : (Instr.makeSlice 22 (.int .i64 0) (.int .i64 l)).run Try.prog w = .ok (.slice (some ⟨w.heap.size, 0, none⟩) 0 n) (w.alloc (.cells (madeCells #[Value.int .u8 0] n) 5)) := by
  subst hl
  obtain ⟨i5, hi5, hz5⟩ := Option.map_eq_some_iff.1 info5
  simp only [Prod.mk.injEq] at hz5
  have h := run_makeSlice (P := Try.prog) w 22 5 i5 (.int .u8 0) (by kernel_rfl) hi5 hz5.1 .i64 .i64 0 (n : Int) (by omega) (by omega) (by rw [hz5.2.1]; omega) (by rw [hz5.2.2]; omega) (by omega)
  simp only [Int.toNat_natCast, hz5.2.1, Nat.mul_one] at h
  exact h
theorem upto_run {P : Program} {t e : TypeId} (hu : P.underlying t = some (.slice e)) {sz : Nat} (hz : ∀ w, (sizeOf e).run P w = .ok sz w) {A : Option Addr} {n c : Nat} {x : Int} (h0 : 0 ≤ x) (h1 : x ≤ c) (w : World) : (Instr.sliceAt t (.slice A n c) none (some (.int .i64 x)) none).run P w = .ok (.slice A x.toNat c) w := by
  simp [go_sem, hu, h0, h1, hz]
theorem made_size (n : Nat) : (madeCells #[Value.int .u8 0] n).size = n := by
  rw [← Array.length_toList, toList_madeCells_one]
  simp
set_option maxHeartbeats 4000000 in
theorem copy_calls (w : World) (A0 : Option Addr) (c0 : Nat) (b : List Int) (hC : (Kd.int .u8).C w A0 b.length b) (hc : b.length ≤ c0) (hl : b.length ≤ 1000000) :
    Calls Try.prog 13 #[.slice A0 b.length c0] w fun e w' => ∃ A' c', e = .returned (.slice A' b.length c') ∧ Own .u8 5 w' w.heap.size w.heap.size A' (b.length + 2) c' (b ++ [165, 90]) ∧ Below w.heap.size w w' := by
  refine calls_flow Try.func13 rfl 14 rfl (Nat.le_of_ble_eq_true rfl) [(0, .slice A0 b.length c0)] ?_ ?_
  · intro t v h; exact args_look rfl t v h
  refine w_seq ?_
  refine w_region ?_
  refine rw_val (v := .slice none 0 0) (w' := w) rfl rfl rfl rfl rfl ?_
  refine rw_end ?_
  refine w_seq ?_
  refine w_region ?_
  refine rw_val (v := .slice A0 b.length c0) (w' := w) rfl rfl rfl rfl rfl ?_
  refine rw_val (v := .int .i64 (b.length : Int)) (w' := w) rfl rfl rfl rfl (by simp [go_sem, sEv, sLook, nbeq, i64_w, -List.length_flatten]) ?_
  refine rw_val (v := .int .i64 ((b.length + 2 : Nat) : Int)) (w' := w) rfl rfl rfl rfl (by simp [go_sem, sEv, sLook, nbeq, i64_w, -List.length_flatten]; exact wrap_id (by omega) (by omega)) ?_
  refine rw_new (cs := madeCells #[Value.int .u8 0] (b.length + 2)) (t := 5) (fun g => .slice (some ⟨g, 0, none⟩) 0 (b.length + 2)) rfl rfl rfl rfl (run_as (make0_run _ _ (b.length + 2) (by omega) (by omega))) ?_
  intro g1 w2 hg6 hz5 hb3 hk4
  have hs_w2 := hb3.size
  have hO7 : Own .u8 5 w2 w.heap.size w.heap.size (some ⟨g1, 0, none⟩) 0 (b.length + 2) [] := Own.mono (own_blk (xs := []) w.heap.size hk4 (by omega) (made_size _) (by simp) (by omega) (Nums.nil _ _)) (by omega)
  refine rw_val (v := .slice A0 b.length c0) (w' := w2) rfl rfl rfl rfl rfl ?_
  refine rw_append_row .u8 w.heap.size rfl rfl rfl (.tmp 6) (.tmp 7) rfl rfl 22 5 1 rfl (by kernel_rfl) info5 (by decide) (b := w.heap.size) rfl rfl (by omega) (hO7.on (Below.refl _ _)) (Kd.C_below hC hb3) hb3 (by omega) (by simp; omega) ?_
  intro A8 n9 c10 w11 hn12 hO13 hB14 hG15
  have hs_w11 := hB14.size
  have hgs_w11 := hG15.size
  refine rw_new (cs := #[.int .u8 165, .int .u8 90]) (t := 5) (fun g => .slice (some ⟨g, 0, none⟩) 2 2) rfl rfl rfl rfl (by kernel_rfl) ?_
  intro g16 w17 hg21 hz20 hb18 hk19
  have hs_w17 := hb18.size
  have hO22 : Own .u8 5 w17 w.heap.size g16 (some ⟨g16, 0, none⟩) 2 2 [165, 90] := own_blk (xs := [165, 90]) w.heap.size hk19 (by omega) rfl (by simp) (by omega) (fun j hj => by
    match j, hj with
    | 0, _ => rfl
    | 1, _ => rfl
    | j + 2, hj => simp at hj; omega)
  refine rw_append_row .u8 w.heap.size rfl rfl rfl (.tmp 8) (.tmp 9) rfl rfl 22 5 1 rfl (by kernel_rfl) info5 (by decide) (b := w.heap.size) rfl rfl (by omega) (hO13.on hb18) (Kd.C_below (Own.C hO22) (Below.refl _ _)) (chain hB14 hb18) (by omega) (by simp; omega) ?_
  intro A23 n24 c25 w26 hn27 hO28 hB29 hG30
  have hs_w26 := hB29.size
  have hgs_w26 := hG30.size
  refine rw_val (v := .slice A0 b.length c0) (w' := w26) rfl rfl rfl rfl rfl ?_
  refine rw_val (v := .int .i64 (b.length : Int)) (w' := w26) rfl rfl rfl rfl (by simp [go_sem, sEv, sLook, nbeq, i64_w, -List.length_flatten]) ?_
  have hn_ := hO28.len
  have hcp_ := hO28.cap
  simp only [List.nil_append, List.length_append, List.length_cons, List.length_nil] at hn_
  refine rw_val (v := .slice A23 b.length c25) (w' := w26) rfl rfl rfl rfl (by have h_ := upto_run (P := Try.prog) (t := 22) (e := 5) (sz := 1) (by kernel_rfl) (fun _ => by kernel_rfl) (A := A23) (n := n24) (c := c25) (x := (b.length : Int)) (by omega) (by omega) w26; rw [Int.toNat_natCast] at h_; exact run_as h_) ?_
  refine rw_val (v := .slice A23 b.length c25) (w' := w26) rfl rfl rfl rfl rfl ?_
  refine rw_end ?_
  refine w_weaken (G' := [(2, .slice A23 b.length c25)]) ⟨rfl, trivial⟩ ?_
  refine w_ret (post_ret1 rfl rfl ?_)
  have hf_ : Own .u8 5 w26 w.heap.size w.heap.size A23 (b.length + 2) c25 (b ++ [165, 90]) := by have h_ := (hO28.on (Below.refl _ _)); rw [show n24 = b.length + 2 by omega] at h_; simpa using h_
  exact ⟨_, _, rfl, hf_, hB29⟩

theorem rd_mark0 (b : List Int) : rd (b ++ [165, 90]) ((b.length : Nat) : Int) = 165 := by
  rw [rd_at _ b.length (by simp)]
  simp
theorem rd_mark1 (b : List Int) : rd (b ++ [165, 90]) ((b.length + 1 : Nat) : Int) = 90 := by
  rw [rd_at _ (b.length + 1) (by simp)]
  simp
set_option maxHeartbeats 4000000 in
theorem kept_calls (w : World) (A0 B0 : Option Addr) (c0 cb : Nat) (b : List Int) (hM : (Kd.int .u8).C w A0 (b.length + 2) (b ++ [165, 90])) (hMs : (Kd.int .u8).C w A0 b.length b) (hM2 : b.length + 2 ≤ c0) (hMc : b.length ≤ c0) (hC : (Kd.int .u8).C w B0 b.length b) (hc : b.length ≤ cb) (hl : b.length ≤ 1000000) :
    Calls Try.prog 16 #[.slice A0 b.length c0, .slice B0 b.length cb] w fun e w' => e = .returned (.bool true) ∧ Below w.heap.size w w' := by
  refine calls_flow Try.func16 rfl 39 rfl (Nat.le_of_ble_eq_true rfl) [(0, .slice A0 b.length c0), (1, .slice B0 b.length cb)] ?_ ?_
  · intro t v h; exact args_look rfl t v h
  refine w_seq ?_
  refine w_region ?_
  refine rw_val (v := .bool false) (w' := w) rfl rfl rfl rfl rfl ?_
  refine rw_end ?_
  refine w_seq ?_
  refine w_seq ?_
  refine w_region ?_
  refine rw_val (v := .slice A0 b.length c0) (w' := w) rfl rfl rfl rfl rfl ?_
  refine rw_val (v := .string (strOfNums b)) (w' := w) rfl rfl rfl rfl (run_as (run_str_of (P := Try.prog) (e := 5) (by kernel_rfl) (by kernel_rfl) (by kernel_rfl) (Kd.C_below hMs (Below.refl _ _)))) ?_
  refine rw_val (v := .slice B0 b.length cb) (w' := w) rfl rfl rfl rfl rfl ?_
  refine rw_val (v := .string (strOfNums b)) (w' := w) rfl rfl rfl rfl (run_as (run_str_of (P := Try.prog) (e := 5) (by kernel_rfl) (by kernel_rfl) (by kernel_rfl) (Kd.C_below hC (Below.refl _ _)))) ?_
  refine rw_val (v := .bool false) (w' := w) rfl rfl rfl rfl (run_bool (run_as (run_str_neq 9 _ _ _)) (by simp)) ?_
  refine rw_val (v := .bool false) (w' := w) rfl rfl rfl rfl rfl ?_
  refine rw_on (c := false) rfl rfl rfl rfl ?_
  refine rw_val (v := .slice A0 b.length c0) (w' := w) rfl rfl rfl rfl rfl ?_
  refine rw_on (c := false) rfl rfl rfl rfl ?_
  refine rw_val (v := .int .i64 (c0 : Int)) (w' := w) rfl rfl rfl rfl (by simp [go_sem, sEv, sLook, nbeq, i64_w, -List.length_flatten]) ?_
  refine rw_on (c := false) rfl rfl rfl rfl ?_
  refine rw_val (v := .slice B0 b.length cb) (w' := w) rfl rfl rfl rfl rfl ?_
  refine rw_on (c := false) rfl rfl rfl rfl ?_
  refine rw_val (v := .int .i64 (b.length : Int)) (w' := w) rfl rfl rfl rfl (by simp [go_sem, sEv, sLook, nbeq, i64_w, -List.length_flatten]) ?_
  refine rw_on (c := false) rfl rfl rfl rfl ?_
  refine rw_val (v := .int .i64 ((b.length + 2 : Nat) : Int)) (w' := w) rfl rfl rfl rfl (by simp [go_sem, sEv, sLook, nbeq, i64_w, -List.length_flatten]; exact wrap_id (by omega) (by omega)) ?_
  refine rw_on (c := false) rfl rfl rfl rfl ?_
  refine rw_val (v := .bool (decide ((c0 : Int) < ((b.length + 2 : Nat) : Int)))) (w' := w) rfl rfl rfl rfl (by simp [go_sem, sEv, sLook, nbeq, i64_w, -List.length_flatten]) ?_
  refine rw_val (v := .bool (decide ((c0 : Int) < ((b.length + 2 : Nat) : Int)))) (w' := w) rfl rfl rfl rfl (by simp [go_sem, sEv, sLook, nbeq, i64_w, -List.length_flatten]) ?_
  refine rw_end ?_
  refine w_weaken (G' := [(0, .slice A0 b.length c0), (1, .slice B0 b.length cb), (4, .bool false), (18, .bool (decide ((c0 : Int) < ((b.length + 2 : Nat) : Int))))]) ⟨rfl, rfl, rfl, rfl, trivial⟩ ?_
  have hq1 : (decide ((c0 : Int) < ((b.length + 2 : Nat) : Int))) = false := by exact decide_eq_false (by omega)
  refine w_cond_f rfl rfl hq1 ?_
  refine w_skip ?_
  refine w_seq ?_
  refine w_region ?_
  refine rw_val (v := .slice A0 b.length c0) (w' := w) rfl rfl rfl rfl rfl ?_
  refine rw_val (v := .slice B0 b.length cb) (w' := w) rfl rfl rfl rfl rfl ?_
  refine rw_val (v := .int .i64 (b.length : Int)) (w' := w) rfl rfl rfl rfl (by simp [go_sem, sEv, sLook, nbeq, i64_w, -List.length_flatten]) ?_
  refine rw_val (v := .int .i64 ((b.length + 2 : Nat) : Int)) (w' := w) rfl rfl rfl rfl (by simp [go_sem, sEv, sLook, nbeq, i64_w, -List.length_flatten]; exact wrap_id (by omega) (by omega)) ?_
  refine rw_val (v := .slice A0 (b.length + 2) c0) (w' := w) rfl rfl rfl rfl (by have h_ := upto_run (P := Try.prog) (t := 22) (e := 5) (sz := 1) (by kernel_rfl) (fun _ => by kernel_rfl) (A := A0) (n := b.length) (c := c0) (x := ((b.length + 2 : Nat) : Int)) (by omega) (by omega) w; rw [Int.toNat_natCast] at h_; exact run_as h_) ?_
  refine rw_val (v := .slice A0 (b.length + 2) c0) (w' := w) rfl rfl rfl rfl rfl ?_
  refine rw_end ?_
  refine w_weaken (G' := [(1, .slice B0 b.length cb), (4, .bool false), (5, .slice A0 (b.length + 2) c0)]) ⟨rfl, rfl, rfl, trivial⟩ ?_
  refine w_seq ?_
  refine w_region ?_
  refine rw_val (v := .slice A0 (b.length + 2) c0) (w' := w) rfl rfl rfl rfl rfl ?_
  refine rw_val (v := .slice B0 b.length cb) (w' := w) rfl rfl rfl rfl rfl ?_
  refine rw_val (v := .int .i64 (b.length : Int)) (w' := w) rfl rfl rfl rfl (by simp [go_sem, sEv, sLook, nbeq, i64_w, -List.length_flatten]) ?_
  obtain ⟨ad, hA_, hcell0_⟩ := Kd.at_int hM ((b.length : Nat) : Int) (by omega) (by omega)
  obtain ⟨ad2, hA2_, hcell1_⟩ := Kd.at_int hM ((b.length + 1 : Nat) : Int) (by omega) (by omega)
  rw [hA_] at hA2_
  obtain rfl := Option.some.inj hA2_
  rw [Int.toNat_natCast] at hcell0_ hcell1_
  rw [rd_mark0] at hcell0_
  rw [rd_mark1, Flow.add_pos] at hcell1_
  refine rw_val (v := .pointer (some (ad.add b.length))) (w' := w) rfl rfl rfl rfl (by simp [go_sem, sEv, sLook, nbeq, i64_w, -List.length_flatten, Try.underlying22, hA_]; try omega) ?_
  refine rw_val (v := .int .u8 165) (w' := w) rfl rfl rfl rfl (by simp [go_sem, sEv, sLook, nbeq, i64_w, -List.length_flatten, hcell0_]) ?_
  refine rw_val (v := .bool true) (w' := w) rfl rfl rfl rfl (by simp [go_sem, sEv, sLook, nbeq, i64_w, -List.length_flatten]) ?_
  refine rw_val (v := .bool true) (w' := w) rfl rfl rfl rfl rfl ?_
  refine rw_on (c := true) rfl rfl rfl rfl ?_
  refine rw_val (v := .slice A0 (b.length + 2) c0) (w' := w) rfl rfl rfl rfl rfl ?_
  refine rw_on (c := true) rfl rfl rfl rfl ?_
  refine rw_val (v := .slice B0 b.length cb) (w' := w) rfl rfl rfl rfl rfl ?_
  refine rw_on (c := true) rfl rfl rfl rfl ?_
  refine rw_val (v := .int .i64 (b.length : Int)) (w' := w) rfl rfl rfl rfl (by simp [go_sem, sEv, sLook, nbeq, i64_w, -List.length_flatten]) ?_
  refine rw_on (c := true) rfl rfl rfl rfl ?_
  refine rw_val (v := .int .i64 ((b.length + 1 : Nat) : Int)) (w' := w) rfl rfl rfl rfl (by simp [go_sem, sEv, sLook, nbeq, i64_w, -List.length_flatten]; exact wrap_id (by omega) (by omega)) ?_
  refine rw_on (c := true) rfl rfl rfl rfl ?_
  refine rw_val (v := .pointer (some (ad.add (b.length + 1)))) (w' := w) rfl rfl rfl rfl (by simp [go_sem, sEv, sLook, nbeq, i64_w, -List.length_flatten, Try.underlying22, hA_]; try omega) ?_
  refine rw_on (c := true) rfl rfl rfl rfl ?_
  refine rw_val (v := .int .u8 90) (w' := w) rfl rfl rfl rfl (by simp [go_sem, sEv, sLook, nbeq, i64_w, -List.length_flatten, hcell1_]) ?_
  refine rw_on (c := true) rfl rfl rfl rfl ?_
  refine rw_val (v := .bool true) (w' := w) rfl rfl rfl rfl (by simp [go_sem, sEv, sLook, nbeq, i64_w, -List.length_flatten]) ?_
  refine rw_val (v := .bool true) (w' := w) rfl rfl rfl rfl (by simp [go_sem, sEv, sLook, nbeq, i64_w, -List.length_flatten]) ?_
  refine rw_val (v := .bool true) (w' := w) rfl rfl rfl rfl rfl ?_
  refine rw_end ?_
  refine w_weaken (G' := [(4, .bool true)]) ⟨rfl, trivial⟩ ?_
  refine w_ret (post_ret1 rfl rfl ?_)
  exact ⟨rfl, (Below.refl _ _)⟩
end Go.Proofs.Ytjndoihnpnmbjaa.PFrameSums
