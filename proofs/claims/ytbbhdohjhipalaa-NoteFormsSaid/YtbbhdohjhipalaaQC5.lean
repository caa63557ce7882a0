/- Parts of the proofs of noteForms_holds: NtNote, NtCode, NtEnc, NtDec, NtAlive, NtLive, NtSame, NtRSame, NtBack2, NtArg, NtBackL. -/
import Derived.Test.YtbbhdohjhipalaaQC4
section
namespace Go.Proofs.Ytbbhdohjhipalaa.Ce
open Go.RowKit Go.Proofs.YtbbhdohjhipalaaW.PrintWords Go.Proofs.YtbbhdohjhipalaaW.PrintLast Go.Proofs.YtbbhdohjhipalaaW.PrintMore
open Go.Proofs.Ytbbhdohjhipalaa.Flow
set_option linter.unusedVariables false
set_option linter.unusedSimpArgs false
theorem next_k (w : World) (g B : Nat) (s : RS) (x : Int) (s2 : RS) (hx : nextR s = (x, s2)) (h : RDB w g B s) (hln : s.xs.length ≤ 1000000) : Calls Try.prog 58 #[.pointer (some ⟨g, 0, none⟩)] w fun e w' => e = .returned (.int .i64 x) ∧ RDB w' g B s2 ∧ Keep g w w' := by
  have q := next_calls w g B s h hln
  rw [hx] at q
  exact q
theorem count_k (w : World) (g B : Nat) (s : RS) (m y : Int) (s2 : RS) (hx : countR m s = (y, s2)) (h : RDB w g B s) (hln : s.xs.length ≤ 1000000) : Calls Try.prog 59 #[.pointer (some ⟨g, 0, none⟩), .int .i64 m] w fun e w' => e = .returned (.int .i64 y) ∧ RDB w' g B s2 ∧ Keep g w w' := by
  have q := count_calls w g B s m h hln
  rw [hx] at q
  exact q
theorem cell_k (w : World) (g : Nat) (s : RS) (c : CL) (s2 : RS) (hx : cellR s = (c, s2)) (h : RD w g s) (hln : s.xs.length ≤ 100000) : Calls Try.prog 60 #[.pointer (some ⟨g, 0, none⟩)] w fun e w' => e = .returned (.agg (carr c)) ∧ RD w' g s2 ∧ KG g w w' := by
  have q := cell_calls w g s h hln
  rw [hx] at q
  exact q
theorem next_le {s s2 : RS} {x : Int} (hx : nextR s = (x, s2)) : s2.xs.length ≤ s.xs.length := by
  have q := nextR_len s
  rw [hx] at q
  exact q
theorem count_nat {s s2 : RS} {m y : Int} (hx : countR m s = (y, s2)) (hm : 0 ≤ m) : ∃ k : Nat, (k : Int) ≤ m ∧ y = (k : Int) ∧ s2.xs.length ≤ s.xs.length := by
  have q := nextR_len s
  unfold countR at hx
  split at hx
  · cases hx
    exact ⟨0, hm, rfl, q⟩
  · rename_i h
    rw [hx] at h q
    refine ⟨y.toNat, ?_, ?_, q⟩ <;> simp only at h <;> omega
theorem takeC_le {l r : List Int} {c : CL} (h : takeC l = some (c, r)) : r.length ≤ l.length := by
  unfold takeC at h
  split at h
  · split at h
    · cases h
    · cases h
      rw [List.length_drop]
      omega
  · cases h
theorem cell_le {s s2 : RS} {c : CL} (hx : cellR s = (c, s2)) : s2.xs.length ≤ s.xs.length := by
  unfold cellR at hx
  split at hx
  · cases hx
    simp
  · rename_i h
    cases hx
    exact takeC_le h
theorem numsR_step {j : Nat} {s si s2 : RS} {l : List Int} {x : Int} (h : numsR j s = (l, si)) (hx : nextR si = (x, s2)) : numsR (j + 1) s = (l ++ [x], s2) := by
  simp only [numsR, h, hx]
def OF (i : Nat) (s : RS) (a b c d e : Int) (si : RS) : Prop := nextsR i s = si ∧ (1 ≤ i → (nextR s).1 = a) ∧ (2 ≤ i → (nextR (nextsR 1 s)).1 = b) ∧ (3 ≤ i → (nextR (nextsR 2 s)).1 = c) ∧ (4 ≤ i → (nextR (nextsR 3 s)).1 = d) ∧ (5 ≤ i → (nextR (nextsR 4 s)).1 = e)
theorem of_0 (s : RS) : OF 0 s 0 0 0 0 0 s := ⟨rfl, fun h => by omega, fun h => by omega, fun h => by omega, fun h => by omega, fun h => by omega⟩
theorem of_1 {s si s2 : RS} {a b c d e x : Int} (h : OF 0 s a b c d e si) (hx : nextR si = (x, s2)) : OF 1 s x b c d e s2 := by
  obtain ⟨rfl, h1, h2, h3, h4, h5⟩ := h
  exact ⟨congrArg Prod.snd hx, fun _ => congrArg Prod.fst hx, fun h => by omega, fun h => by omega, fun h => by omega, fun h => by omega⟩
theorem of_2 {s si s2 : RS} {a b c d e x : Int} (h : OF 1 s a b c d e si) (hx : nextR si = (x, s2)) : OF 2 s a x c d e s2 := by
  obtain ⟨rfl, h1, h2, h3, h4, h5⟩ := h
  exact ⟨congrArg Prod.snd hx, fun _ => h1 (by omega), fun _ => congrArg Prod.fst hx, fun h => by omega, fun h => by omega, fun h => by omega⟩
theorem of_3 {s si s2 : RS} {a b c d e x : Int} (h : OF 2 s a b c d e si) (hx : nextR si = (x, s2)) : OF 3 s a b x d e s2 := by
  obtain ⟨rfl, h1, h2, h3, h4, h5⟩ := h
  exact ⟨congrArg Prod.snd hx, fun _ => h1 (by omega), fun _ => h2 (by omega), fun _ => congrArg Prod.fst hx, fun h => by omega, fun h => by omega⟩
theorem of_4 {s si s2 : RS} {a b c d e x : Int} (h : OF 3 s a b c d e si) (hx : nextR si = (x, s2)) : OF 4 s a b c x e s2 := by
  obtain ⟨rfl, h1, h2, h3, h4, h5⟩ := h
  exact ⟨congrArg Prod.snd hx, fun _ => h1 (by omega), fun _ => h2 (by omega), fun _ => h3 (by omega), fun _ => congrArg Prod.fst hx, fun h => by omega⟩
theorem of_5 {s si s2 : RS} {a b c d e x : Int} (h : OF 4 s a b c d e si) (hx : nextR si = (x, s2)) : OF 5 s a b c d x s2 := by
  obtain ⟨rfl, h1, h2, h3, h4, h5⟩ := h
  exact ⟨congrArg Prod.snd hx, fun _ => h1 (by omega), fun _ => h2 (by omega), fun _ => h3 (by omega), fun _ => h4 (by omega), fun _ => congrArg Prod.fst hx⟩
theorem opsR_step {j : Nat} {s si s2 : RS} {l : List OpL} {a b c d e : Int} (h : opsR j s = (l, si)) (hx : OF 5 si a b c d e s2) : opsR (j + 1) s = (l ++ [(a, b, c, d, e)], s2) := by
  obtain ⟨h0, h1, h2, h3, h4, h5⟩ := hx
  simp only [opsR, h, opR, h0, h1 (by omega), h2 (by omega), h3 (by omega), h4 (by omega), h5 (by omega)]
theorem entsR_step {j : Nat} {s si sa sb sc : RS} {l : List EL} {x y : Int} {c : CL} (h : entsR j s = (l, si)) (hb : si.bad = false) (h1 : nextR si = (x, sa)) (h2 : nextR sa = (y, sb)) (h3 : cellR sb = (c, sc)) : entsR (j + 1) s = (l ++ [⟨x, y, c⟩], sc) := by
  have e1 : nextsR 2 si = sb := by show (nextR (nextR si).2).2 = sb; rw [h1, h2]
  have e2 : nextsR 1 si = sa := by show (nextR si).2 = sa; rw [h1]
  simp only [entsR, h, hb, entR, h1, h2, h3, e1]
  simp
theorem entsR_bad {s si : RS} {l : List EL} {j : Nat} (h : entsR j s = (l, si)) (hb : si.bad = true) : ∀ k, j ≤ k → entsR k s = (l, si)
  | 0, hk => by obtain rfl : j = 0 := by omega
                exact h
  | k + 1, hk => by
    rcases Nat.lt_or_ge k j with h1 | h1
    · obtain rfl : j = k + 1 := by omega
      exact h
    · have q := entsR_bad h hb k h1
      simp only [entsR, q, hb, if_true]
theorem own_app_o {α : Type} {d : Kd α} {P : Program} {o : Oper} {G : Env} {w0 W : World} (base b : Nat) (s x : Operand) (t e : TypeId) (z : Value) (bytes : Nat)
    (ho : o.op = .call { callee := .builtin .append, args := #[s, x], argTypes := #[t, t] }) (ht : P.underlying t = some (.slice e)) (hinfo : (P.info? e).map (fun i => (i.zero, i.size, i.bytes)) = some (some z, d.sz, bytes)) (hz : z.cells.size = d.sz) (hs0 : 0 < d.sz) (hb0 : 0 < bytes)
    (hKM : ∀ x cs, d.K W x cs → d.M W base (fun _ => False) x cs)
    {xs ys : List α} {A A2 : Option Addr} {m c m2 c2 : Nat} (hs : sEv G s = .slice A m c) (hx : sEv G x = .slice A2 m2 c2) (hb : b ≤ W.heap.size) (h0 : OwnK d e W base b A m c xs ∧ Below w0.heap.size w0 W) (HR : d.C W A2 m2 ys) (hbase : base ≤ W.heap.size) (hl : (xs.length + m2) * bytes ≤ 140737488355328) :
    ∃ v w', (execOp (sEv G) o).run P W = .ok (.value v) w' ∧ (OwnKSpec d e base b (xs ++ ys)).s v w' ∧ Kept W w' (fun q => (Value.slice A m c).ownBlock = some q) ∧ True ∧ QT W w' := by
  obtain ⟨v, w', h1, h2, h3⟩ := own_app_gives (d := d) base b s x t e z bytes ho ht hinfo hz hs0 hb0 hKM hs hx hb h0.1 HR hbase hl
  exact ⟨v, w', h1, h2, kept_grown h3, trivial, h3.os, h3.tape, h3.output⟩
theorem note_eq {s s1 s2 s3 s4 s5 s6 s7 s8 s9 : RS} {x1 x2 x3 : Int} {k1 k2 k3 : Nat} {l1 : List Int} {l2 : List OpL} {l3 : List EL} (h1 : nextR s = (x1, s1)) (h2 : nextR s1 = (x2, s2)) (h3 : nextR s2 = (x3, s3)) (h4 : countR 64 s3 = ((k1 : Int), s4)) (h5 : numsR k1 s4 = (l1, s5)) (h6 : countR 16 s5 = ((k2 : Int), s6)) (h7 : opsR k2 s6 = (l2, s7)) (h8 : countR 16 s7 = ((k3 : Int), s8)) (h9 : entsR k3 s8 = (l3, s9)) : noteR s = (⟨x1, x2, x3, l1, l2, l3⟩, s9) := by
  have e1 : nextsR 1 s = s1 := by show (nextR s).2 = s1; rw [h1]
  have e2 : nextsR 2 s = s2 := by show (nextR (nextsR 1 s)).2 = s2; rw [e1, h2]
  have e3 : nextsR 3 s = s3 := by show (nextR (nextsR 2 s)).2 = s3; rw [e2, h3]
  simp only [noteR, e1, e2, e3, h1, h2, h3, h4, h5, h6, h7, h8, h9, Int.toNat_natCast]
set_option maxHeartbeats 4000000 in
theorem note_raw (w : World) (w1 : World) (g : Nat) (s : RS) (hb0 : Below w.heap.size w w1) (hs_w1 : w.heap.size ≤ w1.heap.size) (hg0 : w.heap.size ≤ g) (hg1 : g < w1.heap.size) (A : Option Addr) (c : Nat) (hb : Blk w1 g 90 #[.slice A s.xs.length c, .bool s.bad]) (hr : RRow w1 A s.xs.length c s.xs) (hl : Low w1.heap.size A) (hln : s.xs.length ≤ 100000) :
  Calls Try.prog 38 #[.pointer (some ⟨g, 0, none⟩)] w1 fun e w' => ∃ A3 c3 A4 c4 A5 c5, e = .returned (.agg #[.int .i64 (noteR s).1.kind, .int .i64 (noteR s).1.fr, .int .i64 (noteR s).1.tw, .slice A3 (noteR s).1.nums.length c3, .slice A4 (noteR s).1.ops.length c4, .slice A5 (noteR s).1.ents.length c5]) ∧ OwnK (Kd.int .i64) 3 w' w.heap.size w1.heap.size A3 (noteR s).1.nums.length c3 (noteR s).1.nums ∧ OwnK kOp 73 w' w.heap.size w1.heap.size A4 (noteR s).1.ops.length c4 (noteR s).1.ops ∧ OwnK kEntry 83 w' w.heap.size w1.heap.size A5 (noteR s).1.ents.length c5 (noteR s).1.ents ∧ RD w' g (noteR s).2 ∧ Below w.heap.size w w' := by
 refine calls_flow Try.func38 rfl 84 rfl (Nat.le_of_ble_eq_true rfl) [(0, .pointer (some ⟨g, 0, none⟩))] ?_ ?_
 ·
  intro t v h; exact args_look rfl t v h
 refine wsr ?_
 refine rw_new (cs := #[.int .i64 0, .int .i64 0, .int .i64 0, .slice none 0 0, .slice none 0 0, .slice none 0 0]) (t := 26) (fun g => .pointer (some ⟨g, 0, none⟩)) rfl rfl rfl rfl (by kernel_rfl) ?_
 intro g2 w3 hg7 hz6 hb4 hk5
 have hs_w3 := hb4.size
 refine rw_end ?_
 refine w_scope ?_
 refine wsr ?_
 refine rv (.pointer (some ⟨g, 0, none⟩)) ?_
 rcases hx10 : nextR s with ⟨x11, s12⟩
 have hl13 := next_le hx10
 refine rw_call rfl rfl rfl rfl (f := 58) (args := #[.pointer (some ⟨g, 0, none⟩)]) (by simp [go_sem, sEv, sLook, nbeq, i64_w, -List.getD_eq_getElem?_getD]) (next_k w3 g w1.heap.size s x11 s12 hx10 ⟨A, c, (hb.on hb4), (RRow.on hr hb4), hl⟩ (by omega)) ?_
 rintro e_ w8 ⟨rfl, ⟨A14, c15, hb16, hr17, hl18⟩, hk9⟩
 refine ⟨_, rfl, ?_⟩
 have hs_w8 := hk9.size
 refine rz (.agg #[.int .i64 x11, .int .i64 0, .int .i64 0, .slice none 0 0, .slice none 0 0, .slice none 0 0]) (by kernel_rfl) ?_
 refine rw_new (cs := #[.int .i64 0, .int .i64 0, .int .i64 0, .slice none 0 0, .slice none 0 0, .slice none 0 0]) (t := 26) (fun g => .pointer (some ⟨g, 0, none⟩)) rfl rfl rfl rfl (by kernel_rfl) ?_
 intro g20 w21 hg25 hz24 hb22 hk23
 have hs_w21 := hb22.size
 have hb29 := hk23
 refine rw_store (g := g20) (i := 0) (l := [.int .i64 x11, .int .i64 0, .int .i64 0, .slice none 0 0, .slice none 0 0, .slice none 0 0]) (cs' := #[.int .i64 x11, .int .i64 0, .int .i64 0, .slice none 0 0, .slice none 0 0, .slice none 0 0]) rfl rfl rfl hb29 rfl (by have e0_ := hb29.cellv (i := 0) (v := (.int .i64 0 : Value)) rfl; have f0_ := hb29.frozen 0; have e1_ := hb29.cellv (i := 1) (v := (.int .i64 0 : Value)) rfl; have f1_ := hb29.frozen 1; have e2_ := hb29.cellv (i := 2) (v := (.int .i64 0 : Value)) rfl; have f2_ := hb29.frozen 2; have e3_ := hb29.cellv (i := 3) (v := (.slice none 0 0 : Value)) rfl; have f3_ := hb29.frozen 3; have e4_ := hb29.cellv (i := 4) (v := (.slice none 0 0 : Value)) rfl; have f4_ := hb29.frozen 4; have e5_ := hb29.cellv (i := 5) (v := (.slice none 0 0 : Value)) rfl; have f5_ := hb29.frozen 5; simp [go_sem, sEv, sLook, nbeq, i64_w, -List.getD_eq_getElem?_getD, putCells, e0_, f0_, e1_, f1_, e2_, f2_, e3_, f3_, e4_, f4_, e5_, f5_, Try.underlying26]) ?_
 intro w26 hk27 hk28
 have hs_w26 := hk27.size
 refine rw_end ?_
 refine w_weaken (G' := [(0, .pointer (some ⟨g, 0, none⟩)), (2, .pointer (some ⟨g2, 0, none⟩)), (3, .pointer (some ⟨g20, 0, none⟩))]) ⟨rfl, rfl, rfl, trivial⟩ ?_
 refine wsr ?_
 refine rv (.pointer (some ⟨g, 0, none⟩)) ?_
 rcases hx32 : nextR s12 with ⟨x33, s34⟩
 have hl35 := next_le hx32
 refine rw_call rfl rfl rfl rfl (f := 58) (args := #[.pointer (some ⟨g, 0, none⟩)]) (by simp [go_sem, sEv, sLook, nbeq, i64_w, -List.getD_eq_getElem?_getD]) (next_k w26 g w1.heap.size s12 x33 s34 hx32 ⟨A14, c15, ((hb16.on hb22).keep hk27 (by omega)), (RRow.keep (RRow.on hr17 hb22) hk23 (by decide) hk27), hl18⟩ (by omega)) ?_
 rintro e_ w30 ⟨rfl, ⟨A36, c37, hb38, hr39, hl40⟩, hk31⟩
 refine ⟨_, rfl, ?_⟩
 have hs_w30 := hk31.size
 refine ru (.pointer (some ⟨g20, 1, none⟩)) ?_
 have hb45 := (hk28.keep hk31 (by omega))
 refine rw_store (g := g20) (i := 1) (l := [.int .i64 x33]) (cs' := #[.int .i64 x11, .int .i64 x33, .int .i64 0, .slice none 0 0, .slice none 0 0, .slice none 0 0]) rfl rfl rfl hb45 rfl (by have e0_ := hb45.cellv (i := 1) (v := (.int .i64 0 : Value)) rfl; have f0_ := hb45.frozen 1; simp [go_sem, sEv, sLook, nbeq, i64_w, -List.getD_eq_getElem?_getD, putCells, e0_, f0_]) ?_
 intro w42 hk43 hk44
 have hs_w42 := hk43.size
 refine rw_end ?_
 refine w_weaken (G' := [(0, .pointer (some ⟨g, 0, none⟩)), (2, .pointer (some ⟨g2, 0, none⟩)), (3, .pointer (some ⟨g20, 0, none⟩))]) ⟨rfl, rfl, rfl, trivial⟩ ?_
 refine wsr ?_
 refine rv (.pointer (some ⟨g, 0, none⟩)) ?_
 rcases hx48 : nextR s34 with ⟨x49, s50⟩
 have hl51 := next_le hx48
 refine rw_call rfl rfl rfl rfl (f := 58) (args := #[.pointer (some ⟨g, 0, none⟩)]) (by simp [go_sem, sEv, sLook, nbeq, i64_w, -List.getD_eq_getElem?_getD]) (next_k w42 g w1.heap.size s34 x49 s50 hx48 ⟨A36, c37, (hb38.keep hk43 (by omega)), (RRow.keep hr39 (hk28.keep hk31 (by omega)) (by decide) hk43), hl40⟩ (by omega)) ?_
 rintro e_ w46 ⟨rfl, ⟨A52, c53, hb54, hr55, hl56⟩, hk47⟩
 refine ⟨_, rfl, ?_⟩
 have hs_w46 := hk47.size
 refine ru (.pointer (some ⟨g20, 2, none⟩)) ?_
 have hb61 := (hk44.keep hk47 (by omega))
 refine rw_store (g := g20) (i := 2) (l := [.int .i64 x49]) (cs' := #[.int .i64 x11, .int .i64 x33, .int .i64 x49, .slice none 0 0, .slice none 0 0, .slice none 0 0]) rfl rfl rfl hb61 rfl (by have e0_ := hb61.cellv (i := 2) (v := (.int .i64 0 : Value)) rfl; have f0_ := hb61.frozen 2; simp [go_sem, sEv, sLook, nbeq, i64_w, -List.getD_eq_getElem?_getD, putCells, e0_, f0_]) ?_
 intro w58 hk59 hk60
 have hs_w58 := hk59.size
 refine rw_end ?_
 refine w_weaken (G' := [(0, .pointer (some ⟨g, 0, none⟩)), (2, .pointer (some ⟨g2, 0, none⟩)), (3, .pointer (some ⟨g20, 0, none⟩))]) ⟨rfl, rfl, rfl, trivial⟩ ?_
 refine w_seq ?_
 refine wsr ?_
 refine rv (.pointer (some ⟨g, 0, none⟩)) ?_
 rcases hx64 : countR 64 s50 with ⟨x65, s66⟩
 obtain ⟨k68, hm69, rfl, hl67⟩ := count_nat hx64 (by decide)
 refine rw_call rfl rfl rfl rfl (f := 59) (args := #[.pointer (some ⟨g, 0, none⟩), .int .i64 64]) (by simp [go_sem, sEv, sLook, nbeq, i64_w, -List.getD_eq_getElem?_getD]) (count_k w58 g w1.heap.size s50 64 _ s66 hx64 ⟨A52, c53, (hb54.keep hk59 (by omega)), (RRow.keep hr55 (hk44.keep hk47 (by omega)) (by decide) hk59), hl56⟩ (by omega)) ?_
 rintro e_ w62 ⟨rfl, ⟨A70, c71, hb72, hr73, hl74⟩, hk63⟩
 refine ⟨_, rfl, ?_⟩
 have hs_w62 := hk63.size
 refine rv (.int .i64 0) ?_
 refine rw_end ?_
 refine w_block ?_
 refine w_loop (fun m_ G W_ => ∃ (j : Nat) (l1 : List Int) (sj : RS) (Ar : Option Addr) (cr : Nat) (Aq : Option Addr) (cq : Nat), j + m_ = k68 ∧ Below w.heap.size w W_ ∧ (Blk W_ g 90 #[.slice Ar sj.xs.length cr, .bool sj.bad]) ∧ (Blk W_ g20 26 #[.int .i64 x11, .int .i64 x33, .int .i64 x49, .slice Aq l1.length cq, .slice none 0 0, .slice none 0 0]) ∧ (Blk W_ g2 26 #[.int .i64 0, .int .i64 0, .int .i64 0, .slice none 0 0, .slice none 0 0, .slice none 0 0]) ∧ (OwnK (Kd.int .i64) 3 W_ w.heap.size w1.heap.size Aq l1.length cq l1) ∧ (RRow W_ Ar sj.xs.length cr sj.xs ∧ Low w1.heap.size Ar) ∧ (sj.xs.length ≤ 100000) ∧ (numsR j s66 = (l1, sj)) ∧ (l1.length = j) ∧ G = [(0, .pointer (some ⟨g, 0, none⟩)), (2, .pointer (some ⟨g2, 0, none⟩)), (3, .pointer (some ⟨g20, 0, none⟩)), (17, .int .i64 ((k68 : Nat) : Int)), (18, .int .i64 ((j : Nat) : Int))]) k68 [(0, .pointer (some ⟨g, 0, none⟩)), (2, .pointer (some ⟨g2, 0, none⟩)), (3, .pointer (some ⟨g20, 0, none⟩)), (17, .int .i64 ((k68 : Nat) : Int)), (18, .int .i64 0)] ⟨0, [], s66, A70, c71, none, 0, by omega, (hk63.below (by omega) (hk59.below (by omega) (hk47.below (by omega) (hk43.below (by omega) (hk31.below (by omega) (hk27.below (by omega) (chain (hk9.below (by omega) (chain hb0 hb4)) hb22))))))), hb72, (hk60.keep hk63 (by omega)), ((((((((hk5.keep hk9 (by omega)).on hb22).keep hk27 (by omega)).keep hk31 (by omega)).keep hk43 (by omega)).keep hk47 (by omega)).keep hk59 (by omega)).keep hk63 (by omega)), (OwnK.nil _ _ _ _ _), ⟨hr73, hl74⟩, (by omega), rfl, rfl, rfl⟩ ⟨rfl, rfl, rfl, rfl, rfl, trivial⟩ ?_
 rintro m_ G w_L76 ⟨j, l1, sj, Ar, cr, Aq, cq, hp77, hB_L76, hf78, hf79, hf80, hf81, hf82, hf83, hf84, hf85, rfl⟩
 have hs_w_L76 := hB_L76.size
 obtain ⟨hrr_w_L76, hlo_w_L76⟩ := hf82
 have hlt_g20_w_L76 := hf79.lt
 have hlt_g2_w_L76 := hf80.lt
 have hX0_0 := hf84
 have hX0_1 := hf85
 refine wsr ?_
 refine rs (.bool (decide (((j : Nat) : Int) < ((k68 : Nat) : Int)))) ?_
 refine rw_end ?_
 refine w_seq ?_
 refine w_cond rfl rfl (fun c87 => ?_) (fun c87 => ?_)
 ·
  have l88 : (((j : Nat) : Int) < ((k68 : Nat) : Int)) := of_decide_eq_true c87
  refine w_skip ?_
  refine w_seq ?_
  refine w_block ?_
  rcases hx89 : nextR sj with ⟨x90, s91⟩
  have hl92 := next_le hx89
  have oA93 : OwnK (Kd.int .i64) 3 w_L76 w.heap.size w1.heap.size Aq l1.length cq l1 := hf81
  have hRD94 : RDB w_L76 g w1.heap.size sj := ⟨Ar, cr, hf78, hrr_w_L76, hlo_w_L76⟩
  have hb95 := hf79
  have hb96 := hf80
  have hST_ := two_st (p := 3) (q := 5) (x := ⟨fun q_ => q_ = g, fun W_ => RDB W_ g w1.heap.size sj ∧ Below w.heap.size w W_, fun W_ => RDB W_ g w1.heap.size s91 ∧ Below w.heap.size w W_⟩) (y := ⟨fun q_ => (Value.slice Aq l1.length cq).ownBlock = some q_, fun W_ => OwnK (Kd.int .i64) 3 W_ w.heap.size w1.heap.size Aq l1.length cq l1 ∧ Below w.heap.size w W_, fun _ => True⟩) (ss := [Is (.pointer (some ⟨g20, 3, none⟩)), Is (.slice Aq l1.length cq), Is (.pointer (some ⟨g, 0, none⟩)), Is (.int .i64 x90), SlcSpec w_L76.heap.size 3 #[.int .i64 x90] 1, (OwnKSpec (Kd.int .i64) 3 w.heap.size w1.heap.size (l1 ++ [x90])), Is (.pointer (some ⟨g20, 3, none⟩))]) (show StabX _ 3 _ from ⟨stab_is, stab_is, stab_is, stab_cons (stab_slc (fun q_ h_ hs_ => by have e_ : q_ = g := hs_; omega)) (stab_cons (stab_own (fun q_ h_ hs_ => by have e_ : q_ = g := hs_; omega)) (stab_cons stab_is stab_nil))⟩) (show StabX _ 5 _ from ⟨stab_is, stab_is, stab_is, stab_is, stab_slc (fun q_ h_ hs_ => by have q2_ := own_lt (d := (Kd.int .i64)) oA93 hs_; omega), stab_cons stab_is stab_nil⟩)
  have hFF_ := two_ff (p := 3) (q := 5) (x := ⟨fun q_ => q_ = g, fun W_ => RDB W_ g w1.heap.size sj ∧ Below w.heap.size w W_, fun W_ => RDB W_ g w1.heap.size s91 ∧ Below w.heap.size w W_⟩) (y := ⟨fun q_ => (Value.slice Aq l1.length cq).ownBlock = some q_, fun W_ => OwnK (Kd.int .i64) 3 W_ w.heap.size w1.heap.size Aq l1.length cq l1 ∧ Below w.heap.size w W_, fun _ => True⟩) (fun X_ Y_ hk_ hq_ => ⟨fun h_ => ⟨OwnK.step h_.1 (fun q_ hq2_ hlt_ => hk_.2 q_ hlt_ (fun e_ => by have e2_ : q_ = g := e_; omega)), below_k h_.2 hk_ hq_ (fun q_ e_ => by have e2_ : q_ = g := e_; omega)⟩, fun _ => trivial⟩) (fun X_ Y_ hk_ hq_ => ⟨fun h_ => ⟨RDB.k h_.1 (by omega) hk_ (fun q_ hs_ => (own_lt (d := (Kd.int .i64)) oA93 hs_).1), below_k h_.2 hk_ hq_ (fun q_ hs_ => by have q2_ := own_lt (d := (Kd.int .i64)) oA93 hs_; omega)⟩, fun h_ => ⟨RDB.k h_.1 (by omega) hk_ (fun q_ hs_ => (own_lt (d := (Kd.int .i64)) oA93 hs_).1), below_k h_.2 hk_ hq_ (fun q_ hs_ => by have q2_ := own_lt (d := (Kd.int .i64)) oA93 hs_; omega)⟩⟩)
  have hF_ := two_cases (p := 3) (q := 5) (x := ⟨fun q_ => q_ = g, fun W_ => RDB W_ g w1.heap.size sj ∧ Below w.heap.size w W_, fun W_ => RDB W_ g w1.heap.size s91 ∧ Below w.heap.size w W_⟩) (y := ⟨fun q_ => (Value.slice Aq l1.length cq).ownBlock = some q_, fun W_ => OwnK (Kd.int .i64) 3 W_ w.heap.size w1.heap.size Aq l1.length cq l1 ∧ Below w.heap.size w W_, fun _ => True⟩) (P := fun _ z => ∀ X_ Y_, Below X_.heap.size X_ Y_ → (z.F0 X_ → z.F0 Y_) ∧ (z.F1 X_ → z.F1 Y_)) (fun X_ Y_ hb_ => ⟨fun h_ => ⟨h_.1.on hb_, chain h_.2 hb_⟩, fun h_ => ⟨h_.1.on hb_, chain h_.2 hb_⟩⟩) (fun X_ Y_ hb_ => ⟨fun h_ => ⟨OwnK.on (d := (Kd.int .i64)) h_.1 hb_, chain h_.2 hb_⟩, fun _ => trivial⟩)
  have hI_ := two_cases (p := 3) (q := 5) (x := ⟨fun q_ => q_ = g, fun W_ => RDB W_ g w1.heap.size sj ∧ Below w.heap.size w W_, fun W_ => RDB W_ g w1.heap.size s91 ∧ Below w.heap.size w W_⟩) (y := ⟨fun q_ => (Value.slice Aq l1.length cq).ownBlock = some q_, fun W_ => OwnK (Kd.int .i64) 3 W_ w.heap.size w1.heap.size Aq l1.length cq l1 ∧ Below w.heap.size w W_, fun _ => True⟩) (P := fun _ z => z.F0 w_L76.drew) ⟨hRD94.on (below_drew _), chain hB_L76 (below_drew _)⟩ ⟨OwnK.on (d := (Kd.int .i64)) oA93 (below_drew _), chain hB_L76 (below_drew _)⟩
  refine w_drawo (M := [0, 1, 0, 4, 12, 31, 63, 127]) (ss := [Is (.pointer (some ⟨g20, 3, none⟩)), Is (.slice Aq l1.length cq), Is (.pointer (some ⟨g, 0, none⟩)), Is (.int .i64 x90), SlcSpec w_L76.heap.size 3 #[.int .i64 x90] 1, (OwnKSpec (Kd.int .i64) 3 w.heap.size w1.heap.size (l1 ++ [x90])), Is (.pointer (some ⟨g20, 3, none⟩))]) (two 3 5 ⟨fun q_ => q_ = g, fun W_ => RDB W_ g w1.heap.size sj ∧ Below w.heap.size w W_, fun W_ => RDB W_ g w1.heap.size s91 ∧ Below w.heap.size w W_⟩ ⟨fun q_ => (Value.slice Aq l1.length cq).ownBlock = some q_, fun W_ => OwnK (Kd.int .i64) 3 W_ w.heap.size w1.heap.size Aq l1.length cq l1 ∧ Below w.heap.size w W_, fun _ => True⟩) 7 rfl (by decide +kernel) (two_cases (P := fun j _ => j < 7) (by decide) (by decide)) hST_ hF_ hFF_ hI_ ?_
  refine v_is (by kernel_rfl) (.pointer (some ⟨g20, 3, none⟩)) rfl rfl rfl rfl (fun W_ hW_ h1_ F_ => by simp [go_sem, sEv, sLook, nbeq, i64_w, -List.getD_eq_getElem?_getD, Try.underlying26]) ?_
  refine v_is (by kernel_rfl) (.slice Aq l1.length cq) rfl rfl rfl rfl (fun W_ hW_ h1_ F_ => by have eb_ := Blk.kept hb95 (drew_kept hW_) (fun hs_ => (mu_two hs_).elim (fun e_ => by have e2_ : g20 = g := e_; omega) (own_ne_blk (d := (Kd.int .i64)) oA93 hb95 (.inr (by decide)))); have e0_ := eb_.cellv (i := 3) (v := (.slice Aq l1.length cq : Value)) rfl; simp [go_sem, sEv, sLook, nbeq, i64_w, -List.getD_eq_getElem?_getD, e0_, Try.underlying22]) ?_
  refine v_is (by kernel_rfl) (.pointer (some ⟨g, 0, none⟩)) rfl rfl rfl rfl (fun W_ hW_ h1_ F_ => rfl) ?_
  refine v_mut (x := ⟨fun q_ => q_ = g, fun W_ => RDB W_ g w1.heap.size sj ∧ Below w.heap.size w W_, fun W_ => RDB W_ g w1.heap.size s91 ∧ Below w.heap.size w W_⟩) rfl (Is (.int .i64 x90)) (f := 58) (args := #[.pointer (some ⟨g, 0, none⟩)]) rfl rfl rfl rfl (fun W_ => by simp [go_sem, sEv, sLook, nbeq, i64_w, -List.getD_eq_getElem?_getD]) (fun W_ hW_ h0_ F_ => (next_k W_ g w1.heap.size sj x90 s91 hx89 h0_.1 (by omega)).mono (by rintro e_ w_ ⟨rfl, h2_, h3_⟩; exact ⟨_, rfl, rfl, kg_kept (kg_keep h3_), ⟨h2_, h3_.below hg0 h0_.2⟩, h3_.os, h3_.tape, h3_.output⟩)) ?_
  rintro _ rfl
  refine v_val (by kernel_rfl) (SlcSpec w_L76.heap.size 3 #[.int .i64 x90] 1) rfl rfl rfl rfl (fun W_ hW_ h1_ F_ => slc_gives _ _ _ _ (drew_kept hW_).1 (by kernel_rfl)) ?_
  rintro _ ⟨g97, rfl⟩
  refine v_app (x := ⟨fun q_ => (Value.slice Aq l1.length cq).ownBlock = some q_, fun W_ => OwnK (Kd.int .i64) 3 W_ w.heap.size w1.heap.size Aq l1.length cq l1 ∧ Below w.heap.size w W_, fun _ => True⟩) rfl (OwnKSpec (Kd.int .i64) 3 w.heap.size w1.heap.size (l1 ++ [x90])) rfl rfl rfl rfl (fun W_ hW_ h0_ F_ => own_app_o (d := (Kd.int .i64)) w.heap.size w1.heap.size (.tmp 21) (.tmp 24) 22 3 (.int .i64 0) 8 rfl (by kernel_rfl) (by kernel_rfl) rfl (show 0 < 1 by decide) (by decide) (fun _ _ h => h) rfl rfl (by have q2_ := (drew_kept hW_).1; omega) h0_ (OwnK.C (d := (Kd.int .i64)) (scal_own (e := 3) (cap := 1) (xs := ([x90] : List Int)) 0 (slc_fact (F_ 4 _ _ rfl rfl)).2 (Nat.zero_le _) rfl rfl (by simp))) h0_.2.size (by first | omega | (simp only [List.length_cons, List.length_nil]; omega))) ?_
  rintro _ ⟨A98, c99, rfl, hle100⟩
  refine v_is (by kernel_rfl) (.pointer (some ⟨g20, 3, none⟩)) rfl rfl rfl rfl (fun W_ hW_ h1_ F_ => by simp [go_sem, sEv, sLook, nbeq, i64_w, -List.getD_eq_getElem?_getD, Try.underlying26]) ?_
  refine v_tail ?_
  intro w101 hK102_ h103 F104
  have hK102 := drew_kept hK102_
  obtain ⟨⟨A108, c109, hb110, hr111, hl112⟩, hB106⟩ := h103 3 _ rfl
  have hs_w101 := hB106.size
  have hgs_w101 := hK102.1
  have hO107 : OwnK (Kd.int .i64) 3 w101 w.heap.size w1.heap.size A98 (l1 ++ [x90]).length c99 (l1 ++ [x90]) := ownk_fact (F104 5 (OwnKSpec (Kd.int .i64) 3 w.heap.size w1.heap.size (l1 ++ [x90])) (.slice A98 (l1 ++ [x90]).length c99) (by kernel_rfl))
  have hk113 := Blk.kept hb95 hK102 (fun hs_ => (mu_two hs_).elim (fun e_ => by have e2_ : g20 = g := e_; omega) (own_ne_blk (d := (Kd.int .i64)) oA93 hb95 (.inr (by decide))))
  have hk114 := Blk.kept hb96 hK102 (fun hs_ => (mu_two hs_).elim (fun e_ => by have e2_ : g2 = g := e_; omega) (own_ne_blk (d := (Kd.int .i64)) oA93 hb96 (.inr (by decide))))
  clear F104 hST_ hFF_ hF_ hI_
  have hb119 := hk113
  refine rw_store (g := g20) (i := 3) (l := [.slice A98 ((l1 ++ [x90]).length) c99]) (cs' := #[.int .i64 x11, .int .i64 x33, .int .i64 x49, .slice A98 ((l1 ++ [x90]).length) c99, .slice none 0 0, .slice none 0 0]) rfl rfl rfl hb119 rfl (by have e0_ := hb119.cellv (i := 3) (v := (.slice Aq l1.length cq : Value)) rfl; have f0_ := hb119.frozen 3; simp [go_sem, sEv, sLook, nbeq, i64_w, -List.getD_eq_getElem?_getD, putCells, e0_, f0_, Try.underlying22]) ?_
  intro w116 hk117 hk118
  have hs_w116 := hk117.size
  refine rw_end ?_
  refine w_weaken (G' := [(0, .pointer (some ⟨g, 0, none⟩)), (2, .pointer (some ⟨g2, 0, none⟩)), (3, .pointer (some ⟨g20, 0, none⟩)), (17, .int .i64 ((k68 : Nat) : Int)), (18, .int .i64 ((j : Nat) : Int))]) ⟨rfl, rfl, rfl, rfl, rfl, trivial⟩ ?_
  refine w_blk ?_
  refine w_region ?_
  refine rz (.int .i64 ((j + 1 : Nat) : Int)) (by simp [go_sem, sEv, sLook, nbeq, i64_w, -List.getD_eq_getElem?_getD]; exact wrap_id (by omega) (by omega)) ?_
  refine rv (.int .i64 ((j + 1 : Nat) : Int)) ?_
  refine rw_end ?_
  exact w_back (m_ - 1) [(0, .pointer (some ⟨g, 0, none⟩)), (2, .pointer (some ⟨g2, 0, none⟩)), (3, .pointer (some ⟨g20, 0, none⟩)), (17, .int .i64 ((k68 : Nat) : Int)), (18, .int .i64 ((j + 1 : Nat) : Int))] (by omega) ⟨rfl, rfl, rfl, rfl, rfl, trivial⟩ ⟨(j + 1), (l1 ++ [x90]), s91, A108, c109, A98, c99, by omega, (hk117.below (by omega) hB106), (hb110.keep hk117 (by omega)), hk118, (hk114.keep hk117 (by omega)), (OwnK.mono (d := (Kd.int .i64)) (own_keep (d := (Kd.int .i64)) hO107 hk113 (by decide) hk117) (by omega)), ⟨(RRow.keep hr111 hk113 (by decide) hk117), hl112⟩, (by omega), (numsR_step hX0_0 hx89), (by simp only [List.length_append, List.length_cons, List.length_nil]; omega), rfl⟩
 ·
  have l120 : ¬ (((j : Nat) : Int) < ((k68 : Nat) : Int)) := of_decide_eq_false c87
  refine w_exit rfl ?_
  refine w_seq ?_
  refine wsr ?_
  refine rv (.pointer (some ⟨g, 0, none⟩)) ?_
  rcases hx123 : countR 16 sj with ⟨x124, s125⟩
  obtain ⟨k127, hm128, rfl, hl126⟩ := count_nat hx123 (by decide)
  refine rw_call rfl rfl rfl rfl (f := 59) (args := #[.pointer (some ⟨g, 0, none⟩), .int .i64 16]) (by simp [go_sem, sEv, sLook, nbeq, i64_w, -List.getD_eq_getElem?_getD]) (count_k w_L76 g w1.heap.size sj 16 _ s125 hx123 ⟨Ar, cr, hf78, hrr_w_L76, hlo_w_L76⟩ (by omega)) ?_
  rintro e_ w121 ⟨rfl, ⟨A129, c130, hb131, hr132, hl133⟩, hk122⟩
  refine ⟨_, rfl, ?_⟩
  have hs_w121 := hk122.size
  refine rv (.int .i64 0) ?_
  refine rw_end ?_
  refine w_block ?_
  have hE0_ : numsR k68 s66 = (l1, sj) := by rw [← (by omega : j = k68)]; exact hX0_0
  refine w_loop (fun m_ G W_ => ∃ (j2 : Nat) (l2 : List OpL) (sk : RS) (Ar2 : Option Addr) (cr2 : Nat) (Ap : Option Addr) (cp : Nat), j2 + m_ = k127 ∧ Below w.heap.size w W_ ∧ (Blk W_ g 90 #[.slice Ar2 sk.xs.length cr2, .bool sk.bad]) ∧ (Blk W_ g20 26 #[.int .i64 x11, .int .i64 x33, .int .i64 x49, .slice Aq l1.length cq, .slice Ap l2.length cp, .slice none 0 0]) ∧ (Blk W_ g2 26 #[.int .i64 0, .int .i64 0, .int .i64 0, .slice none 0 0, .slice none 0 0, .slice none 0 0]) ∧ (OwnK (Kd.int .i64) 3 W_ w.heap.size w1.heap.size Aq l1.length cq l1) ∧ (OwnK kOp 73 W_ w.heap.size w1.heap.size Ap l2.length cp l2) ∧ (RRow W_ Ar2 sk.xs.length cr2 sk.xs ∧ Low w1.heap.size Ar2) ∧ (sk.xs.length ≤ 100000) ∧ (opsR j2 s125 = (l2, sk)) ∧ (l2.length = j2) ∧ G = [(0, .pointer (some ⟨g, 0, none⟩)), (2, .pointer (some ⟨g2, 0, none⟩)), (3, .pointer (some ⟨g20, 0, none⟩)), (29, .int .i64 ((k127 : Nat) : Int)), (30, .int .i64 ((j2 : Nat) : Int))]) k127 [(0, .pointer (some ⟨g, 0, none⟩)), (2, .pointer (some ⟨g2, 0, none⟩)), (3, .pointer (some ⟨g20, 0, none⟩)), (29, .int .i64 ((k127 : Nat) : Int)), (30, .int .i64 0)] ⟨0, [], s125, A129, c130, none, 0, by omega, (hk122.below (by omega) hB_L76), hb131, (hf79.keep hk122 (by omega)), (hf80.keep hk122 (by omega)), (OwnK.mono (d := (Kd.int .i64)) (own_keep (d := (Kd.int .i64)) hf81 hf78 (by decide) hk122) (by omega)), (OwnK.nil _ _ _ _ _), ⟨hr132, hl133⟩, (by omega), rfl, rfl, rfl⟩ ⟨rfl, rfl, rfl, rfl, rfl, trivial⟩ ?_
  rintro m2_ G w_L135 ⟨j2, l2, sk, Ar2, cr2, Ap, cp, hp136, hB_L135, hf137, hf138, hf139, hf140, hf141, hf142, hf143, hf144, hf145, rfl⟩
  have hs_w_L135 := hB_L135.size
  obtain ⟨hrr_w_L135, hlo_w_L135⟩ := hf142
  have hlt_g20_w_L135 := hf138.lt
  have hlt_g2_w_L135 := hf139.lt
  have hX1_0 := hf144
  have hX1_1 := hf145
  refine wsr ?_
  refine rs (.bool (decide (((j2 : Nat) : Int) < ((k127 : Nat) : Int)))) ?_
  refine rw_end ?_
  refine w_seq ?_
  refine w_cond rfl rfl (fun c147 => ?_) (fun c147 => ?_)
  ·
   have l148 : (((j2 : Nat) : Int) < ((k127 : Nat) : Int)) := of_decide_eq_true c147
   refine w_skip ?_
   refine w_seq ?_
   refine w_block ?_
   refine wsr ?_
   refine rw_new (cs := #[.int .i64 0, .int .i64 0, .int .i64 0, .int .i64 0, .int .i64 0]) (t := 115) (fun g => .pointer (some ⟨g, 0, none⟩)) rfl rfl rfl rfl (by kernel_rfl) ?_
   intro g149 w150 hg154 hz153 hb151 hk152
   have hs_w150 := hb151.size
   refine rw_end ?_
   refine w_seq ?_
   refine wsr ?_
   refine rv (.int .i64 0) ?_
   refine rw_end ?_
   refine w_block ?_
   refine w_loop (fun m_ G W_ => ∃ (i fa fb fc fd fe : Int) (si : RS) (Ai : Option Addr) (ci : Nat), (m_ : Int) + i = 5 ∧ 0 ≤ i ∧ Below w.heap.size w W_ ∧ Blk W_ g 90 #[.slice Ai si.xs.length ci, .bool si.bad] ∧ RRow W_ Ai si.xs.length ci si.xs ∧ Low w1.heap.size Ai ∧ si.xs.length ≤ 100000 ∧ Blk W_ g20 26 #[.int .i64 x11, .int .i64 x33, .int .i64 x49, .slice Aq l1.length cq, .slice Ap l2.length cp, .slice none 0 0] ∧ Blk W_ g2 26 #[.int .i64 0, .int .i64 0, .int .i64 0, .slice none 0 0, .slice none 0 0, .slice none 0 0] ∧ Blk W_ g149 115 #[.int .i64 fa, .int .i64 fb, .int .i64 fc, .int .i64 fd, .int .i64 fe] ∧ OwnK (Kd.int .i64) 3 W_ w.heap.size w1.heap.size Aq l1.length cq l1 ∧ OwnK kOp 73 W_ w.heap.size w1.heap.size Ap l2.length cp l2 ∧ OF i.toNat sk fa fb fc fd fe si ∧ G = [(0, .pointer (some ⟨g, 0, none⟩)), (2, .pointer (some ⟨g2, 0, none⟩)), (3, .pointer (some ⟨g20, 0, none⟩)), (4, .pointer (some ⟨g149, 0, none⟩)), (29, .int .i64 ((k127 : Nat) : Int)), (30, .int .i64 ((j2 : Nat) : Int)), (32, .int .i64 i)]) 5 [(0, .pointer (some ⟨g, 0, none⟩)), (2, .pointer (some ⟨g2, 0, none⟩)), (3, .pointer (some ⟨g20, 0, none⟩)), (4, .pointer (some ⟨g149, 0, none⟩)), (29, .int .i64 ((k127 : Nat) : Int)), (30, .int .i64 ((j2 : Nat) : Int)), (32, .int .i64 0)] ⟨0, 0, 0, 0, 0, 0, sk, Ar2, cr2, by omega, by omega, (chain hB_L135 hb151), (hf137.on hb151), (RRow.on hrr_w_L135 hb151), hlo_w_L135, by omega, (hf138.on hb151), (hf139.on hb151), hk152, (OwnK.on (d := (Kd.int .i64)) hf140 hb151), (OwnK.on (d := kOp) hf141 hb151), (of_0 _), rfl⟩ ⟨rfl, rfl, rfl, rfl, rfl, rfl, rfl, trivial⟩ ?_
   rintro m3_ G w_i ⟨i, fa, fb, fc, fd, fe, si, Ai, ci, hmi_, hi0_, hB_i, hbg_i, hrr_i, hlo_i, hls_i, hb3_i, hb2_i, hb4_i, hO1_i, hO2_i, hOF_, rfl⟩
   have hs_w_i := hB_i.size
   have hlt3_i := hb3_i.lt
   have hlt2_i := hb2_i.lt
   have hlt4_i := hb4_i.lt
   rcases (by omega : i = 0 ∨ i = 1 ∨ i = 2 ∨ i = 3 ∨ i = 4 ∨ i = 5) with rfl | rfl | rfl | rfl | rfl | rfl
   ·
    refine wsr ?_
    refine rs (.bool true) ?_
    refine rw_end ?_
    refine w_seq ?_
    refine w_cond_t rfl rfl rfl ?_
    refine w_skip ?_
    refine w_seq ?_
    refine w_block ?_
    refine wsr ?_
    refine rv (.int .i64 0) ?_
    refine rv (.int .i64 0) ?_
    refine rw_end ?_
    refine w_region ?_
    refine rv (.int .i64 0) ?_
    refine rv (.pointer (some ⟨g, 0, none⟩)) ?_
    rcases hx158 : nextR si with ⟨x159, s160⟩
    have hl161 := next_le hx158
    refine rw_call rfl rfl rfl rfl (f := 58) (args := #[.pointer (some ⟨g, 0, none⟩)]) (by simp [go_sem, sEv, sLook, nbeq, i64_w, -List.getD_eq_getElem?_getD]) (next_k w_i g w1.heap.size si x159 s160 hx158 ⟨Ai, ci, hbg_i, hrr_i, hlo_i⟩ (by omega)) ?_
    rintro e_ w156 ⟨rfl, ⟨A162, c163, hb164, hr165, hl166⟩, hk157⟩
    refine ⟨_, rfl, ?_⟩
    have hs_w156 := hk157.size
    refine rz (.pointer (some ⟨g149, 0, none⟩)) (by first | kernel_rfl | simp [go_sem, sEv, sLook, nbeq, i64_w, -List.getD_eq_getElem?_getD, Try.underlying115]) ?_
    have hb171 := (hb4_i.keep hk157 (by omega))
    refine rw_store (g := g149) (i := 0) (l := [.int .i64 x159]) (cs' := #[.int .i64 x159, .int .i64 fb, .int .i64 fc, .int .i64 fd, .int .i64 fe]) rfl rfl rfl hb171 rfl (by have e0_ := hb171.cellv (i := 0) (v := (.int .i64 fa : Value)) rfl; have f0_ := hb171.frozen 0; simp [go_sem, sEv, sLook, nbeq, i64_w, -List.getD_eq_getElem?_getD, putCells, e0_, f0_]) ?_
    intro w168 hk169 hk170
    have hs_w168 := hk169.size
    refine rw_end ?_
    refine w_weaken (G' := [(0, .pointer (some ⟨g, 0, none⟩)), (2, .pointer (some ⟨g2, 0, none⟩)), (3, .pointer (some ⟨g20, 0, none⟩)), (4, .pointer (some ⟨g149, 0, none⟩)), (29, .int .i64 ((k127 : Nat) : Int)), (30, .int .i64 ((j2 : Nat) : Int)), (32, .int .i64 0)]) ⟨rfl, rfl, rfl, rfl, rfl, rfl, rfl, trivial⟩ ?_
    refine w_blk ?_
    refine w_region ?_
    refine rz (.int .i64 1) (by kernel_rfl) ?_
    refine rv (.int .i64 1) ?_
    refine rw_end ?_
    exact w_back (m3_ - 1) [(0, .pointer (some ⟨g, 0, none⟩)), (2, .pointer (some ⟨g2, 0, none⟩)), (3, .pointer (some ⟨g20, 0, none⟩)), (4, .pointer (some ⟨g149, 0, none⟩)), (29, .int .i64 ((k127 : Nat) : Int)), (30, .int .i64 ((j2 : Nat) : Int)), (32, .int .i64 1)] (by omega) ⟨rfl, rfl, rfl, rfl, rfl, rfl, rfl, trivial⟩ ⟨1, x159, fb, fc, fd, fe, s160, A162, c163, by omega, by omega, (hk169.below (by omega) (hk157.below (by omega) hB_i)), (hb164.keep hk169 (by omega)), (RRow.keep hr165 (hb4_i.keep hk157 (by omega)) (by decide) hk169), hl166, by omega, ((hb3_i.keep hk157 (by omega)).keep hk169 (by omega)), ((hb2_i.keep hk157 (by omega)).keep hk169 (by omega)), hk170, (own_keep (d := (Kd.int .i64)) (own_keep (d := (Kd.int .i64)) hO1_i hbg_i (by decide) hk157) (hb4_i.keep hk157 (by omega)) (by decide) hk169), (own_keep (d := kOp) (own_keep (d := kOp) hO2_i hbg_i (by decide) hk157) (hb4_i.keep hk157 (by omega)) (by decide) hk169), (of_1 hOF_ hx158), rfl⟩
   ·
    refine wsr ?_
    refine rs (.bool true) ?_
    refine rw_end ?_
    refine w_seq ?_
    refine w_cond_t rfl rfl rfl ?_
    refine w_skip ?_
    refine w_seq ?_
    refine w_block ?_
    refine wsr ?_
    refine rv (.int .i64 1) ?_
    refine rv (.int .i64 1) ?_
    refine rw_end ?_
    refine w_region ?_
    refine rv (.int .i64 1) ?_
    refine rv (.pointer (some ⟨g, 0, none⟩)) ?_
    rcases hx175 : nextR si with ⟨x176, s177⟩
    have hl178 := next_le hx175
    refine rw_call rfl rfl rfl rfl (f := 58) (args := #[.pointer (some ⟨g, 0, none⟩)]) (by simp [go_sem, sEv, sLook, nbeq, i64_w, -List.getD_eq_getElem?_getD]) (next_k w_i g w1.heap.size si x176 s177 hx175 ⟨Ai, ci, hbg_i, hrr_i, hlo_i⟩ (by omega)) ?_
    rintro e_ w173 ⟨rfl, ⟨A179, c180, hb181, hr182, hl183⟩, hk174⟩
    refine ⟨_, rfl, ?_⟩
    have hs_w173 := hk174.size
    refine rz (.pointer (some ⟨g149, 1, none⟩)) (by first | kernel_rfl | simp [go_sem, sEv, sLook, nbeq, i64_w, -List.getD_eq_getElem?_getD, Try.underlying115]) ?_
    have hb188 := (hb4_i.keep hk174 (by omega))
    refine rw_store (g := g149) (i := 1) (l := [.int .i64 x176]) (cs' := #[.int .i64 fa, .int .i64 x176, .int .i64 fc, .int .i64 fd, .int .i64 fe]) rfl rfl rfl hb188 rfl (by have e0_ := hb188.cellv (i := 1) (v := (.int .i64 fb : Value)) rfl; have f0_ := hb188.frozen 1; simp [go_sem, sEv, sLook, nbeq, i64_w, -List.getD_eq_getElem?_getD, putCells, e0_, f0_]) ?_
    intro w185 hk186 hk187
    have hs_w185 := hk186.size
    refine rw_end ?_
    refine w_weaken (G' := [(0, .pointer (some ⟨g, 0, none⟩)), (2, .pointer (some ⟨g2, 0, none⟩)), (3, .pointer (some ⟨g20, 0, none⟩)), (4, .pointer (some ⟨g149, 0, none⟩)), (29, .int .i64 ((k127 : Nat) : Int)), (30, .int .i64 ((j2 : Nat) : Int)), (32, .int .i64 1)]) ⟨rfl, rfl, rfl, rfl, rfl, rfl, rfl, trivial⟩ ?_
    refine w_blk ?_
    refine w_region ?_
    refine rz (.int .i64 2) (by kernel_rfl) ?_
    refine rv (.int .i64 2) ?_
    refine rw_end ?_
    exact w_back (m3_ - 1) [(0, .pointer (some ⟨g, 0, none⟩)), (2, .pointer (some ⟨g2, 0, none⟩)), (3, .pointer (some ⟨g20, 0, none⟩)), (4, .pointer (some ⟨g149, 0, none⟩)), (29, .int .i64 ((k127 : Nat) : Int)), (30, .int .i64 ((j2 : Nat) : Int)), (32, .int .i64 2)] (by omega) ⟨rfl, rfl, rfl, rfl, rfl, rfl, rfl, trivial⟩ ⟨2, fa, x176, fc, fd, fe, s177, A179, c180, by omega, by omega, (hk186.below (by omega) (hk174.below (by omega) hB_i)), (hb181.keep hk186 (by omega)), (RRow.keep hr182 (hb4_i.keep hk174 (by omega)) (by decide) hk186), hl183, by omega, ((hb3_i.keep hk174 (by omega)).keep hk186 (by omega)), ((hb2_i.keep hk174 (by omega)).keep hk186 (by omega)), hk187, (own_keep (d := (Kd.int .i64)) (own_keep (d := (Kd.int .i64)) hO1_i hbg_i (by decide) hk174) (hb4_i.keep hk174 (by omega)) (by decide) hk186), (own_keep (d := kOp) (own_keep (d := kOp) hO2_i hbg_i (by decide) hk174) (hb4_i.keep hk174 (by omega)) (by decide) hk186), (of_2 hOF_ hx175), rfl⟩
   ·
    refine wsr ?_
    refine rs (.bool true) ?_
    refine rw_end ?_
    refine w_seq ?_
    refine w_cond_t rfl rfl rfl ?_
    refine w_skip ?_
    refine w_seq ?_
    refine w_block ?_
    refine wsr ?_
    refine rv (.int .i64 2) ?_
    refine rv (.int .i64 2) ?_
    refine rw_end ?_
    refine w_region ?_
    refine rv (.int .i64 2) ?_
    refine rv (.pointer (some ⟨g, 0, none⟩)) ?_
    rcases hx192 : nextR si with ⟨x193, s194⟩
    have hl195 := next_le hx192
    refine rw_call rfl rfl rfl rfl (f := 58) (args := #[.pointer (some ⟨g, 0, none⟩)]) (by simp [go_sem, sEv, sLook, nbeq, i64_w, -List.getD_eq_getElem?_getD]) (next_k w_i g w1.heap.size si x193 s194 hx192 ⟨Ai, ci, hbg_i, hrr_i, hlo_i⟩ (by omega)) ?_
    rintro e_ w190 ⟨rfl, ⟨A196, c197, hb198, hr199, hl200⟩, hk191⟩
    refine ⟨_, rfl, ?_⟩
    have hs_w190 := hk191.size
    refine rz (.pointer (some ⟨g149, 2, none⟩)) (by first | kernel_rfl | simp [go_sem, sEv, sLook, nbeq, i64_w, -List.getD_eq_getElem?_getD, Try.underlying115]) ?_
    have hb205 := (hb4_i.keep hk191 (by omega))
    refine rw_store (g := g149) (i := 2) (l := [.int .i64 x193]) (cs' := #[.int .i64 fa, .int .i64 fb, .int .i64 x193, .int .i64 fd, .int .i64 fe]) rfl rfl rfl hb205 rfl (by have e0_ := hb205.cellv (i := 2) (v := (.int .i64 fc : Value)) rfl; have f0_ := hb205.frozen 2; simp [go_sem, sEv, sLook, nbeq, i64_w, -List.getD_eq_getElem?_getD, putCells, e0_, f0_]) ?_
    intro w202 hk203 hk204
    have hs_w202 := hk203.size
    refine rw_end ?_
    refine w_weaken (G' := [(0, .pointer (some ⟨g, 0, none⟩)), (2, .pointer (some ⟨g2, 0, none⟩)), (3, .pointer (some ⟨g20, 0, none⟩)), (4, .pointer (some ⟨g149, 0, none⟩)), (29, .int .i64 ((k127 : Nat) : Int)), (30, .int .i64 ((j2 : Nat) : Int)), (32, .int .i64 2)]) ⟨rfl, rfl, rfl, rfl, rfl, rfl, rfl, trivial⟩ ?_
    refine w_blk ?_
    refine w_region ?_
    refine rz (.int .i64 3) (by kernel_rfl) ?_
    refine rv (.int .i64 3) ?_
    refine rw_end ?_
    exact w_back (m3_ - 1) [(0, .pointer (some ⟨g, 0, none⟩)), (2, .pointer (some ⟨g2, 0, none⟩)), (3, .pointer (some ⟨g20, 0, none⟩)), (4, .pointer (some ⟨g149, 0, none⟩)), (29, .int .i64 ((k127 : Nat) : Int)), (30, .int .i64 ((j2 : Nat) : Int)), (32, .int .i64 3)] (by omega) ⟨rfl, rfl, rfl, rfl, rfl, rfl, rfl, trivial⟩ ⟨3, fa, fb, x193, fd, fe, s194, A196, c197, by omega, by omega, (hk203.below (by omega) (hk191.below (by omega) hB_i)), (hb198.keep hk203 (by omega)), (RRow.keep hr199 (hb4_i.keep hk191 (by omega)) (by decide) hk203), hl200, by omega, ((hb3_i.keep hk191 (by omega)).keep hk203 (by omega)), ((hb2_i.keep hk191 (by omega)).keep hk203 (by omega)), hk204, (own_keep (d := (Kd.int .i64)) (own_keep (d := (Kd.int .i64)) hO1_i hbg_i (by decide) hk191) (hb4_i.keep hk191 (by omega)) (by decide) hk203), (own_keep (d := kOp) (own_keep (d := kOp) hO2_i hbg_i (by decide) hk191) (hb4_i.keep hk191 (by omega)) (by decide) hk203), (of_3 hOF_ hx192), rfl⟩
   ·
    refine wsr ?_
    refine rs (.bool true) ?_
    refine rw_end ?_
    refine w_seq ?_
    refine w_cond_t rfl rfl rfl ?_
    refine w_skip ?_
    refine w_seq ?_
    refine w_block ?_
    refine wsr ?_
    refine rv (.int .i64 3) ?_
    refine rv (.int .i64 3) ?_
    refine rw_end ?_
    refine w_region ?_
    refine rv (.int .i64 3) ?_
    refine rv (.pointer (some ⟨g, 0, none⟩)) ?_
    rcases hx209 : nextR si with ⟨x210, s211⟩
    have hl212 := next_le hx209
    refine rw_call rfl rfl rfl rfl (f := 58) (args := #[.pointer (some ⟨g, 0, none⟩)]) (by simp [go_sem, sEv, sLook, nbeq, i64_w, -List.getD_eq_getElem?_getD]) (next_k w_i g w1.heap.size si x210 s211 hx209 ⟨Ai, ci, hbg_i, hrr_i, hlo_i⟩ (by omega)) ?_
    rintro e_ w207 ⟨rfl, ⟨A213, c214, hb215, hr216, hl217⟩, hk208⟩
    refine ⟨_, rfl, ?_⟩
    have hs_w207 := hk208.size
    refine rz (.pointer (some ⟨g149, 3, none⟩)) (by first | kernel_rfl | simp [go_sem, sEv, sLook, nbeq, i64_w, -List.getD_eq_getElem?_getD, Try.underlying115]) ?_
    have hb222 := (hb4_i.keep hk208 (by omega))
    refine rw_store (g := g149) (i := 3) (l := [.int .i64 x210]) (cs' := #[.int .i64 fa, .int .i64 fb, .int .i64 fc, .int .i64 x210, .int .i64 fe]) rfl rfl rfl hb222 rfl (by have e0_ := hb222.cellv (i := 3) (v := (.int .i64 fd : Value)) rfl; have f0_ := hb222.frozen 3; simp [go_sem, sEv, sLook, nbeq, i64_w, -List.getD_eq_getElem?_getD, putCells, e0_, f0_]) ?_
    intro w219 hk220 hk221
    have hs_w219 := hk220.size
    refine rw_end ?_
    refine w_weaken (G' := [(0, .pointer (some ⟨g, 0, none⟩)), (2, .pointer (some ⟨g2, 0, none⟩)), (3, .pointer (some ⟨g20, 0, none⟩)), (4, .pointer (some ⟨g149, 0, none⟩)), (29, .int .i64 ((k127 : Nat) : Int)), (30, .int .i64 ((j2 : Nat) : Int)), (32, .int .i64 3)]) ⟨rfl, rfl, rfl, rfl, rfl, rfl, rfl, trivial⟩ ?_
    refine w_blk ?_
    refine w_region ?_
    refine rz (.int .i64 4) (by kernel_rfl) ?_
    refine rv (.int .i64 4) ?_
    refine rw_end ?_
    exact w_back (m3_ - 1) [(0, .pointer (some ⟨g, 0, none⟩)), (2, .pointer (some ⟨g2, 0, none⟩)), (3, .pointer (some ⟨g20, 0, none⟩)), (4, .pointer (some ⟨g149, 0, none⟩)), (29, .int .i64 ((k127 : Nat) : Int)), (30, .int .i64 ((j2 : Nat) : Int)), (32, .int .i64 4)] (by omega) ⟨rfl, rfl, rfl, rfl, rfl, rfl, rfl, trivial⟩ ⟨4, fa, fb, fc, x210, fe, s211, A213, c214, by omega, by omega, (hk220.below (by omega) (hk208.below (by omega) hB_i)), (hb215.keep hk220 (by omega)), (RRow.keep hr216 (hb4_i.keep hk208 (by omega)) (by decide) hk220), hl217, by omega, ((hb3_i.keep hk208 (by omega)).keep hk220 (by omega)), ((hb2_i.keep hk208 (by omega)).keep hk220 (by omega)), hk221, (own_keep (d := (Kd.int .i64)) (own_keep (d := (Kd.int .i64)) hO1_i hbg_i (by decide) hk208) (hb4_i.keep hk208 (by omega)) (by decide) hk220), (own_keep (d := kOp) (own_keep (d := kOp) hO2_i hbg_i (by decide) hk208) (hb4_i.keep hk208 (by omega)) (by decide) hk220), (of_4 hOF_ hx209), rfl⟩
   ·
    refine wsr ?_
    refine rs (.bool true) ?_
    refine rw_end ?_
    refine w_seq ?_
    refine w_cond_t rfl rfl rfl ?_
    refine w_skip ?_
    refine w_seq ?_
    refine w_block ?_
    refine wsr ?_
    refine rv (.int .i64 4) ?_
    refine rv (.int .i64 4) ?_
    refine rw_end ?_
    refine w_region ?_
    refine rv (.int .i64 4) ?_
    refine rv (.pointer (some ⟨g, 0, none⟩)) ?_
    rcases hx226 : nextR si with ⟨x227, s228⟩
    have hl229 := next_le hx226
    refine rw_call rfl rfl rfl rfl (f := 58) (args := #[.pointer (some ⟨g, 0, none⟩)]) (by simp [go_sem, sEv, sLook, nbeq, i64_w, -List.getD_eq_getElem?_getD]) (next_k w_i g w1.heap.size si x227 s228 hx226 ⟨Ai, ci, hbg_i, hrr_i, hlo_i⟩ (by omega)) ?_
    rintro e_ w224 ⟨rfl, ⟨A230, c231, hb232, hr233, hl234⟩, hk225⟩
    refine ⟨_, rfl, ?_⟩
    have hs_w224 := hk225.size
    refine rz (.pointer (some ⟨g149, 4, none⟩)) (by first | kernel_rfl | simp [go_sem, sEv, sLook, nbeq, i64_w, -List.getD_eq_getElem?_getD, Try.underlying115]) ?_
    have hb239 := (hb4_i.keep hk225 (by omega))
    refine rw_store (g := g149) (i := 4) (l := [.int .i64 x227]) (cs' := #[.int .i64 fa, .int .i64 fb, .int .i64 fc, .int .i64 fd, .int .i64 x227]) rfl rfl rfl hb239 rfl (by have e0_ := hb239.cellv (i := 4) (v := (.int .i64 fe : Value)) rfl; have f0_ := hb239.frozen 4; simp [go_sem, sEv, sLook, nbeq, i64_w, -List.getD_eq_getElem?_getD, putCells, e0_, f0_]) ?_
    intro w236 hk237 hk238
    have hs_w236 := hk237.size
    refine rw_end ?_
    refine w_weaken (G' := [(0, .pointer (some ⟨g, 0, none⟩)), (2, .pointer (some ⟨g2, 0, none⟩)), (3, .pointer (some ⟨g20, 0, none⟩)), (4, .pointer (some ⟨g149, 0, none⟩)), (29, .int .i64 ((k127 : Nat) : Int)), (30, .int .i64 ((j2 : Nat) : Int)), (32, .int .i64 4)]) ⟨rfl, rfl, rfl, rfl, rfl, rfl, rfl, trivial⟩ ?_
    refine w_blk ?_
    refine w_region ?_
    refine rz (.int .i64 5) (by kernel_rfl) ?_
    refine rv (.int .i64 5) ?_
    refine rw_end ?_
    exact w_back (m3_ - 1) [(0, .pointer (some ⟨g, 0, none⟩)), (2, .pointer (some ⟨g2, 0, none⟩)), (3, .pointer (some ⟨g20, 0, none⟩)), (4, .pointer (some ⟨g149, 0, none⟩)), (29, .int .i64 ((k127 : Nat) : Int)), (30, .int .i64 ((j2 : Nat) : Int)), (32, .int .i64 5)] (by omega) ⟨rfl, rfl, rfl, rfl, rfl, rfl, rfl, trivial⟩ ⟨5, fa, fb, fc, fd, x227, s228, A230, c231, by omega, by omega, (hk237.below (by omega) (hk225.below (by omega) hB_i)), (hb232.keep hk237 (by omega)), (RRow.keep hr233 (hb4_i.keep hk225 (by omega)) (by decide) hk237), hl234, by omega, ((hb3_i.keep hk225 (by omega)).keep hk237 (by omega)), ((hb2_i.keep hk225 (by omega)).keep hk237 (by omega)), hk238, (own_keep (d := (Kd.int .i64)) (own_keep (d := (Kd.int .i64)) hO1_i hbg_i (by decide) hk225) (hb4_i.keep hk225 (by omega)) (by decide) hk237), (own_keep (d := kOp) (own_keep (d := kOp) hO2_i hbg_i (by decide) hk225) (hb4_i.keep hk225 (by omega)) (by decide) hk237), (of_5 hOF_ hx226), rfl⟩
   ·
    refine wsr ?_
    refine rs (.bool false) ?_
    refine rw_end ?_
    refine w_seq ?_
    refine w_cond_f rfl rfl rfl ?_
    refine w_exit rfl ?_
    refine w_region ?_
    refine ru (.pointer (some ⟨g20, 4, none⟩)) ?_
    refine rl hb3_i 4 (.slice Ap l2.length cp) ?_
    refine rz (.pointer (some ⟨g149, 0, none⟩)) (by first | kernel_rfl | simp [go_sem, sEv, sLook, nbeq, i64_w, -List.getD_eq_getElem?_getD, Try.underlying115]) ?_
    refine rl hb4_i 0 (.int .i64 fa) ?_
    refine rz (.pointer (some ⟨g149, 1, none⟩)) (by first | kernel_rfl | simp [go_sem, sEv, sLook, nbeq, i64_w, -List.getD_eq_getElem?_getD, Try.underlying115]) ?_
    refine rl hb4_i 1 (.int .i64 fb) ?_
    refine rz (.pointer (some ⟨g149, 2, none⟩)) (by first | kernel_rfl | simp [go_sem, sEv, sLook, nbeq, i64_w, -List.getD_eq_getElem?_getD, Try.underlying115]) ?_
    refine rl hb4_i 2 (.int .i64 fc) ?_
    refine rz (.pointer (some ⟨g149, 3, none⟩)) (by first | kernel_rfl | simp [go_sem, sEv, sLook, nbeq, i64_w, -List.getD_eq_getElem?_getD, Try.underlying115]) ?_
    refine rl hb4_i 3 (.int .i64 fd) ?_
    refine rz (.pointer (some ⟨g149, 4, none⟩)) (by first | kernel_rfl | simp [go_sem, sEv, sLook, nbeq, i64_w, -List.getD_eq_getElem?_getD, Try.underlying115]) ?_
    refine rl hb4_i 4 (.int .i64 fe) ?_
    refine rz (.agg #[.int .i64 fa, .int .i64 fb, .int .i64 fc, .int .i64 fd, .int .i64 fe]) (by kernel_rfl) ?_
    refine rw_new (cs := #[.int .i64 fa, .int .i64 fb, .int .i64 fc, .int .i64 fd, .int .i64 fe]) (t := 73) (fun g => .slice (some ⟨g, 0, none⟩) 1 1) rfl rfl rfl rfl (by kernel_rfl) ?_
    intro g241 w242 hg246 hz245 hb243 hk244
    have hs_w242 := hb243.size
    have hk244r : OwnK kOp 73 w242 w.heap.size g241 (some ⟨g241, 0, none⟩) 1 1 ([(fa, fb, fc, fd, fe)] : List OpL) := flat_own w.heap.size hk244 (by omega) rfl rfl (by simp) (by simp)
    have oA253 : OwnK kOp 73 w242 w.heap.size w1.heap.size Ap l2.length cp l2 := (OwnK.on (d := kOp) hO2_i hb243)
    refine rw_append_kd (d := kOp) w.heap.size rfl rfl rfl (.tmp 41) (.tmp 53) rfl rfl 23 73 (.agg #[.int .i64 0, .int .i64 0, .int .i64 0, .int .i64 0, .int .i64 0]) 40 rfl (by kernel_rfl) (by kernel_rfl) rfl (show 0 < 5 by decide) (by decide) (fun _ _ h => h) (b := w1.heap.size) rfl rfl (by omega) oA253 (OwnK.Cn (d := kOp) hk244r) (chain hB_i hb243) (by omega) (by first | omega | (simp only [List.length_append, List.length_nil, List.length_cons]; omega)) ?_
    intro A247 c248 w249 hO250 hB251 hG252
    have hs_w249 := hB251.size
    have hgs_w249 := hG252.size
    have hO255 := OwnK.grown (d := (Kd.int .i64)) (OwnK.on (d := (Kd.int .i64)) hO1_i hb243) oA253 (by decide) hG252
    have hk257 := OwnK.blk_grown (hbg_i.on hb243) oA253 (.inr (by decide)) hG252
    have hk258 := OwnK.blk_grown (hb3_i.on hb243) oA253 (.inr (by decide)) hG252
    have hk259 := OwnK.blk_grown (hb2_i.on hb243) oA253 (.inr (by decide)) hG252
    have hk260 := OwnK.blk_grown (hb4_i.on hb243) oA253 (.inr (by decide)) hG252
    have hr254 := RRow.own (RRow.on hrr_i hb243) oA253 (by decide) hG252
    refine ru (.pointer (some ⟨g20, 4, none⟩)) ?_
    have hb265 := hk258
    refine rw_store (g := g20) (i := 4) (l := [.slice A247 ((l2 ++ ([(fa, fb, fc, fd, fe)] : List OpL)).length) c248]) (cs' := #[.int .i64 x11, .int .i64 x33, .int .i64 x49, .slice Aq l1.length cq, .slice A247 ((l2 ++ ([(fa, fb, fc, fd, fe)] : List OpL)).length) c248, .slice none 0 0]) rfl rfl rfl hb265 rfl (by have e0_ := hb265.cellv (i := 4) (v := (.slice Ap l2.length cp : Value)) rfl; have f0_ := hb265.frozen 4; simp [go_sem, sEv, sLook, nbeq, i64_w, -List.getD_eq_getElem?_getD, putCells, e0_, f0_, Try.underlying23]) ?_
    intro w262 hk263 hk264
    have hs_w262 := hk263.size
    refine rw_end ?_
    refine w_weaken (G' := [(0, .pointer (some ⟨g, 0, none⟩)), (2, .pointer (some ⟨g2, 0, none⟩)), (3, .pointer (some ⟨g20, 0, none⟩)), (29, .int .i64 ((k127 : Nat) : Int)), (30, .int .i64 ((j2 : Nat) : Int))]) ⟨rfl, rfl, rfl, rfl, rfl, trivial⟩ ?_
    refine w_blk ?_
    refine w_region ?_
    refine rz (.int .i64 ((j2 + 1 : Nat) : Int)) (by simp [go_sem, sEv, sLook, nbeq, i64_w, -List.getD_eq_getElem?_getD]; exact wrap_id (by omega) (by omega)) ?_
    refine rv (.int .i64 ((j2 + 1 : Nat) : Int)) ?_
    refine rw_end ?_
    exact w_back (m2_ - 1) [(0, .pointer (some ⟨g, 0, none⟩)), (2, .pointer (some ⟨g2, 0, none⟩)), (3, .pointer (some ⟨g20, 0, none⟩)), (29, .int .i64 ((k127 : Nat) : Int)), (30, .int .i64 ((j2 + 1 : Nat) : Int))] (by omega) ⟨rfl, rfl, rfl, rfl, rfl, trivial⟩ ⟨(j2 + 1), (l2 ++ [(fa, fb, fc, fd, fe)]), si, Ai, ci, A247, c248, by omega, (hk263.below (by omega) hB251), (hk257.keep hk263 (by omega)), hk264, (hk259.keep hk263 (by omega)), (OwnK.mono (d := (Kd.int .i64)) (own_keep (d := (Kd.int .i64)) hO255 hk258 (by decide) hk263) (by omega)), (OwnK.mono (d := kOp) (own_keep (d := kOp) hO250 hk258 (by decide) hk263) (by omega)), ⟨(RRow.keep hr254 hk258 (by decide) hk263), hlo_i⟩, (by omega), (opsR_step hX1_0 hOF_), (by simp only [List.length_append, List.length_cons, List.length_nil]; omega), rfl⟩
  ·
   have l266 : ¬ (((j2 : Nat) : Int) < ((k127 : Nat) : Int)) := of_decide_eq_false c147
   refine w_exit rfl ?_
   refine w_seq ?_
   refine w_label ?_
   refine w_seq ?_
   refine wsr ?_
   refine rv (.pointer (some ⟨g, 0, none⟩)) ?_
   rcases hx269 : countR 16 sk with ⟨x270, s271⟩
   obtain ⟨k273, hm274, rfl, hl272⟩ := count_nat hx269 (by decide)
   refine rw_call rfl rfl rfl rfl (f := 59) (args := #[.pointer (some ⟨g, 0, none⟩), .int .i64 16]) (by simp [go_sem, sEv, sLook, nbeq, i64_w, -List.getD_eq_getElem?_getD]) (count_k w_L135 g w1.heap.size sk 16 _ s271 hx269 ⟨Ar2, cr2, hf137, hrr_w_L135, hlo_w_L135⟩ (by omega)) ?_
   rintro e_ w267 ⟨rfl, ⟨A275, c276, hb277, hr278, hl279⟩, hk268⟩
   refine ⟨_, rfl, ?_⟩
   have hs_w267 := hk268.size
   refine rv (.int .i64 0) ?_
   refine rw_end ?_
   refine w_block ?_
   have hE1_ : opsR k127 s125 = (l2, sk) := by rw [← (by omega : j2 = k127)]; exact hX1_0
   refine w_loop (fun m_ G W_ => ∃ (j3 : Nat) (l3 : List EL) (sl : RS) (Ar3 : Option Addr) (cr3 : Nat) (Ao : Option Addr) (co : Nat) (Bq : Nat), j3 + m_ = k273 ∧ Below w.heap.size w W_ ∧ (Blk W_ g 90 #[.slice Ar3 sl.xs.length cr3, .bool sl.bad]) ∧ (Blk W_ g20 26 #[.int .i64 x11, .int .i64 x33, .int .i64 x49, .slice Aq l1.length cq, .slice Ap l2.length cp, .slice Ao l3.length co]) ∧ (Blk W_ g2 26 #[.int .i64 0, .int .i64 0, .int .i64 0, .slice none 0 0, .slice none 0 0, .slice none 0 0]) ∧ (OwnK (Kd.int .i64) 3 W_ w.heap.size w1.heap.size Aq l1.length cq l1) ∧ (OwnK kOp 73 W_ w.heap.size w1.heap.size Ap l2.length cp l2) ∧ (OwnK kEntry 83 W_ w.heap.size w1.heap.size Ao l3.length co l3) ∧ (RRow W_ Ar3 sl.xs.length cr3 sl.xs ∧ Low Bq Ar3) ∧ (sl.xs.length ≤ 100000) ∧ (entsR j3 s271 = (l3, sl)) ∧ (l3.length = j3) ∧ G = [(0, .pointer (some ⟨g, 0, none⟩)), (2, .pointer (some ⟨g2, 0, none⟩)), (3, .pointer (some ⟨g20, 0, none⟩)), (58, .int .i64 ((k273 : Nat) : Int)), (59, .int .i64 ((j3 : Nat) : Int))]) k273 [(0, .pointer (some ⟨g, 0, none⟩)), (2, .pointer (some ⟨g2, 0, none⟩)), (3, .pointer (some ⟨g20, 0, none⟩)), (58, .int .i64 ((k273 : Nat) : Int)), (59, .int .i64 0)] ⟨0, [], s271, A275, c276, none, 0, w1.heap.size, by omega, (hk268.below (by omega) hB_L135), hb277, (hf138.keep hk268 (by omega)), (hf139.keep hk268 (by omega)), (OwnK.mono (d := (Kd.int .i64)) (own_keep (d := (Kd.int .i64)) hf140 hf137 (by decide) hk268) (by omega)), (OwnK.mono (d := kOp) (own_keep (d := kOp) hf141 hf137 (by decide) hk268) (by omega)), (OwnK.nil _ _ _ _ _), ⟨hr278, hl279⟩, (by omega), rfl, rfl, rfl⟩ ⟨rfl, rfl, rfl, rfl, rfl, trivial⟩ ?_
   rintro m4_ G w_L281 ⟨j3, l3, sl, Ar3, cr3, Ao, co, Bq, hp282, hB_L281, hf283, hf284, hf285, hf286, hf287, hf288, hf289, hf290, hf291, hf292, rfl⟩
   have hs_w_L281 := hB_L281.size
   obtain ⟨hrr_w_L281, hlo_w_L281⟩ := hf289
   have hlt_g20_w_L281 := hf284.lt
   have hlt_g2_w_L281 := hf285.lt
   have hX3_0 := hf291
   have hX3_1 := hf292
   refine wsr ?_
   refine rs (.bool (decide (((j3 : Nat) : Int) < ((k273 : Nat) : Int)))) ?_
   refine rw_end ?_
   refine w_seq ?_
   refine w_cond rfl rfl (fun c294 => ?_) (fun c294 => ?_)
   ·
    have l295 : (((j3 : Nat) : Int) < ((k273 : Nat) : Int)) := of_decide_eq_true c294
    refine w_skip ?_
    refine w_seq ?_
    refine w_block ?_
    refine w_seq ?_
    refine wsr ?_
    refine rv (.pointer (some ⟨g, 0, none⟩)) ?_
    refine rs (.pointer (some ⟨g, 0, none⟩)) ?_
    refine ru (.pointer (some ⟨g, 1, none⟩)) ?_
    refine rl hf283 1 (.bool sl.bad) ?_
    refine rw_end ?_
    refine w_weaken (G' := [(0, .pointer (some ⟨g, 0, none⟩)), (2, .pointer (some ⟨g2, 0, none⟩)), (3, .pointer (some ⟨g20, 0, none⟩)), (58, .int .i64 ((k273 : Nat) : Int)), (59, .int .i64 ((j3 : Nat) : Int)), (64, .bool sl.bad)]) ⟨rfl, rfl, rfl, rfl, rfl, rfl, trivial⟩ ?_
    refine w_cond rfl rfl (fun cBad => ?_) (fun cBad => ?_)
    ·
     refine w_exit rfl ?_
     refine wsr ?_
     refine rz (.agg #[.int .i64 x11, .int .i64 x33, .int .i64 x49, .slice Aq l1.length cq, .slice Ap l2.length cp, .slice Ao l3.length co]) (by have eb_ := hf284; have e0_ := eb_.cellv (i := 0) (v := (.int .i64 x11 : Value)) rfl; have e1_ := eb_.cellv (i := 1) (v := (.int .i64 x33 : Value)) rfl; have e2_ := eb_.cellv (i := 2) (v := (.int .i64 x49 : Value)) rfl; have e3_ := eb_.cellv (i := 3) (v := (.slice Aq l1.length cq : Value)) rfl; have e4_ := eb_.cellv (i := 4) (v := (.slice Ap l2.length cp : Value)) rfl; have e5_ := eb_.cellv (i := 5) (v := (.slice Ao l3.length co : Value)) rfl; simp [go_sem, sEv, sLook, nbeq, i64_w, -List.getD_eq_getElem?_getD, e0_, e1_, e2_, e3_, e4_, e5_, Try.underlying26]) ?_
     have hb299 := hf285
     refine rw_store (g := g2) (i := 0) (l := [.int .i64 x11, .int .i64 x33, .int .i64 x49, .slice Aq l1.length cq, .slice Ap l2.length cp, .slice Ao l3.length co]) (cs' := #[.int .i64 x11, .int .i64 x33, .int .i64 x49, .slice Aq l1.length cq, .slice Ap l2.length cp, .slice Ao l3.length co]) rfl rfl rfl hb299 rfl (by have e0_ := hb299.cellv (i := 0) (v := (.int .i64 0 : Value)) rfl; have f0_ := hb299.frozen 0; have e1_ := hb299.cellv (i := 1) (v := (.int .i64 0 : Value)) rfl; have f1_ := hb299.frozen 1; have e2_ := hb299.cellv (i := 2) (v := (.int .i64 0 : Value)) rfl; have f2_ := hb299.frozen 2; have e3_ := hb299.cellv (i := 3) (v := (.slice none 0 0 : Value)) rfl; have f3_ := hb299.frozen 3; have e4_ := hb299.cellv (i := 4) (v := (.slice none 0 0 : Value)) rfl; have f4_ := hb299.frozen 4; have e5_ := hb299.cellv (i := 5) (v := (.slice none 0 0 : Value)) rfl; have f5_ := hb299.frozen 5; simp [go_sem, sEv, sLook, nbeq, i64_w, -List.getD_eq_getElem?_getD, putCells, e0_, f0_, e1_, f1_, e2_, f2_, e3_, f3_, e4_, f4_, e5_, f5_, Try.underlying26]) ?_
     intro w296 hk297 hk298
     have hs_w296 := hk297.size
     refine rw_end ?_
     refine w_retG (post_retc (v := .agg #[.int .i64 x11, .int .i64 x33, .int .i64 x49, .slice Aq l1.length cq, .slice Ap l2.length cp, .slice Ao l3.length co]) rfl rfl (by have eb_ := hk298; have e0_ := eb_.cellv (i := 0) (v := (.int .i64 x11 : Value)) rfl; have e1_ := eb_.cellv (i := 1) (v := (.int .i64 x33 : Value)) rfl; have e2_ := eb_.cellv (i := 2) (v := (.int .i64 x49 : Value)) rfl; have e3_ := eb_.cellv (i := 3) (v := (.slice Aq l1.length cq : Value)) rfl; have e4_ := eb_.cellv (i := 4) (v := (.slice Ap l2.length cp : Value)) rfl; have e5_ := eb_.cellv (i := 5) (v := (.slice Ao l3.length co : Value)) rfl; simp [go_sem, e0_, e1_, e2_, e3_, e4_, e5_, Try.underlying26]) ?_)
     have hE2_ : entsR k273 s271 = (l3, sl) := entsR_bad hX3_0 (by simpa using cBad) _ (by omega)
     rw [note_eq hx10 hx32 hx48 hx64 hE0_ hx123 hE1_ hx269 hE2_]
     exact ⟨_, _, _, _, _, _, rfl, (OwnK.mono (d := (Kd.int .i64)) (own_keep (d := (Kd.int .i64)) hf286 hf285 (by decide) hk297) (by omega)), (OwnK.mono (d := kOp) (own_keep (d := kOp) hf287 hf285 (by decide) hk297) (by omega)), (OwnK.mono (d := kEntry) (own_keep (d := kEntry) hf288 hf285 (by decide) hk297) (by omega)), ⟨_, _, (hf283.keep hk297 (by omega)), (RRow.keep hrr_w_L281 hf285 (by decide) hk297)⟩, (hk297.below (by omega) hB_L281)⟩
    ·
     refine w_skip ?_
     refine wsr ?_
     refine rv (.pointer (some ⟨g, 0, none⟩)) ?_
     rcases hx302 : nextR sl with ⟨x303, s304⟩
     have hl305 := next_le hx302
     refine rw_call rfl rfl rfl rfl (f := 58) (args := #[.pointer (some ⟨g, 0, none⟩)]) (by simp [go_sem, sEv, sLook, nbeq, i64_w, -List.getD_eq_getElem?_getD]) (next_k w_L281 g Bq sl x303 s304 hx302 ⟨Ar3, cr3, hf283, hrr_w_L281, hlo_w_L281⟩ (by omega)) ?_
     rintro e_ w300 ⟨rfl, ⟨A306, c307, hb308, hr309, hl310⟩, hk301⟩
     refine ⟨_, rfl, ?_⟩
     have hs_w300 := hk301.size
     refine rz (.agg #[.int .i64 x303, .int .i64 0]) (by kernel_rfl) ?_
     refine rz (.agg (earr (⟨x303, 0, CL.unit⟩ : EL))) (by kernel_rfl) ?_
     refine rw_new (cs := earr EL.zero) (t := 83) (fun g => .pointer (some ⟨g, 0, none⟩)) rfl rfl rfl rfl (by kernel_rfl) ?_
     intro g312 w313 hg317 hz316 hb314 hk315
     have hs_w313 := hb314.size
     refine rw_seg (g := g312) (off := 0) (ty := 83) (p := .tmp 6) (x := .tmp 68) (v := .agg (earr (⟨x303, 0, CL.unit⟩ : EL))) (cs' := earr (⟨x303, 0, CL.unit⟩ : EL)) rfl rfl rfl rfl rfl rfl hk315 (by show (sizeOf 83).run _ _ = .ok (earr _).size _; rw [earr_size]; kernel_rfl) (Nat.le_of_eq (by rw [Nat.zero_add]; exact (earr_size _).trans (earr_size _).symm)) (encE_one _) (seg_eall EL.zero (⟨x303, 0, CL.unit⟩ : EL)) ?_
     intro w318 hk319 hb320
     have hs_w318 := hk319.size
     refine rw_end ?_
     refine w_weaken (G' := [(0, .pointer (some ⟨g, 0, none⟩)), (2, .pointer (some ⟨g2, 0, none⟩)), (3, .pointer (some ⟨g20, 0, none⟩)), (6, .pointer (some ⟨g312, 0, none⟩)), (58, .int .i64 ((k273 : Nat) : Int)), (59, .int .i64 ((j3 : Nat) : Int))]) ⟨rfl, rfl, rfl, rfl, rfl, rfl, trivial⟩ ?_
     refine wsr ?_
     refine rv (.pointer (some ⟨g, 0, none⟩)) ?_
     rcases hx323 : nextR s304 with ⟨x324, s325⟩
     have hl326 := next_le hx323
     refine rw_call rfl rfl rfl rfl (f := 58) (args := #[.pointer (some ⟨g, 0, none⟩)]) (by simp [go_sem, sEv, sLook, nbeq, i64_w, -List.getD_eq_getElem?_getD]) (next_k w318 g Bq s304 x324 s325 hx323 ⟨A306, c307, ((hb308.on hb314).keep hk319 (by omega)), (RRow.keep (RRow.on hr309 hb314) hk315 (by decide) hk319), hl310⟩ (by omega)) ?_
     rintro e_ w321 ⟨rfl, ⟨A327, c328, hb329, hr330, hl331⟩, hk322⟩
     refine ⟨_, rfl, ?_⟩
     have hs_w321 := hk322.size
     refine ru (.pointer (some ⟨g312, 0, none⟩)) ?_
     refine ru (.pointer (some ⟨g312, 1, none⟩)) ?_
     refine rw_seg (g := g312) (off := 1) (ty := 3) (p := .tmp 72) (x := .tmp 70) (v := .int .i64 x324) (cs' := earr (⟨x303, x324, CL.unit⟩ : EL)) rfl rfl rfl rfl rfl rfl (hb320.keep hk322 (by omega)) (by kernel_rfl) (by rw [earr_size]; show 1 + 1 ≤ 76; decide) (by intro q hq; simp only [List.mem_cons, List.not_mem_nil, or_false, Value.cells] at hq; subst hq; rfl) (seg_ekey (⟨x303, 0, CL.unit⟩ : EL) x324) ?_
     intro w333 hk334 hb335
     have hs_w333 := hk334.size
     refine rw_end ?_
     refine w_weaken (G' := [(0, .pointer (some ⟨g, 0, none⟩)), (2, .pointer (some ⟨g2, 0, none⟩)), (3, .pointer (some ⟨g20, 0, none⟩)), (6, .pointer (some ⟨g312, 0, none⟩)), (58, .int .i64 ((k273 : Nat) : Int)), (59, .int .i64 ((j3 : Nat) : Int))]) ⟨rfl, rfl, rfl, rfl, rfl, rfl, trivial⟩ ?_
     refine wsr ?_
     refine rv (.pointer (some ⟨g, 0, none⟩)) ?_
     rcases hx338 : cellR s325 with ⟨cc339, s340⟩
     have hl341 := cell_le hx338
     refine rw_call rfl rfl rfl rfl (f := 60) (args := #[.pointer (some ⟨g, 0, none⟩)]) (by simp [go_sem, sEv, sLook, nbeq, i64_w, -List.getD_eq_getElem?_getD]) (cell_k w333 g s325 cc339 s340 hx338 (RDB.rd (B := Bq) ⟨A327, c328, (hb329.keep hk334 (by omega)), (RRow.keep hr330 (hb320.keep hk322 (by omega)) (by decide) hk334), hl331⟩) (by omega)) ?_
     rintro e_ w336 ⟨rfl, hrd343, hk337⟩
     refine ⟨_, rfl, ?_⟩
     obtain ⟨B342, A344, c345, hb346, hr347, hl348⟩ := hrd343.b
     have hB349 : Below w.heap.size w w336 := kg_below (hk334.below (by omega) (hk322.below (by omega) (hk319.below (by omega) (chain (hk301.below (by omega) hB_L281) hb314)))) hg0 hk337
     have hs_w336 := hB349.size
     have hgs_w336 := hk337.size
     have hb350 := (hb329.keep hk334 (by omega))
     have hk351 := blk_kg (((((hf284.keep hk301 (by omega)).on hb314).keep hk319 (by omega)).keep hk322 (by omega)).keep hk334 (by omega)) hk337 (by omega)
     have hk352 := blk_kg (((((hf285.keep hk301 (by omega)).on hb314).keep hk319 (by omega)).keep hk322 (by omega)).keep hk334 (by omega)) hk337 (by omega)
     have hk353 := blk_kg hb335 hk337 (by omega)
     have hO354 := own_kg (d := (Kd.int .i64)) (own_keep (d := (Kd.int .i64)) (own_keep (d := (Kd.int .i64)) (own_keep (d := (Kd.int .i64)) (OwnK.on (d := (Kd.int .i64)) (own_keep (d := (Kd.int .i64)) hf286 hf283 (by decide) hk301) hb314) hk315 (by decide) hk319) ((hb308.on hb314).keep hk319 (by omega)) (by decide) hk322) (hb320.keep hk322 (by omega)) (by decide) hk334) hb350 (by decide) hk337
     have hO355 := own_kg (d := kOp) (own_keep (d := kOp) (own_keep (d := kOp) (own_keep (d := kOp) (OwnK.on (d := kOp) (own_keep (d := kOp) hf287 hf283 (by decide) hk301) hb314) hk315 (by decide) hk319) ((hb308.on hb314).keep hk319 (by omega)) (by decide) hk322) (hb320.keep hk322 (by omega)) (by decide) hk334) hb350 (by decide) hk337
     refine ru (.pointer (some ⟨g312, 2, none⟩)) ?_
     refine rw_seg (g := g312) (off := 2) (ty := 81) (p := .tmp 75) (x := .tmp 74) (v := .agg (carr cc339)) (cs' := earr (⟨x303, x324, cc339⟩ : EL)) rfl rfl rfl rfl rfl rfl hk353 (by show (sizeOf 81).run _ _ = .ok (carr _).size _; rw [carr_size]; kernel_rfl) (by show 2 + (carr _).size ≤ _; rw [earr_size, carr_size]; decide) (encC_one _) (seg_ecell (⟨x303, x324, CL.unit⟩ : EL) cc339) ?_
     intro w357 hk358 hb359
     have hs_w357 := hk358.size
     refine rw_end ?_
     refine w_weaken (G' := [(0, .pointer (some ⟨g, 0, none⟩)), (2, .pointer (some ⟨g2, 0, none⟩)), (3, .pointer (some ⟨g20, 0, none⟩)), (6, .pointer (some ⟨g312, 0, none⟩)), (58, .int .i64 ((k273 : Nat) : Int)), (59, .int .i64 ((j3 : Nat) : Int))]) ⟨rfl, rfl, rfl, rfl, rfl, rfl, trivial⟩ ?_
     refine w_region ?_
     refine ru (.pointer (some ⟨g20, 5, none⟩)) ?_
     refine rl (hk351.keep hk358 (by omega)) 5 (.slice Ao l3.length co) ?_
     refine rz (.agg (earr (⟨x303, x324, cc339⟩ : EL))) (run_as (load_entry (x := (⟨x303, x324, cc339⟩ : EL)) hb359)) ?_
     refine rw_new (cs := (encE (⟨x303, x324, cc339⟩ : EL) : List Value).toArray) (t := 83) (fun g => .slice (some ⟨g, 0, none⟩) 1 1) rfl rfl rfl rfl (by kernel_rfl) ?_
     intro g360 w361 hg365 hz364 hb362 hk363
     have hs_w361 := hb362.size
     have hk363r : OwnK kEntry 83 w361 w.heap.size g360 (some ⟨g360, 0, none⟩) 1 1 ([(⟨x303, x324, cc339⟩ : EL)] : List EL) := flat_own (enc := encE) (hl1 := encE_len) (h1 := encE_one) (xs := ([(⟨x303, x324, cc339⟩ : EL)] : List EL)) (cap := 1) w.heap.size hk363 (by omega) (by simp) rfl (by simp) (by simp)
     have oA372 : OwnK kEntry 83 w361 w.heap.size w1.heap.size Ao l3.length co l3 := (own_kg (d := kEntry) hf288 hf283 (by decide) (kg_b (kg_s (kg_k (kg_s (kg_s (kg_s (kg_b (kg_s (kg_refl g w_L281) hk301 (.inl rfl)) hb314) hk319 (.inr (by omega))) hk322 (.inl rfl)) hk334 (.inr (by omega))) hk337) hk358 (.inr (by omega))) hb362))
     refine rw_append_kd (d := kEntry) w.heap.size rfl rfl rfl (.tmp 77) (.tmp 79) rfl rfl 24 83 (.agg (earr EL.zero)) 608 rfl (by kernel_rfl) (by kernel_rfl) rfl (show 0 < 76 by decide) (by decide) (fun _ _ h => h) (b := w1.heap.size) rfl rfl (by omega) oA372 (OwnK.Cn (d := kEntry) hk363r) (chain (hk358.below (by omega) hB349) hb362) (by omega) (by first | omega | (simp only [List.length_append, List.length_nil, List.length_cons]; omega)) ?_
     intro A366 c367 w368 hO369 hB370 hG371
     have hs_w368 := hB370.size
     have hgs_w368 := hG371.size
     have hO374 := OwnK.grown (d := (Kd.int .i64)) (OwnK.on (d := (Kd.int .i64)) (own_keep (d := (Kd.int .i64)) hO354 hk353 (by decide) hk358) hb362) oA372 (by decide) hG371
     have hO375 := OwnK.grown (d := kOp) (OwnK.on (d := kOp) (own_keep (d := kOp) hO355 hk353 (by decide) hk358) hb362) oA372 (by decide) hG371
     have hk377 := OwnK.blk_grown ((hk351.keep hk358 (by omega)).on hb362) oA372 (.inr (by decide)) hG371
     have hk378 := OwnK.blk_grown ((hk352.keep hk358 (by omega)).on hb362) oA372 (.inr (by decide)) hG371
     have hk379 := OwnK.blk_grown ((hb346.keep hk358 (by omega)).on hb362) oA372 (.inr (by decide)) hG371
     have hr373 := RRow.own (RRow.on (RRow.keep hr347 hk353 (by decide) hk358) hb362) oA372 (by decide) hG371
     refine ru (.pointer (some ⟨g20, 5, none⟩)) ?_
     have hb384 := hk377
     refine rw_store (g := g20) (i := 5) (l := [.slice A366 ((l3 ++ ([(⟨x303, x324, cc339⟩ : EL)] : List EL)).length) c367]) (cs' := #[.int .i64 x11, .int .i64 x33, .int .i64 x49, .slice Aq l1.length cq, .slice Ap l2.length cp, .slice A366 ((l3 ++ ([(⟨x303, x324, cc339⟩ : EL)] : List EL)).length) c367]) rfl rfl rfl hb384 rfl (by have e0_ := hb384.cellv (i := 5) (v := (.slice Ao l3.length co : Value)) rfl; have f0_ := hb384.frozen 5; simp [go_sem, sEv, sLook, nbeq, i64_w, -List.getD_eq_getElem?_getD, putCells, e0_, f0_, Try.underlying24]) ?_
     intro w381 hk382 hk383
     have hs_w381 := hk382.size
     refine rw_end ?_
     refine w_weaken (G' := [(0, .pointer (some ⟨g, 0, none⟩)), (2, .pointer (some ⟨g2, 0, none⟩)), (3, .pointer (some ⟨g20, 0, none⟩)), (58, .int .i64 ((k273 : Nat) : Int)), (59, .int .i64 ((j3 : Nat) : Int))]) ⟨rfl, rfl, rfl, rfl, rfl, trivial⟩ ?_
     refine w_blk ?_
     refine w_region ?_
     refine rz (.int .i64 ((j3 + 1 : Nat) : Int)) (by simp [go_sem, sEv, sLook, nbeq, i64_w, -List.getD_eq_getElem?_getD]; exact wrap_id (by omega) (by omega)) ?_
     refine rv (.int .i64 ((j3 + 1 : Nat) : Int)) ?_
     refine rw_end ?_
     exact w_back (m4_ - 1) [(0, .pointer (some ⟨g, 0, none⟩)), (2, .pointer (some ⟨g2, 0, none⟩)), (3, .pointer (some ⟨g20, 0, none⟩)), (58, .int .i64 ((k273 : Nat) : Int)), (59, .int .i64 ((j3 + 1 : Nat) : Int))] (by omega) ⟨rfl, rfl, rfl, rfl, rfl, trivial⟩ ⟨(j3 + 1), (l3 ++ [(⟨x303, x324, cc339⟩ : EL)]), s340, A344, c345, A366, c367, B342, by omega, (hk382.below (by omega) hB370), (hk379.keep hk382 (by omega)), hk383, (hk378.keep hk382 (by omega)), (OwnK.mono (d := (Kd.int .i64)) (own_keep (d := (Kd.int .i64)) hO374 hk377 (by decide) hk382) (by omega)), (OwnK.mono (d := kOp) (own_keep (d := kOp) hO375 hk377 (by decide) hk382) (by omega)), (OwnK.mono (d := kEntry) (own_keep (d := kEntry) hO369 hk377 (by decide) hk382) (by omega)), ⟨(RRow.keep hr373 hk377 (by decide) hk382), hl348⟩, (by omega), (entsR_step hX3_0 (by simpa using cBad) hx302 hx323 hx338), (by simp only [List.length_append, List.length_cons, List.length_nil]; omega), rfl⟩
   ·
    have l385 : ¬ (((j3 : Nat) : Int) < ((k273 : Nat) : Int)) := of_decide_eq_false c294
    refine w_exit rfl ?_
    refine wsr ?_
    refine rz (.agg #[.int .i64 x11, .int .i64 x33, .int .i64 x49, .slice Aq l1.length cq, .slice Ap l2.length cp, .slice Ao l3.length co]) (by have eb_ := hf284; have e0_ := eb_.cellv (i := 0) (v := (.int .i64 x11 : Value)) rfl; have e1_ := eb_.cellv (i := 1) (v := (.int .i64 x33 : Value)) rfl; have e2_ := eb_.cellv (i := 2) (v := (.int .i64 x49 : Value)) rfl; have e3_ := eb_.cellv (i := 3) (v := (.slice Aq l1.length cq : Value)) rfl; have e4_ := eb_.cellv (i := 4) (v := (.slice Ap l2.length cp : Value)) rfl; have e5_ := eb_.cellv (i := 5) (v := (.slice Ao l3.length co : Value)) rfl; simp [go_sem, sEv, sLook, nbeq, i64_w, -List.getD_eq_getElem?_getD, e0_, e1_, e2_, e3_, e4_, e5_, Try.underlying26]) ?_
    have hb389 := hf285
    refine rw_store (g := g2) (i := 0) (l := [.int .i64 x11, .int .i64 x33, .int .i64 x49, .slice Aq l1.length cq, .slice Ap l2.length cp, .slice Ao l3.length co]) (cs' := #[.int .i64 x11, .int .i64 x33, .int .i64 x49, .slice Aq l1.length cq, .slice Ap l2.length cp, .slice Ao l3.length co]) rfl rfl rfl hb389 rfl (by have e0_ := hb389.cellv (i := 0) (v := (.int .i64 0 : Value)) rfl; have f0_ := hb389.frozen 0; have e1_ := hb389.cellv (i := 1) (v := (.int .i64 0 : Value)) rfl; have f1_ := hb389.frozen 1; have e2_ := hb389.cellv (i := 2) (v := (.int .i64 0 : Value)) rfl; have f2_ := hb389.frozen 2; have e3_ := hb389.cellv (i := 3) (v := (.slice none 0 0 : Value)) rfl; have f3_ := hb389.frozen 3; have e4_ := hb389.cellv (i := 4) (v := (.slice none 0 0 : Value)) rfl; have f4_ := hb389.frozen 4; have e5_ := hb389.cellv (i := 5) (v := (.slice none 0 0 : Value)) rfl; have f5_ := hb389.frozen 5; simp [go_sem, sEv, sLook, nbeq, i64_w, -List.getD_eq_getElem?_getD, putCells, e0_, f0_, e1_, f1_, e2_, f2_, e3_, f3_, e4_, f4_, e5_, f5_, Try.underlying26]) ?_
    intro w386 hk387 hk388
    have hs_w386 := hk387.size
    refine rw_end ?_
    refine w_retG (post_retc (v := .agg #[.int .i64 x11, .int .i64 x33, .int .i64 x49, .slice Aq l1.length cq, .slice Ap l2.length cp, .slice Ao l3.length co]) rfl rfl (by have eb_ := hk388; have e0_ := eb_.cellv (i := 0) (v := (.int .i64 x11 : Value)) rfl; have e1_ := eb_.cellv (i := 1) (v := (.int .i64 x33 : Value)) rfl; have e2_ := eb_.cellv (i := 2) (v := (.int .i64 x49 : Value)) rfl; have e3_ := eb_.cellv (i := 3) (v := (.slice Aq l1.length cq : Value)) rfl; have e4_ := eb_.cellv (i := 4) (v := (.slice Ap l2.length cp : Value)) rfl; have e5_ := eb_.cellv (i := 5) (v := (.slice Ao l3.length co : Value)) rfl; simp [go_sem, e0_, e1_, e2_, e3_, e4_, e5_, Try.underlying26]) ?_)
    have hE2_ : entsR k273 s271 = (l3, sl) := by rw [← (by omega : j3 = k273)]; exact hX3_0
    rw [note_eq hx10 hx32 hx48 hx64 hE0_ hx123 hE1_ hx269 hE2_]
    exact ⟨_, _, _, _, _, _, rfl, (OwnK.mono (d := (Kd.int .i64)) (own_keep (d := (Kd.int .i64)) hf286 hf285 (by decide) hk387) (by omega)), (OwnK.mono (d := kOp) (own_keep (d := kOp) hf287 hf285 (by decide) hk387) (by omega)), (OwnK.mono (d := kEntry) (own_keep (d := kEntry) hf288 hf285 (by decide) hk387) (by omega)), ⟨_, _, (hf283.keep hk387 (by omega)), (RRow.keep hrr_w_L281 hf285 (by decide) hk387)⟩, (hk387.below (by omega) hB_L281)⟩
end Go.Proofs.Ytbbhdohjhipalaa.Ce
end
section
namespace Go.Proofs.Ytbbhdohjhipalaa.Ce
open Go.RowKit Go.Proofs.YtbbhdohjhipalaaW.PrintWords Go.Proofs.YtbbhdohjhipalaaW.PrintLast Go.Proofs.YtbbhdohjhipalaaW.PrintMore
open Go.Proofs.Ytbbhdohjhipalaa.Flow Go.Proofs.Ytbbhdohjhipalaa.PNoteReads
set_option linter.unusedVariables false
set_option linter.unusedSimpArgs false
theorem err_same (o : Option Int) : PNoteReads.errW o = errT o := by cases o <;> rfl
def NL (b : List Int) : List Int := (numsP (b.length + 1) b 4096 []).1
def NO (b : List Int) : Bool := (numsP (b.length + 1) b 4096 []).2
theorem NL_len (b : List Int) (hb : Bytes b) (hl : b.length ≤ 1000000) : (NL b).length ≤ 1000000 := (nums_both b.length b [] 4096 (b.length + 32) (b.length + 1) (Nat.le_refl _) hb (Nat.le_refl _) (by omega) (.inl rfl) (by simpa using hl)).2
theorem fnums (w : World) (A0 : Option Addr) (c0 : Nat) (b : List Int) (base bb : Nat) (hO : OwnK (Kd.int .u8) 5 w base bb A0 b.length c0 b) (hb : Bytes b) (hl : b.length ≤ 1000000) : Calls Try.prog 37 #[.slice A0 b.length c0, .int .i64 4096] w fun e w' => ∃ A' c', e = .returned (.tuple #[.slice A' (NL b).length c', errT (if NO b = true then none else some 3)]) ∧ OwnK (Kd.int .i64) 3 w' w.heap.size w.heap.size A' (NL b).length c' (NL b) ∧ Below w.heap.size w w' := by
  have h := (nums_both b.length b [] 4096 (b.length + 32) (b.length + 1) (Nat.le_refl _) hb (Nat.le_refl _) (by omega) (.inl rfl) (by simpa using hl)).1
  refine (frame_Nums.calls (b.length + 32) (fun q => bb ≤ q) A0 c0 b 4096 _ _ w (Kd.R_V hO) h).mono ?_
  rintro e w' ⟨v0, rfl, hR, hB⟩
  obtain ⟨A', c', rfl, hle, hR2⟩ := R_shape hR
  exact ⟨A', c', by rw [err_same]; rfl, hR2, hB⟩
theorem fnums_no (w : World) (A0 : Option Addr) (c0 : Nat) (b : List Int) (base bb : Nat) (hO : OwnK (Kd.int .u8) 5 w base bb A0 b.length c0 b) (hb : Bytes b) (hl : b.length ≤ 1000000) (ho : NO b = false) : Calls Try.prog 37 #[.slice A0 b.length c0, .int .i64 4096] w fun e w' => ∃ A' c', e = .returned (.tuple #[.slice A' (NL b).length c', errT (some 3)]) ∧ OwnK (Kd.int .i64) 3 w' w.heap.size w.heap.size A' (NL b).length c' (NL b) ∧ Below w.heap.size w w' := by
  have h := fnums w A0 c0 b base bb hO hb hl
  rw [ho] at h
  exact h
theorem fnums_yes (w : World) (A0 : Option Addr) (c0 : Nat) (b : List Int) (base bb : Nat) (hO : OwnK (Kd.int .u8) 5 w base bb A0 b.length c0 b) (hb : Bytes b) (hl : b.length ≤ 1000000) (ho : NO b = true) : Calls Try.prog 37 #[.slice A0 b.length c0, .int .i64 4096] w fun e w' => ∃ A' c', e = .returned (.tuple #[.slice A' (NL b).length c', .nilIface]) ∧ OwnK (Kd.int .i64) 3 w' w.heap.size w.heap.size A' (NL b).length c' (NL b) ∧ Below w.heap.size w w' := by
  have h := fnums w A0 c0 b base bb hO hb hl
  rw [ho] at h
  exact h
theorem funwrap_no (w : World) (A0 : Option Addr) (c0 : Nat) (b : List Int) (hC : (Kd.int .u8).C w A0 b.length b) (hc : b.length ≤ c0) (hb : Bytes b) (hl : b.length ≤ 1000000) (hw : wholeP b = 0) : Calls Try.prog 36 #[.slice A0 b.length c0] w fun e w' => ∃ A1 n1 c1 A2 n2 c2, e = .returned (.tuple #[.slice A1 n1 c1, .slice A2 n2 c2, errT (some 3)]) ∧ Below w.heap.size w w' := by
  refine (unwrap_calls w A0 c0 b hC hc hb hl).mono ?_
  rintro e w' ⟨A1, n1, c1, A2, n2, c2, m, rfl, h1, h2, h3, h4, h5, h6⟩
  exact ⟨A1, n1, c1, A2, n2, c2, by rw [err_same]; unfold UE; rw [if_pos hw], h6⟩
theorem funwrap_yes (w : World) (A0 : Option Addr) (c0 : Nat) (b : List Int) (hC : (Kd.int .u8).C w A0 b.length b) (hc : b.length ≤ c0) (hb : Bytes b) (hl : b.length ≤ 1000000) (hw : wholeP b ≠ 0) : Calls Try.prog 36 #[.slice A0 b.length c0] w fun e w' => ∃ A1 c1 A2 c2, e = .returned (.tuple #[.slice A1 (UN b).length c1, .slice A2 (UR b).length c2, .nilIface]) ∧ OwnK (Kd.int .u8) 5 w' w.heap.size w.heap.size A1 (UN b).length c1 (UN b) ∧ Below w.heap.size w w' := by
  refine (unwrap_calls w A0 c0 b hC hc hb hl).mono ?_
  rintro e w' ⟨A1, n1, c1, A2, n2, c2, m, rfl, h1, h2, h3, h4, h5, h6⟩
  have e1 := OwnK.len (d := Kd.int .u8) h1
  have e2 := OwnK.len (d := Kd.int .u8) h2
  subst e1
  subst e2
  exact ⟨A1, c1, A2, c2, by rw [err_same]; unfold UE; rw [if_neg hw]; rfl, h1, h6⟩
theorem UN_le (b : List Int) : (UN b).length ≤ b.length := by
  unfold UN
  split
  · simp
  · rw [List.length_drop, List.length_take]
    omega
theorem UN_bytes {b : List Int} (hb : Bytes b) : Bytes (UN b) := by
  unfold UN
  split
  · intro x hx
    simp at hx
  · exact (hb.take _).drop _
theorem fput0 (w : World) (DA : Option Addr) (dc : Nat) (ys : List Int) (hC1 : (Kd.int .i64).C w DA ys.length ys) (hc1 : ys.length ≤ dc) (hy : ∀ y ∈ ys, I64 y) (hl : ys.length ≤ 1000000) : Calls Try.prog 28 #[.slice none 0 0, .slice DA ys.length dc] w fun e w' => ∃ A' c', e = .returned (.slice A' (PB ys).length c') ∧ OwnK (Kd.int .u8) 5 w' w.heap.size w.heap.size A' (PB ys).length c' (PB ys) ∧ Below w.heap.size w w' := by
  refine (put_behind w none 0 0 [] ⟨rfl, by simp, fun h => absurd h (by decide)⟩ (by simp) rfl DA dc ys hC1 hc1 hy hl).mono ?_
  rintro e w' ⟨A', n', c', rfl, h1, h2⟩
  have e1 := OwnK.len (d := Kd.int .u8) h1
  rw [List.nil_append] at h1 e1
  subst e1
  exact ⟨A', c', rfl, h1, h2⟩
theorem fwrap1 (w : World) (A0 : Option Addr) (c0 : Nat) (p : List Int) (hP : (Kd.slice 5 (Kd.int .u8)).C w A0 [p].length [p]) (hc0 : 1 ≤ c0) (hl : p.length ≤ 140737488355328) : Calls Try.prog 27 #[.slice A0 1 c0] w fun e w' => ∃ A' c', e = .returned (.tuple #[.slice A' (frameB p).length c', errT (frameE p)]) ∧ OwnK (Kd.int .u8) 5 w' w.heap.size w.heap.size A' (frameB p).length c' (frameB p) ∧ Below w.heap.size w w' := by
  refine (wrap_calls w A0 c0 [p] hP hc0 (by simp) (by simpa using hl)).mono ?_
  rintro e w' ⟨A', n', c', rfl, h1, h2⟩
  rw [show [p].flatten = p by simp] at h1 ⊢
  have e1 := OwnK.len (d := Kd.int .u8) h1
  subst e1
  exact ⟨A', c', by rw [err_same], h1, h2⟩
theorem low_own {w : World} {base b : Nat} {A : Option Addr} {n c : Nat} {xs : List Int} (h : OwnK (Kd.int .i64) 3 w base b A n c xs) : Low w.heap.size A := fun ad e => by
  subst e
  exact (own_lt h (q := ad.block) rfl).2
def EB (n : NT) : List Int := if goodN n = true then frameB (PB (listN n)) else []
def EE (n : NT) : Option Int := if goodN n = true then frameE (PB (listN n)) else some 2
def decN (b : List Int) : NT × Option Int :=
  if wholeP b = 0 ∨ 0 < (UR b).length then (NT.zero, some 3)
  else if NO (UN b) = false then (NT.zero, some 4)
  else if (noteR ⟨NL (UN b), false⟩).2.bad = true ∨ 0 < (noteR ⟨NL (UN b), false⟩).2.xs.length ∨ goodN (noteR ⟨NL (UN b), false⟩).1 = false then (NT.zero, some 4)
  else ((noteR ⟨NL (UN b), false⟩).1, none)
theorem good_sz {n : NT} (h : goodN n = true) : n.nums.length ≤ 39 ∧ n.ops.length ≤ 16 ∧ n.ents.length ≤ 16 := by
  have hs : shapeK n.kind ≠ none := fun e => by rw [good_no e] at h; cases h
  rcases e : shapeK n.kind with _ | ⟨a, b, c⟩
  · exact absurd e hs
  · obtain ⟨⟨h1, h2, h3, h4, h5, h6, h7, h8, h9, h10, h11⟩, h12⟩ := (good_iff e).1 h
    refine ⟨?_, h8, h10⟩
    unfold shapeK at e
    repeat' split at e
    all_goals first | (cases e; omega) | cases e
theorem numsR_len : ∀ (k : Nat) (s : RS), (numsR k s).1.length = k
  | 0, s => rfl
  | k + 1, s => by simp only [numsR, List.length_append, List.length_cons, List.length_nil, numsR_len k s]
theorem opsR_len : ∀ (k : Nat) (s : RS), (opsR k s).1.length = k
  | 0, s => rfl
  | k + 1, s => by simp only [opsR, List.length_append, List.length_cons, List.length_nil, opsR_len k s]
theorem entsR_len : ∀ (k : Nat) (s : RS), (entsR k s).1.length ≤ k
  | 0, s => Nat.le_refl _
  | k + 1, s => by
    have h := entsR_len k s
    simp only [entsR]
    split
    · omega
    · simp only [List.length_append, List.length_cons, List.length_nil]
      omega
theorem countR_le (m : Int) (s : RS) (hm : 0 ≤ m) : (countR m s).1.toNat ≤ m.toNat := by
  rcases h : countR m s with ⟨y, s2⟩
  obtain ⟨k, h1, rfl, _⟩ := count_nat h hm
  simp only [Int.toNat_natCast]
  omega
theorem note_sz (s : RS) : (noteR s).1.nums.length ≤ 64 ∧ (noteR s).1.ops.length ≤ 16 ∧ (noteR s).1.ents.length ≤ 16 := by
  simp only [noteR]
  refine ⟨?_, ?_, ?_⟩
  · rw [numsR_len]
    exact countR_le 64 _ (by decide)
  · rw [opsR_len]
    exact countR_le 16 _ (by decide)
  · exact Nat.le_trans (entsR_len _ _) (countR_le 16 _ (by decide))
end Go.Proofs.Ytbbhdohjhipalaa.Ce
end
section
namespace Go.Proofs.Ytbbhdohjhipalaa.Ce
open Go.RowKit Go.Proofs.YtbbhdohjhipalaaW.PrintWords Go.Proofs.YtbbhdohjhipalaaW.PrintLast Go.Proofs.YtbbhdohjhipalaaW.PrintMore
open Go.Proofs.Ytbbhdohjhipalaa.Flow
open Go.Proofs.Ytbbhdohjhipalaa.PNoteReads
set_option linter.unusedVariables false
set_option linter.unusedSimpArgs false
theorem check_no (w : World) (n : NT) (A3 : Option Addr) (c3 : Nat) (A4 : Option Addr) (c4 : Nat) (A5 : Option Addr) (c5 : Nat) (hn3 : (Kd.int .i64).C w A3 n.nums.length n.nums) (hc3 : n.nums.length ≤ c3) (hn4 : kOp.C w A4 n.ops.length n.ops) (hc4 : n.ops.length ≤ c4) (hn5 : kEntry.C w A5 n.ents.length n.ents) (hc5 : n.ents.length ≤ c5) (hk3 : n.nums.length ≤ 140737488355328) (hk4 : n.ops.length ≤ 140737488355328) (hk5 : n.ents.length ≤ 140737488355328) (hg : goodN n = false) : Calls Try.prog 15 #[.agg #[.int .i64 n.kind, .int .i64 n.fr, .int .i64 n.tw, .slice A3 n.nums.length c3, .slice A4 n.ops.length c4, .slice A5 n.ents.length c5]] w fun e w' => e = .returned (errT (some 2)) ∧ Below w.heap.size w w' := by
  have h := check_calls w n A3 c3 A4 c4 A5 c5 hn3 hc3 hn4 hc4 hn5 hc5 hk3 hk4 hk5
  rw [hg] at h
  exact h
theorem check_yes (w : World) (n : NT) (A3 : Option Addr) (c3 : Nat) (A4 : Option Addr) (c4 : Nat) (A5 : Option Addr) (c5 : Nat) (hn3 : (Kd.int .i64).C w A3 n.nums.length n.nums) (hc3 : n.nums.length ≤ c3) (hn4 : kOp.C w A4 n.ops.length n.ops) (hc4 : n.ops.length ≤ c4) (hn5 : kEntry.C w A5 n.ents.length n.ents) (hc5 : n.ents.length ≤ c5) (hk3 : n.nums.length ≤ 140737488355328) (hk4 : n.ops.length ≤ 140737488355328) (hk5 : n.ents.length ≤ 140737488355328) (hg : goodN n = true) : Calls Try.prog 15 #[.agg #[.int .i64 n.kind, .int .i64 n.fr, .int .i64 n.tw, .slice A3 n.nums.length c3, .slice A4 n.ops.length c4, .slice A5 n.ents.length c5]] w fun e w' => e = .returned .nilIface ∧ Below w.heap.size w w' := by
  have h := check_calls w n A3 c3 A4 c4 A5 c5 hn3 hc3 hn4 hc4 hn5 hc5 hk3 hk4 hk5
  rw [hg] at h
  exact h
theorem note_k (w w1 : World) (g : Nat) (s : RS) (n : NT) (s2 : RS) (hx : noteR s = (n, s2)) (hb0 : Below w.heap.size w w1) (hg0 : w.heap.size ≤ g) (A : Option Addr) (c : Nat) (hb : Blk w1 g 90 #[.slice A s.xs.length c, .bool s.bad]) (hr : RRow w1 A s.xs.length c s.xs) (hl : Low w1.heap.size A) (hln : s.xs.length ≤ 100000) :
    Calls Try.prog 38 #[.pointer (some ⟨g, 0, none⟩)] w1 fun e w' => ∃ A3 c3 A4 c4 A5 c5, e = .returned (.agg #[.int .i64 n.kind, .int .i64 n.fr, .int .i64 n.tw, .slice A3 n.nums.length c3, .slice A4 n.ops.length c4, .slice A5 n.ents.length c5]) ∧ OwnK (Kd.int .i64) 3 w' w.heap.size w1.heap.size A3 n.nums.length c3 n.nums ∧ OwnK kOp 73 w' w.heap.size w1.heap.size A4 n.ops.length c4 n.ops ∧ OwnK kEntry 83 w' w.heap.size w1.heap.size A5 n.ents.length c5 n.ents ∧ RD w' g s2 ∧ Below w.heap.size w w' := by
  have h := note_raw w w1 g s hb0 hb0.size hg0 hb.lt A c hb hr hl hln
  rw [hx] at h
  exact h
theorem eb_no {n : NT} (h : goodN n = false) : EB n = [] ∧ EE n = some 2 := by unfold EB EE; rw [h]; exact ⟨rfl, rfl⟩
theorem eb_yes {n : NT} (h : goodN n = true) : EB n = frameB (PB (listN n)) ∧ EE n = frameE (PB (listN n)) := by unfold EB EE; rw [h]; exact ⟨rfl, rfl⟩
theorem listN_len (n : NT) (hk3 : n.nums.length ≤ 1000) (hk4 : n.ops.length ≤ 1000) (hk5 : n.ents.length ≤ 1000) : (listN n).length ≤ 160000 := by
  unfold listN
  have h1 := opsL_len n.ops
  have h2 := entsL_len n.ents
  simp only [List.length_append, List.length_cons, List.length_nil]
  omega
set_option maxHeartbeats 4000000 in
theorem enc_calls (w : World) (n : NT) (A3 : Option Addr) (c3 : Nat) (A4 : Option Addr) (c4 : Nat) (A5 : Option Addr) (c5 : Nat) (hn3 : (Kd.int .i64).C w A3 n.nums.length n.nums) (hc3 : n.nums.length ≤ c3) (hn4 : kOp.C w A4 n.ops.length n.ops) (hc4 : n.ops.length ≤ c4) (hn5 : kEntry.C w A5 n.ents.length n.ents) (hc5 : n.ents.length ≤ c5) (hk3 : n.nums.length ≤ 140737488355328) (hk4 : n.ops.length ≤ 140737488355328) (hk5 : n.ents.length ≤ 140737488355328) (hI : ∀ y ∈ listN n, I64 y) :
  Calls Try.prog 12 #[.agg #[.int .i64 n.kind, .int .i64 n.fr, .int .i64 n.tw, .slice A3 n.nums.length c3, .slice A4 n.ops.length c4, .slice A5 n.ents.length c5]] w fun e w' => ∃ A' c', e = .returned (.tuple #[.slice A' (EB n).length c', errT (EE n)]) ∧ OwnK (Kd.int .u8) 5 w' w.heap.size w.heap.size A' (EB n).length c' (EB n) ∧ Below w.heap.size w w' := by
 refine calls_flow Try.func12 rfl 17 rfl (Nat.le_of_ble_eq_true rfl) [(0, .agg #[.int .i64 n.kind, .int .i64 n.fr, .int .i64 n.tw, .slice A3 n.nums.length c3, .slice A4 n.ops.length c4, .slice A5 n.ents.length c5])] ?_ ?_
 ·
  intro t v h; exact args_look rfl t v h
 refine wsr ?_
 refine rw_new (cs := #[.int .i64 n.kind, .int .i64 n.fr, .int .i64 n.tw, .slice A3 n.nums.length c3, .slice A4 n.ops.length c4, .slice A5 n.ents.length c5]) (t := 26) (fun g => .pointer (some ⟨g, 0, none⟩)) rfl rfl rfl rfl (by simp [go_sem, sEv, sLook, nbeq, i64_w, -List.getD_eq_getElem?_getD]) ?_
 intro g1 w2 hg6 hz5 hb3 hk4
 have hs_w2 := hb3.size
 refine rv (.slice none 0 0) ?_
 refine rv .nilIface ?_
 refine rw_end ?_
 refine w_seq ?_
 refine wsr ?_
 refine rz (.agg #[.int .i64 n.kind, .int .i64 n.fr, .int .i64 n.tw, .slice A3 n.nums.length c3, .slice A4 n.ops.length c4, .slice A5 n.ents.length c5]) (by have eb_ := hk4; have e0_ := eb_.cellv (i := 0) (v := (.int .i64 n.kind : Value)) rfl; have e1_ := eb_.cellv (i := 1) (v := (.int .i64 n.fr : Value)) rfl; have e2_ := eb_.cellv (i := 2) (v := (.int .i64 n.tw : Value)) rfl; have e3_ := eb_.cellv (i := 3) (v := (.slice A3 n.nums.length c3 : Value)) rfl; have e4_ := eb_.cellv (i := 4) (v := (.slice A4 n.ops.length c4 : Value)) rfl; have e5_ := eb_.cellv (i := 5) (v := (.slice A5 n.ents.length c5 : Value)) rfl; simp [go_sem, sEv, sLook, nbeq, i64_w, -List.getD_eq_getElem?_getD, e0_, e1_, e2_, e3_, e4_, e5_, Try.underlying26]) ?_
 rcases hg_ : goodN n with _ | _
 ·
  refine rw_call rfl rfl rfl rfl (f := 15) (args := #[.agg #[.int .i64 n.kind, .int .i64 n.fr, .int .i64 n.tw, .slice A3 n.nums.length c3, .slice A4 n.ops.length c4, .slice A5 n.ents.length c5]]) (by simp [go_sem, sEv, sLook, nbeq, i64_w, -List.getD_eq_getElem?_getD]) (check_no w2 n A3 c3 A4 c4 A5 c5 (Kd.C_below hn3 hb3) hc3 (Kd.C_below hn4 hb3) hc4 (Kd.C_below hn5 hb3) hc5 (by omega) (by omega) (by omega) hg_) ?_
  rintro e_ w7 ⟨rfl, hb8⟩
  refine ⟨_, rfl, ?_⟩
  have hs_w7 := hb8.size
  refine rv (errT (some 2)) ?_
  refine rw_end ?_
  refine wsr ?_
  refine rv (errT (some 2)) ?_
  refine rz (.bool ((some 2).isSome)) (run_as (guard_err_neq _ (some 2) _)) ?_
  refine rw_end ?_
  have hq9 : ((some 2).isSome) = true := by rfl
  refine w_cond_t rfl rfl hq9 ?_
  refine wsr ?_
  refine rv (errT (some 2)) ?_
  refine rv (.slice none 0 0) ?_
  refine rv (errT (some 2)) ?_
  refine rw_end ?_
  refine w_ret (post_ret2 rfl rfl rfl ?_)
  rw [(eb_no hg_).1, (eb_no hg_).2]
  exact ⟨_, _, rfl, OwnK.nil _ _ _ _ _, (chain hb3 hb8)⟩
 ·
  refine rw_call rfl rfl rfl rfl (f := 15) (args := #[.agg #[.int .i64 n.kind, .int .i64 n.fr, .int .i64 n.tw, .slice A3 n.nums.length c3, .slice A4 n.ops.length c4, .slice A5 n.ents.length c5]]) (by simp [go_sem, sEv, sLook, nbeq, i64_w, -List.getD_eq_getElem?_getD]) (check_yes w2 n A3 c3 A4 c4 A5 c5 (Kd.C_below hn3 hb3) hc3 (Kd.C_below hn4 hb3) hc4 (Kd.C_below hn5 hb3) hc5 (by omega) (by omega) (by omega) hg_) ?_
  rintro e_ w10 ⟨rfl, hb11⟩
  refine ⟨_, rfl, ?_⟩
  have hs_w10 := hb11.size
  refine rv .nilIface ?_
  refine rw_end ?_
  refine wsr ?_
  refine rv .nilIface ?_
  refine rz (.bool ((none : Option Int).isSome)) (run_as (guard_err_neq _ (none : Option Int) _)) ?_
  refine rw_end ?_
  have hq12 : ((none : Option Int).isSome) = false := by rfl
  refine w_cond_f rfl rfl hq12 ?_
  refine w_skip ?_
  refine wsr ?_
  refine rz (.agg #[.int .i64 n.kind, .int .i64 n.fr, .int .i64 n.tw, .slice A3 n.nums.length c3, .slice A4 n.ops.length c4, .slice A5 n.ents.length c5]) (by have eb_ := (hk4.on hb11); have e0_ := eb_.cellv (i := 0) (v := (.int .i64 n.kind : Value)) rfl; have e1_ := eb_.cellv (i := 1) (v := (.int .i64 n.fr : Value)) rfl; have e2_ := eb_.cellv (i := 2) (v := (.int .i64 n.tw : Value)) rfl; have e3_ := eb_.cellv (i := 3) (v := (.slice A3 n.nums.length c3 : Value)) rfl; have e4_ := eb_.cellv (i := 4) (v := (.slice A4 n.ops.length c4 : Value)) rfl; have e5_ := eb_.cellv (i := 5) (v := (.slice A5 n.ents.length c5 : Value)) rfl; simp [go_sem, sEv, sLook, nbeq, i64_w, -List.getD_eq_getElem?_getD, e0_, e1_, e2_, e3_, e4_, e5_, Try.underlying26]) ?_
  have hz_ := good_sz hg_
  have hll_ := listN_len n (by omega) (by omega) (by omega)
  refine rw_call rfl rfl rfl rfl (f := 29) (args := #[.agg #[.int .i64 n.kind, .int .i64 n.fr, .int .i64 n.tw, .slice A3 n.nums.length c3, .slice A4 n.ops.length c4, .slice A5 n.ents.length c5]]) (by simp [go_sem, sEv, sLook, nbeq, i64_w, -List.getD_eq_getElem?_getD]) (notenums_calls w10 n A3 c3 A4 c4 A5 c5 (Kd.C_below hn3 (chain hb3 hb11)) hc3 (Kd.C_below hn4 (chain hb3 hb11)) hc4 (Kd.C_below hn5 (chain hb3 hb11)) hc5 (by omega) (by omega) (by omega)) ?_
  rintro e_ w13 ⟨A15, c16, rfl, hO170, hb14⟩
  refine ⟨_, rfl, ?_⟩
  have hs_w13 := hb14.size
  have hO17 := OwnK.lower (base' := w.heap.size) (d := (Kd.int .i64)) hO170 (by omega)
  refine rw_call rfl rfl rfl rfl (f := 28) (args := #[.slice none 0 0, .slice A15 ((listN n).length) c16]) (by simp [go_sem, sEv, sLook, nbeq, i64_w, -List.getD_eq_getElem?_getD]) (fput0 w13 A15 c16 (listN n) (OwnK.C (d := (Kd.int .i64)) hO17) (by have q_ := OwnK.cap (d := (Kd.int .i64)) hO17; omega) hI (by omega)) ?_
  rintro e_ w18 ⟨A20, c21, rfl, hO220, hb19⟩
  refine ⟨_, rfl, ?_⟩
  have hs_w18 := hb19.size
  have hO22 := OwnK.lower (base' := w.heap.size) (d := (Kd.int .u8)) hO220 (by omega)
  refine rw_new (cs := #[.slice A20 ((PB (listN n)).length) c21]) (t := 30) (fun g => .slice (some ⟨g, 0, none⟩) 1 1) rfl rfl rfl rfl (by kernel_rfl) ?_
  intro g23 w24 hg28 hz27 hb25 hk26
  have hs_w24 := hb25.size
  have hpl_ := PB_len (listN n) hI
  refine rw_call rfl rfl rfl rfl (f := 27) (args := #[.slice (some ⟨g23, 0, none⟩) 1 1]) (by simp [go_sem, sEv, sLook, nbeq, i64_w, -List.getD_eq_getElem?_getD]) (fwrap1 w24 _ 1 (PB (listN n)) (rows1 (e := 5) hk26 (by have q_ := OwnK.cap (d := (Kd.int .u8)) (OwnK.on (d := (Kd.int .u8)) hO22 hb25); omega) (OwnK.C (d := (Kd.int .u8)) (OwnK.on (d := (Kd.int .u8)) hO22 hb25))) (by decide) (by omega)) ?_
  rintro e_ w29 ⟨A31, c32, rfl, hO330, hb30⟩
  refine ⟨_, rfl, ?_⟩
  have hs_w29 := hb30.size
  have hO33 := OwnK.lower (base' := w.heap.size) (d := (Kd.int .u8)) hO330 (by omega)
  refine rs (.slice A31 ((frameB (PB (listN n))).length) c32) ?_
  refine rs (errT (frameE (PB (listN n)))) ?_
  refine rv (.slice A31 ((frameB (PB (listN n))).length) c32) ?_
  refine rv (errT (frameE (PB (listN n)))) ?_
  refine rw_end ?_
  refine w_weaken (G' := [(2, .slice A31 ((frameB (PB (listN n))).length) c32), (3, errT (frameE (PB (listN n))))]) ⟨rfl, rfl, trivial⟩ ?_
  refine w_ret (post_ret2 rfl rfl rfl ?_)
  rw [(eb_yes hg_).1, (eb_yes hg_).2]
  exact ⟨_, _, rfl, OwnK.mono (d := (Kd.int .u8)) hO33 (by omega), (chain (chain (chain (chain (chain hb3 hb11) hb14) hb19) hb25) hb30)⟩
end Go.Proofs.Ytbbhdohjhipalaa.Ce
end
section
namespace Go.Proofs.Ytbbhdohjhipalaa.Ce
open Go.RowKit Go.Proofs.YtbbhdohjhipalaaW.PrintWords Go.Proofs.YtbbhdohjhipalaaW.PrintLast Go.Proofs.YtbbhdohjhipalaaW.PrintMore
open Go.Proofs.Ytbbhdohjhipalaa.Flow
open Go.Proofs.Ytbbhdohjhipalaa.PNoteReads
set_option linter.unusedVariables false
set_option linter.unusedSimpArgs false
theorem numsP_le : ∀ (K : Nat) (b x : List Int), (numsP K b 4096 x).1.length ≤ 4096
  | 0, b, x => by simp [numsP]
  | K + 1, b, x => by
    rw [numsP]
    split
    · split
      · simp
      · show x.length ≤ 4096
        omega
    · split
      · simp
      · exact numsP_le K _ _
theorem NL_4096 (b : List Int) : (NL b).length ≤ 4096 := numsP_le _ _ _
theorem dec_no (b : List Int) (h : wholeP b = 0 ∨ 0 < (UR b).length) : decN b = (NT.zero, some 3) := if_pos h
theorem dec_bad (b : List Int) (h1 : wholeP b ≠ 0) (h2 : (UR b).length = 0) (h : NO (UN b) = false) : decN b = (NT.zero, some 4) := by
  unfold decN
  rw [if_neg (by omega), if_pos h]
theorem dec_bad2 (b : List Int) {n : NT} {s : RS} (h1 : wholeP b ≠ 0) (h2 : (UR b).length = 0) (h3 : NO (UN b) = true) (hn : noteR ⟨NL (UN b), false⟩ = (n, s)) (h : s.bad = true ∨ 0 < s.xs.length ∨ goodN n = false) : decN b = (NT.zero, some 4) := by
  unfold decN
  rw [if_neg (by omega), if_neg (by rw [h3]; simp), hn, if_pos h]
theorem dec_ok (b : List Int) {n : NT} {s : RS} (h1 : wholeP b ≠ 0) (h2 : (UR b).length = 0) (h3 : NO (UN b) = true) (hn : noteR ⟨NL (UN b), false⟩ = (n, s)) (h4 : s.bad = false) (h5 : s.xs.length = 0) (h6 : goodN n = true) : decN b = (n, none) := by
  unfold decN
  rw [if_neg (by omega), if_neg (by rw [h3]; simp), hn, if_neg (by rw [h4, h6]; simp; exact List.length_eq_zero_iff.1 h5)]
theorem note_sz2 {s s2 : RS} {n : NT} (h : noteR s = (n, s2)) : n.nums.length ≤ 64 ∧ n.ops.length ≤ 16 ∧ n.ents.length ≤ 16 := by
  have q := note_sz s
  rw [h] at q
  exact q
set_option maxHeartbeats 4000000 in
theorem dec_calls (w : World) (A0 : Option Addr) (c0 : Nat) (b : List Int) (hC : (Kd.int .u8).C w A0 b.length b) (hc : b.length ≤ c0) (hb : Bytes b) (hl : b.length ≤ 1000000) :
  Calls Try.prog 19 #[.slice A0 b.length c0] w fun e w' => ∃ A3 c3 A4 c4 A5 c5, e = .returned (.tuple #[.agg #[.int .i64 (decN b).1.kind, .int .i64 (decN b).1.fr, .int .i64 (decN b).1.tw, .slice A3 (decN b).1.nums.length c3, .slice A4 (decN b).1.ops.length c4, .slice A5 (decN b).1.ents.length c5], errT (decN b).2]) ∧ OwnK (Kd.int .i64) 3 w' w.heap.size w.heap.size A3 (decN b).1.nums.length c3 (decN b).1.nums ∧ OwnK kOp 73 w' w.heap.size w.heap.size A4 (decN b).1.ops.length c4 (decN b).1.ops ∧ OwnK kEntry 83 w' w.heap.size w.heap.size A5 (decN b).1.ents.length c5 (decN b).1.ents ∧ Below w.heap.size w w' := by
 refine calls_flow Try.func19 rfl 59 rfl (Nat.le_of_ble_eq_true rfl) [(0, .slice A0 b.length c0)] ?_ ?_
 ·
  intro t v h; exact args_look rfl t v h
 refine wsr ?_
 refine rw_new (cs := #[.int .i64 0, .int .i64 0, .int .i64 0, .slice none 0 0, .slice none 0 0, .slice none 0 0]) (t := 26) (fun g => .pointer (some ⟨g, 0, none⟩)) rfl rfl rfl rfl (by kernel_rfl) ?_
 intro g1 w2 hg6 hz5 hb3 hk4
 have hs_w2 := hb3.size
 refine rv .nilIface ?_
 refine rw_end ?_
 refine wsr ?_
 refine rv (.slice A0 b.length c0) ?_
 by_cases hw_ : wholeP b = 0
 ·
  refine rw_call rfl rfl rfl rfl (f := 36) (args := #[.slice A0 b.length c0]) (by simp [go_sem, sEv, sLook, nbeq, i64_w, -List.getD_eq_getElem?_getD]) (funwrap_no w2 A0 c0 b (Kd.C_below hC hb3) hc hb hl hw_) ?_
  rintro e_ w7 ⟨A9, n10, c11, A12, n13, c14, rfl, hb8⟩
  refine ⟨_, rfl, ?_⟩
  have hs_w7 := hb8.size
  refine rv (.tuple #[.slice A9 n10 c11, .slice A12 n13 c14, errT (some 3)]) ?_
  refine rs (.slice A9 n10 c11) ?_
  refine rs (.slice A12 n13 c14) ?_
  refine rs (errT (some 3)) ?_
  refine rv (.slice A9 n10 c11) ?_
  refine rv (.slice A12 n13 c14) ?_
  refine rv (errT (some 3)) ?_
  refine rw_end ?_
  refine w_weaken (G' := [(2, .pointer (some ⟨g1, 0, none⟩)), (3, .nilIface), (4, .slice A9 n10 c11), (5, .slice A12 n13 c14), (6, errT (some 3))]) ⟨rfl, rfl, rfl, rfl, rfl, trivial⟩ ?_
  refine w_seq ?_
  refine wsr ?_
  refine rv (errT (some 3)) ?_
  refine rz (.bool ((some 3).isSome)) (run_as (guard_err_neq _ (some 3) _)) ?_
  refine rv (.bool ((some 3).isSome)) ?_
  have hq15 : ((some 3).isSome) = true := by rfl
  refine rok hq15 ?_
  refine rok hq15 ?_
  refine rok hq15 ?_
  refine rp hq15 (.bool true) ?_
  refine rw_end ?_
  refine w_weaken (G' := [(2, .pointer (some ⟨g1, 0, none⟩)), (3, .nilIface), (4, .slice A9 n10 c11), (6, errT (some 3)), (22, .bool true)]) ⟨rfl, rfl, rfl, rfl, rfl, trivial⟩ ?_
  refine w_cond_t rfl rfl rfl ?_
  refine wsr ?_
  refine rz (.agg #[.int .i64 0, .int .i64 0, .int .i64 0, .slice none 0 0, .slice none 0 0, .slice none 0 0]) (by kernel_rfl) ?_
  refine rz (errT (some 3)) (by simp [go_sem, sEv, sLook, nbeq, i64_w, -List.getD_eq_getElem?_getD, errT]) ?_
  have hb19 := (hk4.on hb8)
  refine rw_store (g := g1) (i := 0) (l := [.int .i64 0, .int .i64 0, .int .i64 0, .slice none 0 0, .slice none 0 0, .slice none 0 0]) (cs' := #[.int .i64 0, .int .i64 0, .int .i64 0, .slice none 0 0, .slice none 0 0, .slice none 0 0]) rfl rfl rfl hb19 rfl (by have e0_ := hb19.cellv (i := 0) (v := (.int .i64 0 : Value)) rfl; have f0_ := hb19.frozen 0; have e1_ := hb19.cellv (i := 1) (v := (.int .i64 0 : Value)) rfl; have f1_ := hb19.frozen 1; have e2_ := hb19.cellv (i := 2) (v := (.int .i64 0 : Value)) rfl; have f2_ := hb19.frozen 2; have e3_ := hb19.cellv (i := 3) (v := (.slice none 0 0 : Value)) rfl; have f3_ := hb19.frozen 3; have e4_ := hb19.cellv (i := 4) (v := (.slice none 0 0 : Value)) rfl; have f4_ := hb19.frozen 4; have e5_ := hb19.cellv (i := 5) (v := (.slice none 0 0 : Value)) rfl; have f5_ := hb19.frozen 5; simp [go_sem, sEv, sLook, nbeq, i64_w, -List.getD_eq_getElem?_getD, putCells, e0_, f0_, e1_, f1_, e2_, f2_, e3_, f3_, e4_, f4_, e5_, f5_, Try.underlying26]) ?_
  intro w16 hk17 hk18
  have hs_w16 := hk17.size
  refine rv (errT (some 3)) ?_
  refine rw_end ?_
  refine w_weaken (G' := [(2, .pointer (some ⟨g1, 0, none⟩)), (3, errT (some 3)), (4, .slice A9 n10 c11), (6, errT (some 3))]) ⟨rfl, rfl, rfl, rfl, trivial⟩ ?_
  refine w_ret (post_retct (v := .agg #[.int .i64 0, .int .i64 0, .int .i64 0, .slice none 0 0, .slice none 0 0, .slice none 0 0]) rfl rfl rfl (by have eb_ := hk18; have e0_ := eb_.cellv (i := 0) (v := (.int .i64 0 : Value)) rfl; have e1_ := eb_.cellv (i := 1) (v := (.int .i64 0 : Value)) rfl; have e2_ := eb_.cellv (i := 2) (v := (.int .i64 0 : Value)) rfl; have e3_ := eb_.cellv (i := 3) (v := (.slice none 0 0 : Value)) rfl; have e4_ := eb_.cellv (i := 4) (v := (.slice none 0 0 : Value)) rfl; have e5_ := eb_.cellv (i := 5) (v := (.slice none 0 0 : Value)) rfl; simp [go_sem, e0_, e1_, e2_, e3_, e4_, e5_, Try.underlying26]) ?_)
  rw [dec_no b (.inl hw_)]
  exact ⟨_, _, _, _, _, _, rfl, OwnK.nil _ _ _ _ _, OwnK.nil _ _ _ _ _, OwnK.nil _ _ _ _ _, (hk17.below (by omega) (chain hb3 hb8))⟩
 ·
  refine rw_call rfl rfl rfl rfl (f := 36) (args := #[.slice A0 b.length c0]) (by simp [go_sem, sEv, sLook, nbeq, i64_w, -List.getD_eq_getElem?_getD]) (funwrap_yes w2 A0 c0 b (Kd.C_below hC hb3) hc hb hl hw_) ?_
  rintro e_ w20 ⟨A23, c24, A25, c26, rfl, hO220, hb21⟩
  refine ⟨_, rfl, ?_⟩
  have hs_w20 := hb21.size
  have hO22 := OwnK.lower (base' := w.heap.size) (d := (Kd.int .u8)) hO220 (by omega)
  refine rv (.tuple #[.slice A23 ((UN b).length) c24, .slice A25 ((UR b).length) c26, .nilIface]) ?_
  refine rs (.slice A23 ((UN b).length) c24) ?_
  refine rs (.slice A25 ((UR b).length) c26) ?_
  refine rs .nilIface ?_
  refine rv (.slice A23 ((UN b).length) c24) ?_
  refine rv (.slice A25 ((UR b).length) c26) ?_
  refine rv .nilIface ?_
  refine rw_end ?_
  refine w_weaken (G' := [(2, .pointer (some ⟨g1, 0, none⟩)), (3, .nilIface), (4, .slice A23 ((UN b).length) c24), (5, .slice A25 ((UR b).length) c26), (6, .nilIface)]) ⟨rfl, rfl, rfl, rfl, rfl, trivial⟩ ?_
  refine w_seq ?_
  refine wsr ?_
  refine rv .nilIface ?_
  refine rz (.bool ((none : Option Int).isSome)) (run_as (guard_err_neq _ (none : Option Int) _)) ?_
  refine rv (.bool ((none : Option Int).isSome)) ?_
  have hq27 : ((none : Option Int).isSome) = false := by rfl
  refine rnk hq27 ?_
  refine rv (.slice A25 ((UR b).length) c26) ?_
  refine rnk hq27 ?_
  refine rs (.int .i64 (((UR b).length : Nat) : Int)) ?_
  refine rnk hq27 ?_
  refine rs (.bool (decide (0 < (((UR b).length : Nat) : Int)))) ?_
  refine rp hq27 (.bool (decide (0 < (((UR b).length : Nat) : Int)))) ?_
  refine rw_end ?_
  refine w_weaken (G' := [(2, .pointer (some ⟨g1, 0, none⟩)), (3, .nilIface), (4, .slice A23 ((UN b).length) c24), (6, .nilIface), (22, .bool (decide (0 < (((UR b).length : Nat) : Int))))]) ⟨rfl, rfl, rfl, rfl, rfl, trivial⟩ ?_
  refine w_cond rfl rfl (fun cU => ?_) (fun cU => ?_)
  ·
   have l28 : (0 < (((UR b).length : Nat) : Int)) := of_decide_eq_true cU
   refine wsr ?_
   refine rz (.agg #[.int .i64 0, .int .i64 0, .int .i64 0, .slice none 0 0, .slice none 0 0, .slice none 0 0]) (by kernel_rfl) ?_
   refine rz (errT (some 3)) (by simp [go_sem, sEv, sLook, nbeq, i64_w, -List.getD_eq_getElem?_getD, errT]) ?_
   have hb32 := (hk4.on hb21)
   refine rw_store (g := g1) (i := 0) (l := [.int .i64 0, .int .i64 0, .int .i64 0, .slice none 0 0, .slice none 0 0, .slice none 0 0]) (cs' := #[.int .i64 0, .int .i64 0, .int .i64 0, .slice none 0 0, .slice none 0 0, .slice none 0 0]) rfl rfl rfl hb32 rfl (by have e0_ := hb32.cellv (i := 0) (v := (.int .i64 0 : Value)) rfl; have f0_ := hb32.frozen 0; have e1_ := hb32.cellv (i := 1) (v := (.int .i64 0 : Value)) rfl; have f1_ := hb32.frozen 1; have e2_ := hb32.cellv (i := 2) (v := (.int .i64 0 : Value)) rfl; have f2_ := hb32.frozen 2; have e3_ := hb32.cellv (i := 3) (v := (.slice none 0 0 : Value)) rfl; have f3_ := hb32.frozen 3; have e4_ := hb32.cellv (i := 4) (v := (.slice none 0 0 : Value)) rfl; have f4_ := hb32.frozen 4; have e5_ := hb32.cellv (i := 5) (v := (.slice none 0 0 : Value)) rfl; have f5_ := hb32.frozen 5; simp [go_sem, sEv, sLook, nbeq, i64_w, -List.getD_eq_getElem?_getD, putCells, e0_, f0_, e1_, f1_, e2_, f2_, e3_, f3_, e4_, f4_, e5_, f5_, Try.underlying26]) ?_
   intro w29 hk30 hk31
   have hs_w29 := hk30.size
   refine rv (errT (some 3)) ?_
   refine rw_end ?_
   refine w_weaken (G' := [(2, .pointer (some ⟨g1, 0, none⟩)), (3, errT (some 3)), (4, .slice A23 ((UN b).length) c24), (6, .nilIface)]) ⟨rfl, rfl, rfl, rfl, trivial⟩ ?_
   refine w_ret (post_retct (v := .agg #[.int .i64 0, .int .i64 0, .int .i64 0, .slice none 0 0, .slice none 0 0, .slice none 0 0]) rfl rfl rfl (by have eb_ := hk31; have e0_ := eb_.cellv (i := 0) (v := (.int .i64 0 : Value)) rfl; have e1_ := eb_.cellv (i := 1) (v := (.int .i64 0 : Value)) rfl; have e2_ := eb_.cellv (i := 2) (v := (.int .i64 0 : Value)) rfl; have e3_ := eb_.cellv (i := 3) (v := (.slice none 0 0 : Value)) rfl; have e4_ := eb_.cellv (i := 4) (v := (.slice none 0 0 : Value)) rfl; have e5_ := eb_.cellv (i := 5) (v := (.slice none 0 0 : Value)) rfl; simp [go_sem, e0_, e1_, e2_, e3_, e4_, e5_, Try.underlying26]) ?_)
   rw [dec_no b (.inr (by simpa using cU))]
   exact ⟨_, _, _, _, _, _, rfl, OwnK.nil _ _ _ _ _, OwnK.nil _ _ _ _ _, OwnK.nil _ _ _ _ _, (hk30.below (by omega) (chain hb3 hb21))⟩
  ·
   have l33 : ¬ (0 < (((UR b).length : Nat) : Int)) := of_decide_eq_false cU
   refine w_skip ?_
   refine wsr ?_
   refine rv (.slice A23 ((UN b).length) c24) ?_
   rcases hn_ : NO (UN b) with _ | _
   ·
    have hul_ := UN_le b
    refine rw_call rfl rfl rfl rfl (f := 37) (args := #[.slice A23 ((UN b).length) c24, .int .i64 4096]) (by simp [go_sem, sEv, sLook, nbeq, i64_w, -List.getD_eq_getElem?_getD]) (fnums_no w20 A23 c24 (UN b) _ _ hO22 (UN_bytes hb) (by omega) hn_) ?_
    rintro e_ w34 ⟨A37, c38, rfl, hO360, hb35⟩
    refine ⟨_, rfl, ?_⟩
    have hs_w34 := hb35.size
    have hO36 := OwnK.lower (base' := w.heap.size) (d := (Kd.int .i64)) hO360 (by omega)
    refine rv (.tuple #[.slice A37 ((NL (UN b)).length) c38, errT (some 3)]) ?_
    refine rs (.slice A37 ((NL (UN b)).length) c38) ?_
    refine rs (errT (some 3)) ?_
    refine rv (.slice A37 ((NL (UN b)).length) c38) ?_
    refine rv (errT (some 3)) ?_
    refine rw_end ?_
    refine w_weaken (G' := [(2, .pointer (some ⟨g1, 0, none⟩)), (3, .nilIface), (6, errT (some 3)), (7, .slice A37 ((NL (UN b)).length) c38)]) ⟨rfl, rfl, rfl, rfl, trivial⟩ ?_
    refine w_seq ?_
    refine wsr ?_
    refine rv (errT (some 3)) ?_
    refine rz (.bool ((some 3).isSome)) (run_as (guard_err_neq _ (some 3) _)) ?_
    refine rw_end ?_
    have hq39 : ((some 3).isSome) = true := by rfl
    refine w_cond_t rfl rfl hq39 ?_
    refine wsr ?_
    refine rz (.agg #[.int .i64 0, .int .i64 0, .int .i64 0, .slice none 0 0, .slice none 0 0, .slice none 0 0]) (by kernel_rfl) ?_
    refine rz (errT (some 4)) (by simp [go_sem, sEv, sLook, nbeq, i64_w, -List.getD_eq_getElem?_getD, errT]) ?_
    have hb43 := ((hk4.on hb21).on hb35)
    refine rw_store (g := g1) (i := 0) (l := [.int .i64 0, .int .i64 0, .int .i64 0, .slice none 0 0, .slice none 0 0, .slice none 0 0]) (cs' := #[.int .i64 0, .int .i64 0, .int .i64 0, .slice none 0 0, .slice none 0 0, .slice none 0 0]) rfl rfl rfl hb43 rfl (by have e0_ := hb43.cellv (i := 0) (v := (.int .i64 0 : Value)) rfl; have f0_ := hb43.frozen 0; have e1_ := hb43.cellv (i := 1) (v := (.int .i64 0 : Value)) rfl; have f1_ := hb43.frozen 1; have e2_ := hb43.cellv (i := 2) (v := (.int .i64 0 : Value)) rfl; have f2_ := hb43.frozen 2; have e3_ := hb43.cellv (i := 3) (v := (.slice none 0 0 : Value)) rfl; have f3_ := hb43.frozen 3; have e4_ := hb43.cellv (i := 4) (v := (.slice none 0 0 : Value)) rfl; have f4_ := hb43.frozen 4; have e5_ := hb43.cellv (i := 5) (v := (.slice none 0 0 : Value)) rfl; have f5_ := hb43.frozen 5; simp [go_sem, sEv, sLook, nbeq, i64_w, -List.getD_eq_getElem?_getD, putCells, e0_, f0_, e1_, f1_, e2_, f2_, e3_, f3_, e4_, f4_, e5_, f5_, Try.underlying26]) ?_
    intro w40 hk41 hk42
    have hs_w40 := hk41.size
    refine rv (errT (some 4)) ?_
    refine rw_end ?_
    refine w_weaken (G' := [(2, .pointer (some ⟨g1, 0, none⟩)), (3, errT (some 4)), (7, .slice A37 ((NL (UN b)).length) c38)]) ⟨rfl, rfl, rfl, trivial⟩ ?_
    refine w_ret (post_retct (v := .agg #[.int .i64 0, .int .i64 0, .int .i64 0, .slice none 0 0, .slice none 0 0, .slice none 0 0]) rfl rfl rfl (by have eb_ := hk42; have e0_ := eb_.cellv (i := 0) (v := (.int .i64 0 : Value)) rfl; have e1_ := eb_.cellv (i := 1) (v := (.int .i64 0 : Value)) rfl; have e2_ := eb_.cellv (i := 2) (v := (.int .i64 0 : Value)) rfl; have e3_ := eb_.cellv (i := 3) (v := (.slice none 0 0 : Value)) rfl; have e4_ := eb_.cellv (i := 4) (v := (.slice none 0 0 : Value)) rfl; have e5_ := eb_.cellv (i := 5) (v := (.slice none 0 0 : Value)) rfl; simp [go_sem, e0_, e1_, e2_, e3_, e4_, e5_, Try.underlying26]) ?_)
    rw [dec_bad b hw_ (by simpa using cU) hn_]
    exact ⟨_, _, _, _, _, _, rfl, OwnK.nil _ _ _ _ _, OwnK.nil _ _ _ _ _, OwnK.nil _ _ _ _ _, (hk41.below (by omega) (chain (chain hb3 hb21) hb35))⟩
   ·
    have hul_ := UN_le b
    refine rw_call rfl rfl rfl rfl (f := 37) (args := #[.slice A23 ((UN b).length) c24, .int .i64 4096]) (by simp [go_sem, sEv, sLook, nbeq, i64_w, -List.getD_eq_getElem?_getD]) (fnums_yes w20 A23 c24 (UN b) _ _ hO22 (UN_bytes hb) (by omega) hn_) ?_
    rintro e_ w44 ⟨A47, c48, rfl, hO460, hb45⟩
    refine ⟨_, rfl, ?_⟩
    have hs_w44 := hb45.size
    have hO46 := OwnK.lower (base' := w.heap.size) (d := (Kd.int .i64)) hO460 (by omega)
    refine rv (.tuple #[.slice A47 ((NL (UN b)).length) c48, .nilIface]) ?_
    refine rs (.slice A47 ((NL (UN b)).length) c48) ?_
    refine rs .nilIface ?_
    refine rv (.slice A47 ((NL (UN b)).length) c48) ?_
    refine rv .nilIface ?_
    refine rw_end ?_
    refine w_weaken (G' := [(2, .pointer (some ⟨g1, 0, none⟩)), (3, .nilIface), (6, .nilIface), (7, .slice A47 ((NL (UN b)).length) c48)]) ⟨rfl, rfl, rfl, rfl, trivial⟩ ?_
    refine w_seq ?_
    refine wsr ?_
    refine rv .nilIface ?_
    refine rz (.bool ((none : Option Int).isSome)) (run_as (guard_err_neq _ (none : Option Int) _)) ?_
    refine rw_end ?_
    refine w_cond_f rfl rfl hq27 ?_
    refine w_skip ?_
    refine wsr ?_
    refine rv (.slice A47 ((NL (UN b)).length) c48) ?_
    refine rz (.agg #[.slice A47 ((NL (UN b)).length) c48, .bool false]) (by kernel_rfl) ?_
    refine rw_new (cs := #[.slice A47 ((NL (UN b)).length) c48, .bool false]) (t := 90) (fun g => .pointer (some ⟨g, 0, none⟩)) rfl rfl rfl rfl (by simp [go_sem, sEv, sLook, nbeq, i64_w, -List.getD_eq_getElem?_getD]) ?_
    intro g49 w50 hg54 hz53 hb51 hk52
    have hs_w50 := hb51.size
    refine rv (.pointer (some ⟨g49, 0, none⟩)) ?_
    refine rw_end ?_
    refine w_weaken (G' := [(2, .pointer (some ⟨g1, 0, none⟩)), (3, .nilIface), (8, .pointer (some ⟨g49, 0, none⟩))]) ⟨rfl, rfl, rfl, trivial⟩ ?_
    refine wsr ?_
    refine rv (.pointer (some ⟨g49, 0, none⟩)) ?_
    rcases hN_ : noteR (⟨NL (UN b), false⟩ : RS) with ⟨n9, s9⟩
    obtain ⟨hz3_, hz4_, hz5_⟩ := note_sz2 hN_
    have hnl_ := NL_4096 (UN b)
    have hlow_ := low_own (OwnK.on (d := (Kd.int .i64)) hO46 hb51)
    refine rw_call rfl rfl rfl rfl (f := 38) (args := #[.pointer (some ⟨g49, 0, none⟩)]) (by simp [go_sem, sEv, sLook, nbeq, i64_w, -List.getD_eq_getElem?_getD]) (note_k w44 w50 g49 (⟨NL (UN b), false⟩ : RS) n9 s9 hN_ hb51 (by omega) A47 c48 hk52 (rrow_own (OwnK.on (d := (Kd.int .i64)) hO46 hb51)) (fun ad_ e_ => hlow_ ad_ e_) (by show (NL (UN b)).length ≤ 100000; omega)) ?_
    rintro e_ w55 ⟨A62, c63, A64, c65, A66, c67, rfl, hO680, hO690, hO700, hrd57, hB56⟩
    refine ⟨_, rfl, ?_⟩
    obtain ⟨A58, c59, hb60, hr61⟩ := hrd57
    have hlt9_ := hb60.lt
    have hs_w55 := hB56.size
    have hO68 := OwnK.mono (b' := w44.heap.size) (d := (Kd.int .i64)) (OwnK.lower (base' := w.heap.size) (d := (Kd.int .i64)) hO680 (by omega)) (by omega)
    have hO69 := OwnK.mono (b' := w44.heap.size) (d := kOp) (OwnK.lower (base' := w.heap.size) (d := kOp) hO690 (by omega)) (by omega)
    have hO70 := OwnK.mono (b' := w44.heap.size) (d := kEntry) (OwnK.lower (base' := w.heap.size) (d := kEntry) hO700 (by omega)) (by omega)
    refine rw_new (cs := #[.int .i64 0, .int .i64 0, .int .i64 0, .slice none 0 0, .slice none 0 0, .slice none 0 0]) (t := 26) (fun g => .pointer (some ⟨g, 0, none⟩)) rfl rfl rfl rfl (by kernel_rfl) ?_
    intro g72 w73 hg77 hz76 hb74 hk75
    have hs_w73 := hb74.size
    have hb81 := hk75
    refine rw_store (g := g72) (i := 0) (l := [.int .i64 n9.kind, .int .i64 n9.fr, .int .i64 n9.tw, .slice A62 n9.nums.length c63, .slice A64 n9.ops.length c65, .slice A66 n9.ents.length c67]) (cs' := #[.int .i64 n9.kind, .int .i64 n9.fr, .int .i64 n9.tw, .slice A62 n9.nums.length c63, .slice A64 n9.ops.length c65, .slice A66 n9.ents.length c67]) rfl rfl rfl hb81 rfl (by have e0_ := hb81.cellv (i := 0) (v := (.int .i64 0 : Value)) rfl; have f0_ := hb81.frozen 0; have e1_ := hb81.cellv (i := 1) (v := (.int .i64 0 : Value)) rfl; have f1_ := hb81.frozen 1; have e2_ := hb81.cellv (i := 2) (v := (.int .i64 0 : Value)) rfl; have f2_ := hb81.frozen 2; have e3_ := hb81.cellv (i := 3) (v := (.slice none 0 0 : Value)) rfl; have f3_ := hb81.frozen 3; have e4_ := hb81.cellv (i := 4) (v := (.slice none 0 0 : Value)) rfl; have f4_ := hb81.frozen 4; have e5_ := hb81.cellv (i := 5) (v := (.slice none 0 0 : Value)) rfl; have f5_ := hb81.frozen 5; simp [go_sem, sEv, sLook, nbeq, i64_w, -List.getD_eq_getElem?_getD, putCells, e0_, f0_, e1_, f1_, e2_, f2_, e3_, f3_, e4_, f4_, e5_, f5_, Try.underlying26]) ?_
    intro w78 hk79 hk80
    have hs_w78 := hk79.size
    refine rw_end ?_
    refine w_weaken (G' := [(2, .pointer (some ⟨g1, 0, none⟩)), (3, .nilIface), (8, .pointer (some ⟨g49, 0, none⟩)), (9, .pointer (some ⟨g72, 0, none⟩))]) ⟨rfl, rfl, rfl, rfl, trivial⟩ ?_
    refine w_seq ?_
    refine wsr ?_
    refine rv (.pointer (some ⟨g49, 0, none⟩)) ?_
    refine rs (.pointer (some ⟨g49, 0, none⟩)) ?_
    refine ru (.pointer (some ⟨g49, 1, none⟩)) ?_
    refine rl ((hb60.on hb74).keep hk79 (by omega)) 1 (.bool s9.bad) ?_
    refine rv (.bool s9.bad) ?_
    rcases bcase s9.bad with cB | cB
    ·
     refine rnk cB ?_
     refine rv (.pointer (some ⟨g49, 0, none⟩)) ?_
     refine rnk cB ?_
     refine rs (.pointer (some ⟨g49, 0, none⟩)) ?_
     refine rnk cB ?_
     refine ru (.pointer (some ⟨g49, 0, none⟩)) ?_
     refine rnk cB ?_
     refine rl ((hb60.on hb74).keep hk79 (by omega)) 0 (.slice A58 s9.xs.length c59) ?_
     refine rnk cB ?_
     refine rs (.int .i64 ((s9.xs.length : Nat) : Int)) ?_
     refine rnk cB ?_
     refine rs (.bool (decide (0 < ((s9.xs.length : Nat) : Int)))) ?_
     refine rp cB (.bool (decide (0 < ((s9.xs.length : Nat) : Int)))) ?_
     refine rv (.bool (decide (0 < ((s9.xs.length : Nat) : Int)))) ?_
     rcases bcase (decide (0 < ((s9.xs.length : Nat) : Int))) with cL | cL
     ·
      have l82 : ¬ (0 < ((s9.xs.length : Nat) : Int)) := of_decide_eq_false cL
      refine rnk cL ?_
      refine rz (.agg #[.int .i64 n9.kind, .int .i64 n9.fr, .int .i64 n9.tw, .slice A62 n9.nums.length c63, .slice A64 n9.ops.length c65, .slice A66 n9.ents.length c67]) (by have eb_ := hk80; have e0_ := eb_.cellv (i := 0) (v := (.int .i64 n9.kind : Value)) rfl; have e1_ := eb_.cellv (i := 1) (v := (.int .i64 n9.fr : Value)) rfl; have e2_ := eb_.cellv (i := 2) (v := (.int .i64 n9.tw : Value)) rfl; have e3_ := eb_.cellv (i := 3) (v := (.slice A62 n9.nums.length c63 : Value)) rfl; have e4_ := eb_.cellv (i := 4) (v := (.slice A64 n9.ops.length c65 : Value)) rfl; have e5_ := eb_.cellv (i := 5) (v := (.slice A66 n9.ents.length c67 : Value)) rfl; simp [go_sem, sEv, sLook, nbeq, i64_w, -List.getD_eq_getElem?_getD, e0_, e1_, e2_, e3_, e4_, e5_, Try.underlying26]) ?_
      refine rnk cL ?_
      rcases hg_ : goodN n9 with _ | _
      ·
       refine rw_call rfl rfl rfl rfl (f := 15) (args := #[.agg #[.int .i64 n9.kind, .int .i64 n9.fr, .int .i64 n9.tw, .slice A62 n9.nums.length c63, .slice A64 n9.ops.length c65, .slice A66 n9.ents.length c67]]) (by simp [go_sem, sEv, sLook, nbeq, i64_w, -List.getD_eq_getElem?_getD]) (check_no w78 n9 A62 c63 A64 c65 A66 c67 (OwnK.C (d := (Kd.int .i64)) (own_keep (d := (Kd.int .i64)) (OwnK.on (d := (Kd.int .i64)) hO68 hb74) hk75 (by decide) hk79)) (OwnK.cap (d := (Kd.int .i64)) hO68) (OwnK.C (d := kOp) (own_keep (d := kOp) (OwnK.on (d := kOp) hO69 hb74) hk75 (by decide) hk79)) (OwnK.cap (d := kOp) hO69) (OwnK.C (d := kEntry) (own_keep (d := kEntry) (OwnK.on (d := kEntry) hO70 hb74) hk75 (by decide) hk79)) (OwnK.cap (d := kEntry) hO70) (by omega) (by omega) (by omega) hg_) ?_
       rintro e_ w83 ⟨rfl, hb84⟩
       refine ⟨_, rfl, ?_⟩
       have hs_w83 := hb84.size
       refine rnk cL ?_
       refine rz (.bool ((some 2).isSome)) (run_as (guard_err_neq _ (some 2) _)) ?_
       refine rp cL (.bool ((some 2).isSome)) ?_
       refine rw_end ?_
       refine w_weaken (G' := [(2, .pointer (some ⟨g1, 0, none⟩)), (3, .nilIface), (9, .pointer (some ⟨g72, 0, none⟩)), (55, .bool ((some 2).isSome))]) ⟨rfl, rfl, rfl, rfl, trivial⟩ ?_
       have hq85 : ((some 2).isSome) = true := by rfl
       refine w_cond_t rfl rfl hq85 ?_
       refine wsr ?_
       refine rz (.agg #[.int .i64 0, .int .i64 0, .int .i64 0, .slice none 0 0, .slice none 0 0, .slice none 0 0]) (by kernel_rfl) ?_
       refine rz (errT (some 4)) (by simp [go_sem, sEv, sLook, nbeq, i64_w, -List.getD_eq_getElem?_getD, errT]) ?_
       have hb89 := ((((((hk4.on hb21).on hb45).on hB56).on hb74).keep hk79 (by omega)).on hb84)
       refine rw_store (g := g1) (i := 0) (l := [.int .i64 0, .int .i64 0, .int .i64 0, .slice none 0 0, .slice none 0 0, .slice none 0 0]) (cs' := #[.int .i64 0, .int .i64 0, .int .i64 0, .slice none 0 0, .slice none 0 0, .slice none 0 0]) rfl rfl rfl hb89 rfl (by have e0_ := hb89.cellv (i := 0) (v := (.int .i64 0 : Value)) rfl; have f0_ := hb89.frozen 0; have e1_ := hb89.cellv (i := 1) (v := (.int .i64 0 : Value)) rfl; have f1_ := hb89.frozen 1; have e2_ := hb89.cellv (i := 2) (v := (.int .i64 0 : Value)) rfl; have f2_ := hb89.frozen 2; have e3_ := hb89.cellv (i := 3) (v := (.slice none 0 0 : Value)) rfl; have f3_ := hb89.frozen 3; have e4_ := hb89.cellv (i := 4) (v := (.slice none 0 0 : Value)) rfl; have f4_ := hb89.frozen 4; have e5_ := hb89.cellv (i := 5) (v := (.slice none 0 0 : Value)) rfl; have f5_ := hb89.frozen 5; simp [go_sem, sEv, sLook, nbeq, i64_w, -List.getD_eq_getElem?_getD, putCells, e0_, f0_, e1_, f1_, e2_, f2_, e3_, f3_, e4_, f4_, e5_, f5_, Try.underlying26]) ?_
       intro w86 hk87 hk88
       have hs_w86 := hk87.size
       refine rv (errT (some 4)) ?_
       refine rw_end ?_
       refine w_weaken (G' := [(2, .pointer (some ⟨g1, 0, none⟩)), (3, errT (some 4)), (9, .pointer (some ⟨g72, 0, none⟩))]) ⟨rfl, rfl, rfl, trivial⟩ ?_
       refine w_ret (post_retct (v := .agg #[.int .i64 0, .int .i64 0, .int .i64 0, .slice none 0 0, .slice none 0 0, .slice none 0 0]) rfl rfl rfl (by have eb_ := hk88; have e0_ := eb_.cellv (i := 0) (v := (.int .i64 0 : Value)) rfl; have e1_ := eb_.cellv (i := 1) (v := (.int .i64 0 : Value)) rfl; have e2_ := eb_.cellv (i := 2) (v := (.int .i64 0 : Value)) rfl; have e3_ := eb_.cellv (i := 3) (v := (.slice none 0 0 : Value)) rfl; have e4_ := eb_.cellv (i := 4) (v := (.slice none 0 0 : Value)) rfl; have e5_ := eb_.cellv (i := 5) (v := (.slice none 0 0 : Value)) rfl; simp [go_sem, e0_, e1_, e2_, e3_, e4_, e5_, Try.underlying26]) ?_)
       rw [dec_bad2 b hw_ (by simpa using cU) hn_ hN_ (by first | exact .inl (by simpa using cB) | exact .inr (.inl (by simpa using cL)) | exact .inr (.inr hg_))]
       exact ⟨_, _, _, _, _, _, rfl, OwnK.nil _ _ _ _ _, OwnK.nil _ _ _ _ _, OwnK.nil _ _ _ _ _, (hk87.below (by omega) (chain (hk79.below (by omega) (chain (chain (chain (chain hb3 hb21) hb45) hB56) hb74)) hb84))⟩
      ·
       refine rw_call rfl rfl rfl rfl (f := 15) (args := #[.agg #[.int .i64 n9.kind, .int .i64 n9.fr, .int .i64 n9.tw, .slice A62 n9.nums.length c63, .slice A64 n9.ops.length c65, .slice A66 n9.ents.length c67]]) (by simp [go_sem, sEv, sLook, nbeq, i64_w, -List.getD_eq_getElem?_getD]) (check_yes w78 n9 A62 c63 A64 c65 A66 c67 (OwnK.C (d := (Kd.int .i64)) (own_keep (d := (Kd.int .i64)) (OwnK.on (d := (Kd.int .i64)) hO68 hb74) hk75 (by decide) hk79)) (OwnK.cap (d := (Kd.int .i64)) hO68) (OwnK.C (d := kOp) (own_keep (d := kOp) (OwnK.on (d := kOp) hO69 hb74) hk75 (by decide) hk79)) (OwnK.cap (d := kOp) hO69) (OwnK.C (d := kEntry) (own_keep (d := kEntry) (OwnK.on (d := kEntry) hO70 hb74) hk75 (by decide) hk79)) (OwnK.cap (d := kEntry) hO70) (by omega) (by omega) (by omega) hg_) ?_
       rintro e_ w90 ⟨rfl, hb91⟩
       refine ⟨_, rfl, ?_⟩
       have hs_w90 := hb91.size
       refine rnk cL ?_
       refine rz (.bool ((none : Option Int).isSome)) (run_as (guard_err_neq _ (none : Option Int) _)) ?_
       refine rp cL (.bool ((none : Option Int).isSome)) ?_
       refine rw_end ?_
       refine w_weaken (G' := [(2, .pointer (some ⟨g1, 0, none⟩)), (3, .nilIface), (9, .pointer (some ⟨g72, 0, none⟩)), (55, .bool ((none : Option Int).isSome))]) ⟨rfl, rfl, rfl, rfl, trivial⟩ ?_
       refine w_cond_f rfl rfl hq27 ?_
       refine w_skip ?_
       refine wsr ?_
       refine rz (.agg #[.int .i64 n9.kind, .int .i64 n9.fr, .int .i64 n9.tw, .slice A62 n9.nums.length c63, .slice A64 n9.ops.length c65, .slice A66 n9.ents.length c67]) (by have eb_ := (hk80.on hb91); have e0_ := eb_.cellv (i := 0) (v := (.int .i64 n9.kind : Value)) rfl; have e1_ := eb_.cellv (i := 1) (v := (.int .i64 n9.fr : Value)) rfl; have e2_ := eb_.cellv (i := 2) (v := (.int .i64 n9.tw : Value)) rfl; have e3_ := eb_.cellv (i := 3) (v := (.slice A62 n9.nums.length c63 : Value)) rfl; have e4_ := eb_.cellv (i := 4) (v := (.slice A64 n9.ops.length c65 : Value)) rfl; have e5_ := eb_.cellv (i := 5) (v := (.slice A66 n9.ents.length c67 : Value)) rfl; simp [go_sem, sEv, sLook, nbeq, i64_w, -List.getD_eq_getElem?_getD, e0_, e1_, e2_, e3_, e4_, e5_, Try.underlying26]) ?_
       have hb95 := ((((((hk4.on hb21).on hb45).on hB56).on hb74).keep hk79 (by omega)).on hb91)
       refine rw_store (g := g1) (i := 0) (l := [.int .i64 n9.kind, .int .i64 n9.fr, .int .i64 n9.tw, .slice A62 n9.nums.length c63, .slice A64 n9.ops.length c65, .slice A66 n9.ents.length c67]) (cs' := #[.int .i64 n9.kind, .int .i64 n9.fr, .int .i64 n9.tw, .slice A62 n9.nums.length c63, .slice A64 n9.ops.length c65, .slice A66 n9.ents.length c67]) rfl rfl rfl hb95 rfl (by have e0_ := hb95.cellv (i := 0) (v := (.int .i64 0 : Value)) rfl; have f0_ := hb95.frozen 0; have e1_ := hb95.cellv (i := 1) (v := (.int .i64 0 : Value)) rfl; have f1_ := hb95.frozen 1; have e2_ := hb95.cellv (i := 2) (v := (.int .i64 0 : Value)) rfl; have f2_ := hb95.frozen 2; have e3_ := hb95.cellv (i := 3) (v := (.slice none 0 0 : Value)) rfl; have f3_ := hb95.frozen 3; have e4_ := hb95.cellv (i := 4) (v := (.slice none 0 0 : Value)) rfl; have f4_ := hb95.frozen 4; have e5_ := hb95.cellv (i := 5) (v := (.slice none 0 0 : Value)) rfl; have f5_ := hb95.frozen 5; simp [go_sem, sEv, sLook, nbeq, i64_w, -List.getD_eq_getElem?_getD, putCells, e0_, f0_, e1_, f1_, e2_, f2_, e3_, f3_, e4_, f4_, e5_, f5_, Try.underlying26]) ?_
       intro w92 hk93 hk94
       have hs_w92 := hk93.size
       refine rv .nilIface ?_
       refine rw_end ?_
       refine w_ret (post_retct (v := .agg #[.int .i64 n9.kind, .int .i64 n9.fr, .int .i64 n9.tw, .slice A62 n9.nums.length c63, .slice A64 n9.ops.length c65, .slice A66 n9.ents.length c67]) rfl rfl rfl (by have eb_ := hk94; have e0_ := eb_.cellv (i := 0) (v := (.int .i64 n9.kind : Value)) rfl; have e1_ := eb_.cellv (i := 1) (v := (.int .i64 n9.fr : Value)) rfl; have e2_ := eb_.cellv (i := 2) (v := (.int .i64 n9.tw : Value)) rfl; have e3_ := eb_.cellv (i := 3) (v := (.slice A62 n9.nums.length c63 : Value)) rfl; have e4_ := eb_.cellv (i := 4) (v := (.slice A64 n9.ops.length c65 : Value)) rfl; have e5_ := eb_.cellv (i := 5) (v := (.slice A66 n9.ents.length c67 : Value)) rfl; simp [go_sem, e0_, e1_, e2_, e3_, e4_, e5_, Try.underlying26]) ?_)
       rw [dec_ok b hw_ (by simpa using cU) hn_ hN_ (by simpa using cB) (by simpa using cL) hg_]
       exact ⟨_, _, _, _, _, _, rfl, (OwnK.mono (d := (Kd.int .i64)) (own_keep (d := (Kd.int .i64)) (OwnK.on (d := (Kd.int .i64)) (own_keep (d := (Kd.int .i64)) (OwnK.on (d := (Kd.int .i64)) hO68 hb74) hk75 (by decide) hk79) hb91) ((((((hk4.on hb21).on hb45).on hB56).on hb74).keep hk79 (by omega)).on hb91) (by decide) hk93) (by omega)), (OwnK.mono (d := kOp) (own_keep (d := kOp) (OwnK.on (d := kOp) (own_keep (d := kOp) (OwnK.on (d := kOp) hO69 hb74) hk75 (by decide) hk79) hb91) ((((((hk4.on hb21).on hb45).on hB56).on hb74).keep hk79 (by omega)).on hb91) (by decide) hk93) (by omega)), (OwnK.mono (d := kEntry) (own_keep (d := kEntry) (OwnK.on (d := kEntry) (own_keep (d := kEntry) (OwnK.on (d := kEntry) hO70 hb74) hk75 (by decide) hk79) hb91) ((((((hk4.on hb21).on hb45).on hB56).on hb74).keep hk79 (by omega)).on hb91) (by decide) hk93) (by omega)), (hk93.below (by omega) (chain (hk79.below (by omega) (chain (chain (chain (chain hb3 hb21) hb45) hB56) hb74)) hb91))⟩
     ·
      have l96 : (0 < ((s9.xs.length : Nat) : Int)) := of_decide_eq_true cL
      refine rok cL ?_
      refine rok cL ?_
      refine rok cL ?_
      refine rp cL (.bool true) ?_
      refine rw_end ?_
      refine w_weaken (G' := [(2, .pointer (some ⟨g1, 0, none⟩)), (3, .nilIface), (9, .pointer (some ⟨g72, 0, none⟩)), (55, .bool true)]) ⟨rfl, rfl, rfl, rfl, trivial⟩ ?_
      refine w_cond_t rfl rfl rfl ?_
      refine wsr ?_
      refine rz (.agg #[.int .i64 0, .int .i64 0, .int .i64 0, .slice none 0 0, .slice none 0 0, .slice none 0 0]) (by kernel_rfl) ?_
      refine rz (errT (some 4)) (by simp [go_sem, sEv, sLook, nbeq, i64_w, -List.getD_eq_getElem?_getD, errT]) ?_
      have hb100 := (((((hk4.on hb21).on hb45).on hB56).on hb74).keep hk79 (by omega))
      refine rw_store (g := g1) (i := 0) (l := [.int .i64 0, .int .i64 0, .int .i64 0, .slice none 0 0, .slice none 0 0, .slice none 0 0]) (cs' := #[.int .i64 0, .int .i64 0, .int .i64 0, .slice none 0 0, .slice none 0 0, .slice none 0 0]) rfl rfl rfl hb100 rfl (by have e0_ := hb100.cellv (i := 0) (v := (.int .i64 0 : Value)) rfl; have f0_ := hb100.frozen 0; have e1_ := hb100.cellv (i := 1) (v := (.int .i64 0 : Value)) rfl; have f1_ := hb100.frozen 1; have e2_ := hb100.cellv (i := 2) (v := (.int .i64 0 : Value)) rfl; have f2_ := hb100.frozen 2; have e3_ := hb100.cellv (i := 3) (v := (.slice none 0 0 : Value)) rfl; have f3_ := hb100.frozen 3; have e4_ := hb100.cellv (i := 4) (v := (.slice none 0 0 : Value)) rfl; have f4_ := hb100.frozen 4; have e5_ := hb100.cellv (i := 5) (v := (.slice none 0 0 : Value)) rfl; have f5_ := hb100.frozen 5; simp [go_sem, sEv, sLook, nbeq, i64_w, -List.getD_eq_getElem?_getD, putCells, e0_, f0_, e1_, f1_, e2_, f2_, e3_, f3_, e4_, f4_, e5_, f5_, Try.underlying26]) ?_
      intro w97 hk98 hk99
      have hs_w97 := hk98.size
      refine rv (errT (some 4)) ?_
      refine rw_end ?_
      refine w_weaken (G' := [(2, .pointer (some ⟨g1, 0, none⟩)), (3, errT (some 4)), (9, .pointer (some ⟨g72, 0, none⟩))]) ⟨rfl, rfl, rfl, trivial⟩ ?_
      refine w_ret (post_retct (v := .agg #[.int .i64 0, .int .i64 0, .int .i64 0, .slice none 0 0, .slice none 0 0, .slice none 0 0]) rfl rfl rfl (by have eb_ := hk99; have e0_ := eb_.cellv (i := 0) (v := (.int .i64 0 : Value)) rfl; have e1_ := eb_.cellv (i := 1) (v := (.int .i64 0 : Value)) rfl; have e2_ := eb_.cellv (i := 2) (v := (.int .i64 0 : Value)) rfl; have e3_ := eb_.cellv (i := 3) (v := (.slice none 0 0 : Value)) rfl; have e4_ := eb_.cellv (i := 4) (v := (.slice none 0 0 : Value)) rfl; have e5_ := eb_.cellv (i := 5) (v := (.slice none 0 0 : Value)) rfl; simp [go_sem, e0_, e1_, e2_, e3_, e4_, e5_, Try.underlying26]) ?_)
      rw [dec_bad2 b hw_ (by simpa using cU) hn_ hN_ (by first | exact .inl (by simpa using cB) | exact .inr (.inl (by simpa using cL)) | exact .inr (.inr hg_))]
      exact ⟨_, _, _, _, _, _, rfl, OwnK.nil _ _ _ _ _, OwnK.nil _ _ _ _ _, OwnK.nil _ _ _ _ _, (hk98.below (by omega) (hk79.below (by omega) (chain (chain (chain (chain hb3 hb21) hb45) hB56) hb74)))⟩
    ·
     refine rok cB ?_
     refine rok cB ?_
     refine rok cB ?_
     refine rok cB ?_
     refine rok cB ?_
     refine rok cB ?_
     refine rp cB (.bool true) ?_
     refine rv (.bool true) ?_
     refine ro true ?_
     refine ro true ?_
     refine ro true ?_
     refine rs (.bool true) ?_
     refine rw_end ?_
     refine w_weaken (G' := [(2, .pointer (some ⟨g1, 0, none⟩)), (3, .nilIface), (9, .pointer (some ⟨g72, 0, none⟩)), (55, .bool true)]) ⟨rfl, rfl, rfl, rfl, trivial⟩ ?_
     refine w_cond_t rfl rfl rfl ?_
     refine wsr ?_
     refine rz (.agg #[.int .i64 0, .int .i64 0, .int .i64 0, .slice none 0 0, .slice none 0 0, .slice none 0 0]) (by kernel_rfl) ?_
     refine rz (errT (some 4)) (by simp [go_sem, sEv, sLook, nbeq, i64_w, -List.getD_eq_getElem?_getD, errT]) ?_
     have hb104 := (((((hk4.on hb21).on hb45).on hB56).on hb74).keep hk79 (by omega))
     refine rw_store (g := g1) (i := 0) (l := [.int .i64 0, .int .i64 0, .int .i64 0, .slice none 0 0, .slice none 0 0, .slice none 0 0]) (cs' := #[.int .i64 0, .int .i64 0, .int .i64 0, .slice none 0 0, .slice none 0 0, .slice none 0 0]) rfl rfl rfl hb104 rfl (by have e0_ := hb104.cellv (i := 0) (v := (.int .i64 0 : Value)) rfl; have f0_ := hb104.frozen 0; have e1_ := hb104.cellv (i := 1) (v := (.int .i64 0 : Value)) rfl; have f1_ := hb104.frozen 1; have e2_ := hb104.cellv (i := 2) (v := (.int .i64 0 : Value)) rfl; have f2_ := hb104.frozen 2; have e3_ := hb104.cellv (i := 3) (v := (.slice none 0 0 : Value)) rfl; have f3_ := hb104.frozen 3; have e4_ := hb104.cellv (i := 4) (v := (.slice none 0 0 : Value)) rfl; have f4_ := hb104.frozen 4; have e5_ := hb104.cellv (i := 5) (v := (.slice none 0 0 : Value)) rfl; have f5_ := hb104.frozen 5; simp [go_sem, sEv, sLook, nbeq, i64_w, -List.getD_eq_getElem?_getD, putCells, e0_, f0_, e1_, f1_, e2_, f2_, e3_, f3_, e4_, f4_, e5_, f5_, Try.underlying26]) ?_
     intro w101 hk102 hk103
     have hs_w101 := hk102.size
     refine rv (errT (some 4)) ?_
     refine rw_end ?_
     refine w_weaken (G' := [(2, .pointer (some ⟨g1, 0, none⟩)), (3, errT (some 4)), (9, .pointer (some ⟨g72, 0, none⟩))]) ⟨rfl, rfl, rfl, trivial⟩ ?_
     refine w_ret (post_retct (v := .agg #[.int .i64 0, .int .i64 0, .int .i64 0, .slice none 0 0, .slice none 0 0, .slice none 0 0]) rfl rfl rfl (by have eb_ := hk103; have e0_ := eb_.cellv (i := 0) (v := (.int .i64 0 : Value)) rfl; have e1_ := eb_.cellv (i := 1) (v := (.int .i64 0 : Value)) rfl; have e2_ := eb_.cellv (i := 2) (v := (.int .i64 0 : Value)) rfl; have e3_ := eb_.cellv (i := 3) (v := (.slice none 0 0 : Value)) rfl; have e4_ := eb_.cellv (i := 4) (v := (.slice none 0 0 : Value)) rfl; have e5_ := eb_.cellv (i := 5) (v := (.slice none 0 0 : Value)) rfl; simp [go_sem, e0_, e1_, e2_, e3_, e4_, e5_, Try.underlying26]) ?_)
     rw [dec_bad2 b hw_ (by simpa using cU) hn_ hN_ (by first | exact .inl (by simpa using cB) | exact .inr (.inl (by simpa using cL)) | exact .inr (.inr hg_))]
     exact ⟨_, _, _, _, _, _, rfl, OwnK.nil _ _ _ _ _, OwnK.nil _ _ _ _ _, OwnK.nil _ _ _ _ _, (hk102.below (by omega) (hk79.below (by omega) (chain (chain (chain (chain hb3 hb21) hb45) hB56) hb74)))⟩
end Go.Proofs.Ytbbhdohjhipalaa.Ce
end
section
namespace Go.Proofs.Ytbbhdohjhipalaa.Ce
open Go.RowKit Go.Proofs.YtbbhdohjhipalaaW.PrintWords Go.Proofs.YtbbhdohjhipalaaW.PrintLast Go.Proofs.YtbbhdohjhipalaaW.PrintMore
open Go.Proofs.Ytbbhdohjhipalaa.Flow Go.Proofs.Ytbbhdohjhipalaa.PNoteReads
set_option linter.unusedVariables false
set_option maxRecDepth 100000
def n0 : NT := ⟨4, 3, 1, [7, 2, 1, 0], [], []⟩
theorem good0 : goodN n0 = true := by decide +kernel
theorem list0 : listN n0 = [4, 3, 1, 4, 7, 2, 1, 0, 0, 0] := by rfl
theorem pb0 : PB (listN n0) = [1, 8, 1, 6, 1, 2, 1, 8, 1, 14, 1, 4, 1, 2, 0, 0, 0] := by rw [list0]; decide +kernel
theorem ee0 : EE n0 = none := by rw [(eb_yes good0).2, pb0]; rfl
theorem eb0_len : (EB n0).length = 25 := by rw [(eb_yes good0).1, pb0]; decide +kernel
theorem bytes0 : Bytes (EB n0) := by
  rw [(eb_yes good0).1, pb0]
  have h : ∀ x ∈ frameB [1, 8, 1, 6, 1, 2, 1, 8, 1, 14, 1, 4, 1, 2, 0, 0, 0], 0 ≤ x ∧ x < 256 := by decide +kernel
  exact h
theorem i64_0 : ∀ y ∈ listN n0, I64 y := by
  rw [list0]
  have h : ∀ y ∈ ([4, 3, 1, 4, 7, 2, 1, 0, 0, 0] : List Int), -9223372036854775808 ≤ y ∧ y ≤ 9223372036854775807 := by decide +kernel
  exact h
theorem dec0 : decN (EB n0) = (n0, none) := by
  have e1 : wholeP (EB n0) = 25 := by rw [(eb_yes good0).1, pb0]; decide +kernel
  have e2 : UN (EB n0) = [1, 8, 1, 6, 1, 2, 1, 8, 1, 14, 1, 4, 1, 2, 0, 0, 0] := by unfold UN; rw [e1, (eb_yes good0).1, pb0]; decide +kernel
  have e3 : (UR (EB n0)).length = 0 := by unfold UR; rw [e1, (eb_yes good0).1, pb0]; decide +kernel
  have e4 : NO (UN (EB n0)) = true := by rw [e2]; decide +kernel
  have e5 : NL (UN (EB n0)) = [4, 3, 1, 4, 7, 2, 1, 0, 0, 0] := by rw [e2]; decide +kernel
  have e6 : noteR ⟨NL (UN (EB n0)), false⟩ = (n0, ⟨[], false⟩) := by rw [e5]; rfl
  exact dec_ok _ (by omega) e3 e4 e6 rfl rfl good0
end Go.Proofs.Ytbbhdohjhipalaa.Ce
end
section
namespace Go.Proofs.Ytbbhdohjhipalaa.Ce
open Go.RowKit Go.Proofs.YtbbhdohjhipalaaW.PrintWords Go.Proofs.YtbbhdohjhipalaaW.PrintLast Go.Proofs.YtbbhdohjhipalaaW.PrintMore
open Go.Proofs.Ytbbhdohjhipalaa.Flow
open Go.Proofs.Ytbbhdohjhipalaa.PNoteReads
set_option linter.unusedVariables false
set_option linter.unusedSimpArgs false
theorem enc_0 (w : World) (A3 : Option Addr) (c3 : Nat) (hn3 : (Kd.int .i64).C w A3 4 [7, 2, 1, 0]) (hc3 : 4 ≤ c3) : Calls Try.prog 12 #[.agg #[.int .i64 4, .int .i64 3, .int .i64 1, .slice A3 4 c3, .slice none 0 0, .slice none 0 0]] w fun e w' => ∃ A' c', e = .returned (.tuple #[.slice A' (EB n0).length c', .nilIface]) ∧ OwnK (Kd.int .u8) 5 w' w.heap.size w.heap.size A' (EB n0).length c' (EB n0) ∧ Below w.heap.size w w' := by
  have h := enc_calls w n0 A3 c3 none 0 none 0 hn3 hc3 (C_nilK kOp w none) (Nat.le_refl 0) (C_nilK kEntry w none) (Nat.le_refl 0) (by decide) (by decide) (by decide) i64_0
  rw [ee0] at h
  exact h
theorem dec_0 (w : World) (A0 : Option Addr) (c0 : Nat) (hC : (Kd.int .u8).C w A0 (EB n0).length (EB n0)) (hc : (EB n0).length ≤ c0) : Calls Try.prog 19 #[.slice A0 (EB n0).length c0] w fun e w' => ∃ A3 c3 A4 c4 A5 c5, e = .returned (.tuple #[.agg #[.int .i64 4, .int .i64 3, .int .i64 1, .slice A3 4 c3, .slice A4 0 c4, .slice A5 0 c5], .nilIface]) ∧ OwnK (Kd.int .i64) 3 w' w.heap.size w.heap.size A3 4 c3 [7, 2, 1, 0] ∧ Below w.heap.size w w' := by
  have h := dec_calls w A0 c0 (EB n0) hC hc bytes0 (by rw [eb0_len]; decide)
  rw [dec0] at h
  refine h.mono ?_
  rintro e w' ⟨A3, c3, A4, c4, A5, c5, rfl, h1, h2, h3, h4⟩
  exact ⟨A3, c3, A4, c4, A5, c5, rfl, h1, h4⟩
set_option maxHeartbeats 4000000 in
theorem alive_calls (w : World) :
  Calls Try.prog 9 #[] w fun e w' => e = .returned (.bool true) ∧ Below w.heap.size w w' := by
 refine calls_flow Try.func9 rfl 52 rfl (Nat.le_of_ble_eq_true rfl) [] ?_ ?_
 ·
  intro t v h; exact args_look rfl t v h
 refine wsr ?_
 refine rv (.bool false) ?_
 refine rw_end ?_
 refine wsr ?_
 refine rw_new (cs := #[.int .i64 7, .int .i64 2, .int .i64 1, .int .i64 0]) (t := 3) (fun g => .slice (some ⟨g, 0, none⟩) 4 4) rfl rfl rfl rfl (by kernel_rfl) ?_
 intro g1 w2 hg6 hz5 hb3 hk4
 have hs_w2 := hb3.size
 have hk4r : OwnK (Kd.int .i64) 3 w2 w.heap.size g1 (some ⟨g1, 0, none⟩) 4 4 ([7, 2, 1, 0] : List Int) := scal_own w.heap.size hk4 (by omega) rfl rfl (by simp)
 refine rz (.agg #[.int .i64 4, .int .i64 3, .int .i64 1, .slice (some ⟨g1, 0, none⟩) 4 4, .slice none 0 0, .slice none 0 0]) (by kernel_rfl) ?_
 refine rw_new (cs := #[.int .i64 0, .int .i64 0, .int .i64 0, .slice none 0 0, .slice none 0 0, .slice none 0 0]) (t := 26) (fun g => .pointer (some ⟨g, 0, none⟩)) rfl rfl rfl rfl (by kernel_rfl) ?_
 intro g7 w8 hg12 hz11 hb9 hk10
 have hs_w8 := hb9.size
 have hb16 := hk10
 refine rw_store (g := g7) (i := 0) (l := [.int .i64 4, .int .i64 3, .int .i64 1, .slice (some ⟨g1, 0, none⟩) 4 4, .slice none 0 0, .slice none 0 0]) (cs' := #[.int .i64 4, .int .i64 3, .int .i64 1, .slice (some ⟨g1, 0, none⟩) 4 4, .slice none 0 0, .slice none 0 0]) rfl rfl rfl hb16 rfl (by have e0_ := hb16.cellv (i := 0) (v := (.int .i64 0 : Value)) rfl; have f0_ := hb16.frozen 0; have e1_ := hb16.cellv (i := 1) (v := (.int .i64 0 : Value)) rfl; have f1_ := hb16.frozen 1; have e2_ := hb16.cellv (i := 2) (v := (.int .i64 0 : Value)) rfl; have f2_ := hb16.frozen 2; have e3_ := hb16.cellv (i := 3) (v := (.slice none 0 0 : Value)) rfl; have f3_ := hb16.frozen 3; have e4_ := hb16.cellv (i := 4) (v := (.slice none 0 0 : Value)) rfl; have f4_ := hb16.frozen 4; have e5_ := hb16.cellv (i := 5) (v := (.slice none 0 0 : Value)) rfl; have f5_ := hb16.frozen 5; simp [go_sem, sEv, sLook, nbeq, i64_w, -List.getD_eq_getElem?_getD, putCells, e0_, f0_, e1_, f1_, e2_, f2_, e3_, f3_, e4_, f4_, e5_, f5_, Try.underlying26]) ?_
 intro w13 hk14 hk15
 have hs_w13 := hk14.size
 refine rw_end ?_
 refine w_weaken (G' := [(0, .bool false), (1, .pointer (some ⟨g7, 0, none⟩))]) ⟨rfl, rfl, trivial⟩ ?_
 refine wsr ?_
 refine rz (.agg #[.int .i64 4, .int .i64 3, .int .i64 1, .slice (some ⟨g1, 0, none⟩) 4 4, .slice none 0 0, .slice none 0 0]) (by have eb_ := hk15; have e0_ := eb_.cellv (i := 0) (v := (.int .i64 4 : Value)) rfl; have e1_ := eb_.cellv (i := 1) (v := (.int .i64 3 : Value)) rfl; have e2_ := eb_.cellv (i := 2) (v := (.int .i64 1 : Value)) rfl; have e3_ := eb_.cellv (i := 3) (v := (.slice (some ⟨g1, 0, none⟩) 4 4 : Value)) rfl; have e4_ := eb_.cellv (i := 4) (v := (.slice none 0 0 : Value)) rfl; have e5_ := eb_.cellv (i := 5) (v := (.slice none 0 0 : Value)) rfl; simp [go_sem, sEv, sLook, nbeq, i64_w, -List.getD_eq_getElem?_getD, e0_, e1_, e2_, e3_, e4_, e5_, Try.underlying26]) ?_
 refine rw_call rfl rfl rfl rfl (f := 12) (args := #[.agg #[.int .i64 4, .int .i64 3, .int .i64 1, .slice (some ⟨g1, 0, none⟩) 4 4, .slice none 0 0, .slice none 0 0]]) (by simp [go_sem, sEv, sLook, nbeq, i64_w, -List.getD_eq_getElem?_getD]) (enc_0 w13 (some ⟨g1, 0, none⟩) 4 (OwnK.C (d := (Kd.int .i64)) (own_keep (d := (Kd.int .i64)) (OwnK.on (d := (Kd.int .i64)) hk4r hb9) hk10 (by decide) hk14)) (by decide)) ?_
 rintro e_ w17 ⟨A19, c20, rfl, hO210, hb18⟩
 refine ⟨_, rfl, ?_⟩
 have hs_w17 := hb18.size
 have hO21 := OwnK.lower (base' := w.heap.size) (d := (Kd.int .u8)) hO210 (by omega)
 have hl0_ := eb0_len
 refine rv (.tuple #[.slice A19 ((EB n0).length) c20, .nilIface]) ?_
 refine rs (.slice A19 ((EB n0).length) c20) ?_
 refine rs .nilIface ?_
 refine rv (.slice A19 ((EB n0).length) c20) ?_
 refine rv .nilIface ?_
 refine rw_end ?_
 refine w_weaken (G' := [(0, .bool false), (2, .slice A19 ((EB n0).length) c20), (3, .nilIface)]) ⟨rfl, rfl, rfl, trivial⟩ ?_
 refine wsr ?_
 refine rv (.slice A19 ((EB n0).length) c20) ?_
 refine rw_call rfl rfl rfl rfl (f := 19) (args := #[.slice A19 ((EB n0).length) c20]) (by simp [go_sem, sEv, sLook, nbeq, i64_w, -List.getD_eq_getElem?_getD]) (dec_0 w17 A19 c20 (OwnK.C (d := (Kd.int .u8)) hO21) (OwnK.cap (d := (Kd.int .u8)) hO21)) ?_
 rintro e_ w22 ⟨A25, c26, A27, c28, A29, c30, rfl, hO240, hb23⟩
 refine ⟨_, rfl, ?_⟩
 have hs_w22 := hb23.size
 have hO24 := OwnK.lower (base' := w.heap.size) (d := (Kd.int .i64)) hO240 (by omega)
 refine rv (.tuple #[.agg #[.int .i64 4, .int .i64 3, .int .i64 1, .slice A25 4 c26, .slice A27 0 c28, .slice A29 0 c30], .nilIface]) ?_
 refine rs (.agg #[.int .i64 4, .int .i64 3, .int .i64 1, .slice A25 4 c26, .slice A27 0 c28, .slice A29 0 c30]) ?_
 refine rs .nilIface ?_
 refine rw_new (cs := #[.int .i64 0, .int .i64 0, .int .i64 0, .slice none 0 0, .slice none 0 0, .slice none 0 0]) (t := 26) (fun g => .pointer (some ⟨g, 0, none⟩)) rfl rfl rfl rfl (by kernel_rfl) ?_
 intro g31 w32 hg36 hz35 hb33 hk34
 have hs_w32 := hb33.size
 have hb40 := hk34
 refine rw_store (g := g31) (i := 0) (l := [.int .i64 4, .int .i64 3, .int .i64 1, .slice A25 4 c26, .slice A27 0 c28, .slice A29 0 c30]) (cs' := #[.int .i64 4, .int .i64 3, .int .i64 1, .slice A25 4 c26, .slice A27 0 c28, .slice A29 0 c30]) rfl rfl rfl hb40 rfl (by have e0_ := hb40.cellv (i := 0) (v := (.int .i64 0 : Value)) rfl; have f0_ := hb40.frozen 0; have e1_ := hb40.cellv (i := 1) (v := (.int .i64 0 : Value)) rfl; have f1_ := hb40.frozen 1; have e2_ := hb40.cellv (i := 2) (v := (.int .i64 0 : Value)) rfl; have f2_ := hb40.frozen 2; have e3_ := hb40.cellv (i := 3) (v := (.slice none 0 0 : Value)) rfl; have f3_ := hb40.frozen 3; have e4_ := hb40.cellv (i := 4) (v := (.slice none 0 0 : Value)) rfl; have f4_ := hb40.frozen 4; have e5_ := hb40.cellv (i := 5) (v := (.slice none 0 0 : Value)) rfl; have f5_ := hb40.frozen 5; simp [go_sem, sEv, sLook, nbeq, i64_w, -List.getD_eq_getElem?_getD, putCells, e0_, f0_, e1_, f1_, e2_, f2_, e3_, f3_, e4_, f4_, e5_, f5_, Try.underlying26]) ?_
 intro w37 hk38 hk39
 have hs_w37 := hk38.size
 refine rv .nilIface ?_
 refine rw_end ?_
 refine w_weaken (G' := [(0, .bool false), (2, .slice A19 ((EB n0).length) c20), (3, .nilIface), (4, .pointer (some ⟨g31, 0, none⟩)), (5, .nilIface)]) ⟨rfl, rfl, rfl, rfl, rfl, trivial⟩ ?_
 refine wsr ?_
 refine rv .nilIface ?_
 refine rz (.bool ((none : Option Int).isNone)) (run_as (guard_err_eq0 _ (none : Option Int) _)) ?_
 refine rv (.bool ((none : Option Int).isNone)) ?_
 have hq41 : ((none : Option Int).isNone) = true := by rfl
 refine rnk hq41 ?_
 refine rv .nilIface ?_
 refine rnk hq41 ?_
 refine rz (.bool ((none : Option Int).isNone)) (run_as (guard_err_eq0 _ (none : Option Int) _)) ?_
 refine rp hq41 (.bool ((none : Option Int).isNone)) ?_
 refine rv (.bool ((none : Option Int).isNone)) ?_
 refine rnk hq41 ?_
 refine rv (.slice A19 ((EB n0).length) c20) ?_
 refine rnk hq41 ?_
 refine rs (.int .i64 (((EB n0).length : Nat) : Int)) ?_
 refine rnk hq41 ?_
 refine rs (.bool (decide (8 < (((EB n0).length : Nat) : Int)))) ?_
 refine rp hq41 (.bool (decide (8 < (((EB n0).length : Nat) : Int)))) ?_
 refine rv (.bool (decide (8 < (((EB n0).length : Nat) : Int)))) ?_
 rcases bcase (decide (8 < (((EB n0).length : Nat) : Int))) with c42 | c42
 ·
  have l43 : ¬ (8 < (((EB n0).length : Nat) : Int)) := of_decide_eq_false c42
  refine rok c42 ?_
  refine rok c42 ?_
  refine rok c42 ?_
  refine rp c42 (.bool false) ?_
  refine rv (.bool false) ?_
  refine ro false ?_
  refine ro false ?_
  refine ro false ?_
  refine rs (.bool false) ?_
  refine rv (.bool false) ?_
  refine ro false ?_
  refine ro false ?_
  refine ro false ?_
  refine ro false ?_
  refine rs (.bool false) ?_
  refine rv (.bool false) ?_
  refine ro false ?_
  refine ro false ?_
  refine ro false ?_
  refine ro false ?_
  refine ro false ?_
  refine rs (.bool false) ?_
  refine rv (.bool false) ?_
  refine rw_end ?_
  refine w_weaken (G' := [(0, .bool false)]) ⟨rfl, trivial⟩ ?_
  refine w_ret (post_ret1 rfl rfl ?_)
  exact ⟨by first | rfl | (exfalso; simp_all; done) | simp_all, (hk38.below (by omega) (chain (chain (chain (hk14.below (by omega) (chain hb3 hb9)) hb18) hb23) hb33))⟩
 ·
  have l44 : (8 < (((EB n0).length : Nat) : Int)) := of_decide_eq_true c42
  refine rnk c42 ?_
  refine ru (.pointer (some ⟨g31, 0, none⟩)) ?_
  refine rnk c42 ?_
  refine rl hk39 0 (.int .i64 4) ?_
  refine rnk c42 ?_
  refine rs (.bool true) ?_
  refine rp c42 (.bool true) ?_
  refine rv (.bool true) ?_
  refine rn true ?_
  refine ru (.pointer (some ⟨g31, 1, none⟩)) ?_
  refine rn true ?_
  refine rl hk39 1 (.int .i64 3) ?_
  refine rn true ?_
  refine rs (.bool true) ?_
  refine rs (.bool true) ?_
  refine rv (.bool true) ?_
  refine rn true ?_
  refine ru (.pointer (some ⟨g31, 3, none⟩)) ?_
  refine rn true ?_
  refine rl hk39 3 (.slice A25 4 c26) ?_
  refine rn true ?_
  refine rs (.int .i64 4) ?_
  refine rn true ?_
  refine rs (.bool true) ?_
  refine rs (.bool true) ?_
  refine rv (.bool true) ?_
  refine rn true ?_
  refine ru (.pointer (some ⟨g31, 3, none⟩)) ?_
  refine rn true ?_
  refine rl hk39 3 (.slice A25 4 c26) ?_
  refine rn true ?_
  obtain ⟨g48, rfl⟩ := OwnK.adr (d := (Kd.int .i64)) hO24 (by first | omega | decide)
  obtain ⟨ad45, hA46, hc47⟩ := int_at (OwnK.C (d := (Kd.int .i64)) (own_keep (d := (Kd.int .i64)) (OwnK.on (d := (Kd.int .i64)) hO24 hb33) hk34 (by decide) hk38)) 0 0 (by first | omega | decide)
  obtain rfl := Option.some.inj hA46
  have he49 : w37.cell? ⟨g48, 0, none⟩ = some (.int .i64 (([7, 2, 1, 0] : List Int).getD 0 0)) := cell_g (hc47 0 _ rfl) (by first | rfl | (show 0 * 1 + 0 = 0; omega) | omega)
  refine rz (.pointer (some ⟨g48, 0, none⟩)) (run_as (run_at_z (P := Try.prog) (e := 3) (sz := 1) (by kernel_rfl) (by kernel_rfl)  (by first | omega | decide) _)) ?_
  refine rn true ?_
  refine rz (.int .i64 (([7, 2, 1, 0] : List Int).getD 0 0)) (by have e0_ := cellOn he49 (Below.refl _ _); simp [go_sem, sEv, sLook, nbeq, i64_w, -List.getD_eq_getElem?_getD, e0_]) ?_
  refine rn true ?_
  refine rs (.bool ((([7, 2, 1, 0] : List Int).getD 0 0) == 7)) ?_
  refine rs (.bool ((([7, 2, 1, 0] : List Int).getD 0 0) == 7)) ?_
  refine rv (.bool ((([7, 2, 1, 0] : List Int).getD 0 0) == 7)) ?_
  refine rw_end ?_
  refine w_weaken (G' := [(0, .bool ((([7, 2, 1, 0] : List Int).getD 0 0) == 7))]) ⟨rfl, trivial⟩ ?_
  refine w_ret (post_ret1 rfl rfl ?_)
  exact ⟨by first | rfl | (exfalso; simp_all; done) | simp_all, (hk38.below (by omega) (chain (chain (chain (hk14.below (by omega) (chain hb3 hb9)) hb18) hb23) hb33))⟩
end Go.Proofs.Ytbbhdohjhipalaa.Ce
end
section
namespace Go.Proofs.Ytbbhdohjhipalaa.Ce
open Go.RowKit Go.Proofs.YtbbhdohjhipalaaW.PrintWords Go.Proofs.YtbbhdohjhipalaaW.PrintLast Go.Proofs.YtbbhdohjhipalaaW.PrintMore
open Go.Proofs.Ytbbhdohjhipalaa.Flow
set_option linter.unusedVariables false
set_option linter.unusedSimpArgs false
theorem eqA55 (d : Nat) (w : World) (x0 y0 : Int) (x1 y1 : Int) :
    (Op.equalIn (d + 2) 55 (.agg #[.int .i64 x0, .int .i64 x1]) (.agg #[.int .i64 y0, .int .i64 y1])).run Try.prog w = .ok (x0 == y0 && (x1 == y1)) w := by
  refine eqA_of Try.underlying55 (by kernel_rfl) ?_
  refine eqf_cons (by rfl) (by go_simp; rfl) (by go_simp; rfl) (by go_simp) ?_
  exact eqf_last (by rfl) (by go_simp; rfl) (by go_simp; rfl) (by go_simp)
theorem eqA73 (d : Nat) (w : World) (x0 y0 : Int) (x1 y1 : Int) (x2 y2 : Int) (x3 y3 : Int) (x4 y4 : Int) :
    (Op.equalIn (d + 2) 73 (.agg #[.int .i64 x0, .int .i64 x1, .int .i64 x2, .int .i64 x3, .int .i64 x4]) (.agg #[.int .i64 y0, .int .i64 y1, .int .i64 y2, .int .i64 y3, .int .i64 y4])).run Try.prog w = .ok (x0 == y0 && (x1 == y1 && (x2 == y2 && (x3 == y3 && (x4 == y4))))) w := by
  refine eqA_of Try.underlying73 (by kernel_rfl) ?_
  refine eqf_cons (by rfl) (by go_simp; rfl) (by go_simp; rfl) (by go_simp) ?_
  refine eqf_cons (by rfl) (by go_simp; rfl) (by go_simp; rfl) (by go_simp) ?_
  refine eqf_cons (by rfl) (by go_simp; rfl) (by go_simp; rfl) (by go_simp) ?_
  refine eqf_cons (by rfl) (by go_simp; rfl) (by go_simp; rfl) (by go_simp) ?_
  exact eqf_last (by rfl) (by go_simp; rfl) (by go_simp; rfl) (by go_simp)
def eqE (a b : EL) : Bool := (a.win == b.win && a.key == b.key) && eqC a.c b.c
theorem eqE_iff (a b : EL) : eqE a b = true ↔ a = b := by
  unfold eqE
  rw [Bool.and_eq_true, Bool.and_eq_true, beq_iff_eq, beq_iff_eq, eqC_iff]
  constructor
  · rintro ⟨⟨h1, h2⟩, h3⟩
    cases a
    cases b
    simp_all
  · rintro rfl
    exact ⟨⟨rfl, rfl⟩, rfl⟩
theorem eqE_self (a : EL) : eqE a a = true := (eqE_iff a a).2 rfl
theorem ext_place (x : EL) : (earr x).extract 0 (0 + 2) = #[.int .i64 x.win, .int .i64 x.key] := by
  have h : (earr x).extract 0 (0 + 2) = ((encE x).extract 0 (0 + 2)).toArray := by simp [earr]
  rw [h]
  rfl
theorem ext_ecell (x : EL) : (earr x).extract 2 (2 + 74) = carr x.c := by
  have h : (earr x).extract 2 (2 + 74) = ((encE x).extract 2 (2 + 74)).toArray := by simp [earr]
  have h2 : (encE x).extract 2 (2 + 74) = encC x.c := by
    show ((encC x.c).take 74) = encC x.c
    exact List.take_of_length_le (by rw [encC_len]; omega)
  rw [h, h2]
  rfl
set_option maxRecDepth 100000 in
theorem eqE_run (d : Nat) (w : World) (a b : EL) : (Op.equalIn (d + 5) 83 (.agg (earr a)) (.agg (earr b))).run Try.prog w = .ok (eqE a b) w := by
  have iP : (isAgg 55).run Try.prog w = .ok true w := by kernel_rfl
  have sP : (sizeOf 55).run Try.prog w = .ok 2 w := by kernel_rfl
  have iC : (isAgg 81).run Try.prog w = .ok true w := by kernel_rfl
  have sC : (sizeOf 81).run Try.prog w = .ok 74 w := by kernel_rfl
  refine eqA_of Try.underlying83 (by kernel_rfl) ?_
  refine eqf_cons (by rfl) (part_agg iP sP (ext_place a)) (part_agg iP sP (ext_place b)) (eqA55 (d + 2) w _ _ _ _) ?_
  exact eqf_last (by rfl) (part_agg iC sC (ext_ecell a)) (part_agg iC sC (ext_ecell b)) (eqC_run d w a.c b.c)
set_option maxRecDepth 100000 in
theorem run_ne_entry (a b : EL) (w : World) : (binOp .neq 83 (.agg (earr a)) (.agg (earr b))).run Try.prog w = .ok (.bool (!eqE a b)) w := by
  have h : (Op.equalIn Op.maxDepth 83 (.agg (earr a)) (.agg (earr b))).run Try.prog w = .ok (eqE a b) w := eqE_run 9995 w a b
  simp [binOp, Op.equal, h]
theorem guard_ne_entry (x y : Operand) (a b : EL) (w : World) : (do eqGuard .neq 83 x y (.agg (earr a)) (.agg (earr b)); binOp .neq 83 (.agg (earr a)) (.agg (earr b)) : Sem Value).run Try.prog w = .ok (.bool (!eqE a b)) w := by
  have h : Try.prog.eqGuardType Try.prog.depth 83 = false := by kernel_rfl
  have h2 := run_ne_entry a b w
  simp [eqGuard, h, h2]
theorem take_eq_step {α : Type} {xs ys : List α} {z : α} {j : Nat} (h1 : j < xs.length) (h2 : j < ys.length) (h : xs.take j = ys.take j) (e : xs.getD j z = ys.getD j z) : xs.take (j + 1) = ys.take (j + 1) := by
  rw [List.take_succ_eq_append_getElem h1, List.take_succ_eq_append_getElem h2, h]
  rw [List.getD_eq_getElem?_getD, List.getD_eq_getElem?_getD, List.getElem?_eq_getElem h1, List.getElem?_eq_getElem h2] at e
  simp only [Option.getD_some] at e
  rw [e]
theorem take_eq_all {α : Type} {xs ys : List α} {j : Nat} (h1 : xs.length ≤ j) (h2 : ys.length ≤ j) (h : xs.take j = ys.take j) : xs = ys := by
  rwa [List.take_of_length_le h1, List.take_of_length_le h2] at h
theorem getD_ne {α : Type} {xs ys : List α} {z : α} {j : Nat} (h : xs.getD j z ≠ ys.getD j z) : ¬ xs = ys := fun e => h (by rw [e])
theorem no_iff {P : Prop} (h : ¬ P) : (false = true ↔ P) := ⟨fun e => absurd e (by decide), fun e => absurd e h⟩
theorem yes_iff {P : Prop} (h : P) : (true = true ↔ P) := ⟨fun _ => h, fun _ => rfl⟩
theorem same_iff (m n : NT) : m = n ↔ (m.kind = n.kind ∧ m.fr = n.fr ∧ m.tw = n.tw) ∧ (m.nums = n.nums ∧ m.ops = n.ops ∧ m.ents = n.ents) := by
  cases m
  cases n
  simp [and_assoc]
set_option maxHeartbeats 4000000 in
theorem large_calls (w : World) (n : NT) (A3 : Option Addr) (c3 : Nat) (A4 : Option Addr) (c4 : Nat) (A5 : Option Addr) (c5 : Nat) (hn3 : (Kd.int .i64).C w A3 n.nums.length n.nums) (hc3 : n.nums.length ≤ c3) (hn4 : kOp.C w A4 n.ops.length n.ops) (hc4 : n.ops.length ≤ c4) (hn5 : kEntry.C w A5 n.ents.length n.ents) (hc5 : n.ents.length ≤ c5) (hk3 : n.nums.length ≤ 140737488355328) (hk4 : n.ops.length ≤ 140737488355328) (hk5 : n.ents.length ≤ 140737488355328) :
    Calls Try.prog 10 #[.agg #[.int .i64 n.kind, .int .i64 n.fr, .int .i64 n.tw, .slice A3 n.nums.length c3, .slice A4 n.ops.length c4, .slice A5 n.ents.length c5]] w fun e w' => e = .returned (.bool (decide (500 < n.nums.length + n.ops.length + n.ents.length))) ∧ Below w.heap.size w w' := by
  refine calls_flow Try.func10 rfl 15 rfl (Nat.le_of_ble_eq_true rfl) [(0, .agg #[.int .i64 n.kind, .int .i64 n.fr, .int .i64 n.tw, .slice A3 n.nums.length c3, .slice A4 n.ops.length c4, .slice A5 n.ents.length c5])] ?_ ?_
  · intro t v h; exact args_look rfl t v h
  refine wsr ?_
  refine rw_new (cs := #[.int .i64 n.kind, .int .i64 n.fr, .int .i64 n.tw, .slice A3 n.nums.length c3, .slice A4 n.ops.length c4, .slice A5 n.ents.length c5]) (t := 26) (fun g => .pointer (some ⟨g, 0, none⟩)) rfl rfl rfl rfl (by simp [go_sem, sEv, sLook, nbeq, i64_w, -List.getD_eq_getElem?_getD]) ?_
  intro g1 w2 hg6 hz5 hb3 hk4
  have hs_w2 := hb3.size
  refine rv (.bool false) ?_
  refine rw_end ?_
  refine wsr ?_
  refine ru (.pointer (some ⟨g1, 3, none⟩)) ?_
  refine rl hk4 3 (.slice A3 n.nums.length c3) ?_
  refine rs (.int .i64 ((n.nums.length : Nat) : Int)) ?_
  refine ru (.pointer (some ⟨g1, 4, none⟩)) ?_
  refine rl hk4 4 (.slice A4 n.ops.length c4) ?_
  refine rs (.int .i64 ((n.ops.length : Nat) : Int)) ?_
  refine rz (.int .i64 ((n.nums.length + n.ops.length : Nat) : Int)) (by simp [go_sem, sEv, sLook, nbeq, i64_w, -List.getD_eq_getElem?_getD]; exact wrap_id (by omega) (by omega)) ?_
  refine ru (.pointer (some ⟨g1, 5, none⟩)) ?_
  refine rl hk4 5 (.slice A5 n.ents.length c5) ?_
  refine rs (.int .i64 ((n.ents.length : Nat) : Int)) ?_
  refine rz (.int .i64 ((n.nums.length + n.ops.length + n.ents.length : Nat) : Int)) (by simp [go_sem, sEv, sLook, nbeq, i64_w, -List.getD_eq_getElem?_getD]; exact wrap_id (by omega) (by omega)) ?_
  refine rs (.bool (decide (500 < ((n.nums.length + n.ops.length + n.ents.length : Nat) : Int)))) ?_
  refine rv (.bool (decide (500 < ((n.nums.length + n.ops.length + n.ents.length : Nat) : Int)))) ?_
  refine rw_end ?_
  refine w_weaken (G' := [(2, .bool (decide (500 < ((n.nums.length + n.ops.length + n.ents.length : Nat) : Int))))]) ⟨rfl, trivial⟩ ?_
  refine w_ret (post_ret1 rfl rfl ?_)
  exact ⟨by rw [show (decide (500 < ((n.nums.length + n.ops.length + n.ents.length : Nat) : Int))) = (decide (500 < n.nums.length + n.ops.length + n.ents.length)) by rw [Bool.eq_iff_iff, decide_eq_true_eq, decide_eq_true_eq]; omega], hb3⟩
end Go.Proofs.Ytbbhdohjhipalaa.Ce
end
section
namespace Go.Proofs.Ytbbhdohjhipalaa.Ce
open Go.RowKit Go.Proofs.YtbbhdohjhipalaaW.PrintWords Go.Proofs.YtbbhdohjhipalaaW.PrintLast Go.Proofs.YtbbhdohjhipalaaW.PrintMore
open Go.Proofs.Ytbbhdohjhipalaa.Flow
set_option linter.unusedVariables false
set_option linter.unusedSimpArgs false
set_option maxHeartbeats 4000000 in
theorem rsame_calls (w : World) (m n : NT) (A3 : Option Addr) (c3 : Nat) (A4 : Option Addr) (c4 : Nat) (A5 : Option Addr) (c5 : Nat) (hn3 : (Kd.int .i64).C w A3 m.nums.length m.nums) (hc3 : m.nums.length ≤ c3) (hk3 : m.nums.length ≤ 140737488355328) (hn4 : kOp.C w A4 m.ops.length m.ops) (hc4 : m.ops.length ≤ c4) (hk4 : m.ops.length ≤ 140737488355328) (hn5 : kEntry.C w A5 m.ents.length m.ents) (hc5 : m.ents.length ≤ c5) (hk5 : m.ents.length ≤ 140737488355328) (A6 : Option Addr) (c6 : Nat) (A7 : Option Addr) (c7 : Nat) (A8 : Option Addr) (c8 : Nat) (hn6 : (Kd.int .i64).C w A6 n.nums.length n.nums) (hc6 : n.nums.length ≤ c6) (hk6 : n.nums.length ≤ 140737488355328) (hn7 : kOp.C w A7 n.ops.length n.ops) (hc7 : n.ops.length ≤ c7) (hk7 : n.ops.length ≤ 140737488355328) (hn8 : kEntry.C w A8 n.ents.length n.ents) (hc8 : n.ents.length ≤ c8) (hk8 : n.ents.length ≤ 140737488355328) :
    Calls Try.prog 17 #[.agg #[.int .i64 m.kind, .int .i64 m.fr, .int .i64 m.tw, .slice A3 m.nums.length c3, .slice A4 m.ops.length c4, .slice A5 m.ents.length c5], .agg #[.int .i64 n.kind, .int .i64 n.fr, .int .i64 n.tw, .slice A6 n.nums.length c6, .slice A7 n.ops.length c7, .slice A8 n.ents.length c8]] w fun e w' => ∃ bb, e = .returned (.bool bb) ∧ (bb = true ↔ m = n) ∧ Below w.heap.size w w' := by
  refine calls_flow Try.func17 rfl 108 rfl (Nat.le_of_ble_eq_true rfl) [(0, .agg #[.int .i64 m.kind, .int .i64 m.fr, .int .i64 m.tw, .slice A3 m.nums.length c3, .slice A4 m.ops.length c4, .slice A5 m.ents.length c5]), (1, .agg #[.int .i64 n.kind, .int .i64 n.fr, .int .i64 n.tw, .slice A6 n.nums.length c6, .slice A7 n.ops.length c7, .slice A8 n.ents.length c8])] ?_ ?_
  · intro t v h; exact args_look rfl t v h
  refine wsr ?_
  refine rw_new (cs := #[.int .i64 m.kind, .int .i64 m.fr, .int .i64 m.tw, .slice A3 m.nums.length c3, .slice A4 m.ops.length c4, .slice A5 m.ents.length c5]) (t := 26) (fun g => .pointer (some ⟨g, 0, none⟩)) rfl rfl rfl rfl (by simp [go_sem, sEv, sLook, nbeq, i64_w, -List.getD_eq_getElem?_getD]) ?_
  intro g1 w2 hg6 hz5 hb3 hk4
  have hs_w2 := hb3.size
  refine rw_new (cs := #[.int .i64 n.kind, .int .i64 n.fr, .int .i64 n.tw, .slice A6 n.nums.length c6, .slice A7 n.ops.length c7, .slice A8 n.ents.length c8]) (t := 26) (fun g => .pointer (some ⟨g, 0, none⟩)) rfl rfl rfl rfl (by simp [go_sem, sEv, sLook, nbeq, i64_w, -List.getD_eq_getElem?_getD]) ?_
  intro g7 w8 hg12 hz11 hb9 hk10
  have hs_w8 := hb9.size
  refine rv (.bool false) ?_
  refine rw_end ?_
  refine w_seq ?_
  refine wsr ?_
  refine ru (.pointer (some ⟨g1, 0, none⟩)) ?_
  refine rl (hk4.on hb9) 0 (.int .i64 m.kind) ?_
  refine ru (.pointer (some ⟨g7, 0, none⟩)) ?_
  refine rl hk10 0 (.int .i64 n.kind) ?_
  refine rs (.bool (m.kind != n.kind)) ?_
  refine rv (.bool (m.kind != n.kind)) ?_
  rcases bcase (m.kind != n.kind) with c13 | c13
  · have l14 : m.kind = n.kind := by simpa using c13
    refine rnk c13 ?_
    refine ru (.pointer (some ⟨g1, 1, none⟩)) ?_
    refine rnk c13 ?_
    refine rl (hk4.on hb9) 1 (.int .i64 m.fr) ?_
    refine rnk c13 ?_
    refine ru (.pointer (some ⟨g7, 1, none⟩)) ?_
    refine rnk c13 ?_
    refine rl hk10 1 (.int .i64 n.fr) ?_
    refine rnk c13 ?_
    refine rs (.bool (m.fr != n.fr)) ?_
    refine rp c13 (.bool (m.fr != n.fr)) ?_
    refine rv (.bool (m.fr != n.fr)) ?_
    rcases bcase (m.fr != n.fr) with c15 | c15
    · have l16 : m.fr = n.fr := by simpa using c15
      refine rnk c15 ?_
      refine ru (.pointer (some ⟨g1, 2, none⟩)) ?_
      refine rnk c15 ?_
      refine rl (hk4.on hb9) 2 (.int .i64 m.tw) ?_
      refine rnk c15 ?_
      refine ru (.pointer (some ⟨g7, 2, none⟩)) ?_
      refine rnk c15 ?_
      refine rl hk10 2 (.int .i64 n.tw) ?_
      refine rnk c15 ?_
      refine rs (.bool (m.tw != n.tw)) ?_
      refine rp c15 (.bool (m.tw != n.tw)) ?_
      refine rv (.bool (m.tw != n.tw)) ?_
      rcases bcase (m.tw != n.tw) with c17 | c17
      · have l18 : m.tw = n.tw := by simpa using c17
        refine rnk c17 ?_
        refine ru (.pointer (some ⟨g1, 3, none⟩)) ?_
        refine rnk c17 ?_
        refine rl (hk4.on hb9) 3 (.slice A3 m.nums.length c3) ?_
        refine rnk c17 ?_
        refine rs (.int .i64 ((m.nums.length : Nat) : Int)) ?_
        refine rnk c17 ?_
        refine ru (.pointer (some ⟨g7, 3, none⟩)) ?_
        refine rnk c17 ?_
        refine rl hk10 3 (.slice A6 n.nums.length c6) ?_
        refine rnk c17 ?_
        refine rs (.int .i64 ((n.nums.length : Nat) : Int)) ?_
        refine rnk c17 ?_
        refine rs (.bool (((m.nums.length : Nat) : Int) != ((n.nums.length : Nat) : Int))) ?_
        refine rp c17 (.bool (((m.nums.length : Nat) : Int) != ((n.nums.length : Nat) : Int))) ?_
        refine rv (.bool (((m.nums.length : Nat) : Int) != ((n.nums.length : Nat) : Int))) ?_
        rcases bcase (((m.nums.length : Nat) : Int) != ((n.nums.length : Nat) : Int)) with c19 | c19
        · have l20 : ((m.nums.length : Nat) : Int) = ((n.nums.length : Nat) : Int) := by simpa using c19
          refine rnk c19 ?_
          refine ru (.pointer (some ⟨g1, 4, none⟩)) ?_
          refine rnk c19 ?_
          refine rl (hk4.on hb9) 4 (.slice A4 m.ops.length c4) ?_
          refine rnk c19 ?_
          refine rs (.int .i64 ((m.ops.length : Nat) : Int)) ?_
          refine rnk c19 ?_
          refine ru (.pointer (some ⟨g7, 4, none⟩)) ?_
          refine rnk c19 ?_
          refine rl hk10 4 (.slice A7 n.ops.length c7) ?_
          refine rnk c19 ?_
          refine rs (.int .i64 ((n.ops.length : Nat) : Int)) ?_
          refine rnk c19 ?_
          refine rs (.bool (((m.ops.length : Nat) : Int) != ((n.ops.length : Nat) : Int))) ?_
          refine rp c19 (.bool (((m.ops.length : Nat) : Int) != ((n.ops.length : Nat) : Int))) ?_
          refine rv (.bool (((m.ops.length : Nat) : Int) != ((n.ops.length : Nat) : Int))) ?_
          rcases bcase (((m.ops.length : Nat) : Int) != ((n.ops.length : Nat) : Int)) with c21 | c21
          · have l22 : ((m.ops.length : Nat) : Int) = ((n.ops.length : Nat) : Int) := by simpa using c21
            refine rnk c21 ?_
            refine ru (.pointer (some ⟨g1, 5, none⟩)) ?_
            refine rnk c21 ?_
            refine rl (hk4.on hb9) 5 (.slice A5 m.ents.length c5) ?_
            refine rnk c21 ?_
            refine rs (.int .i64 ((m.ents.length : Nat) : Int)) ?_
            refine rnk c21 ?_
            refine ru (.pointer (some ⟨g7, 5, none⟩)) ?_
            refine rnk c21 ?_
            refine rl hk10 5 (.slice A8 n.ents.length c8) ?_
            refine rnk c21 ?_
            refine rs (.int .i64 ((n.ents.length : Nat) : Int)) ?_
            refine rnk c21 ?_
            refine rs (.bool (((m.ents.length : Nat) : Int) != ((n.ents.length : Nat) : Int))) ?_
            refine rp c21 (.bool (((m.ents.length : Nat) : Int) != ((n.ents.length : Nat) : Int))) ?_
            refine rw_end ?_
            refine w_weaken (G' := [(2, .pointer (some ⟨g1, 0, none⟩)), (3, .pointer (some ⟨g7, 0, none⟩)), (4, .bool false), (53, .bool (((m.ents.length : Nat) : Int) != ((n.ents.length : Nat) : Int)))]) ⟨rfl, rfl, rfl, rfl, trivial⟩ ?_
            refine w_cond rfl rfl (fun c23 => ?_) (fun c23 => ?_)
            · have l24 : ¬ ((m.ents.length : Nat) : Int) = ((n.ents.length : Nat) : Int) := by simpa using c23
              refine wsr ?_
              refine rv (.bool false) ?_
              refine rw_end ?_
              refine w_ret (post_ret1 rfl rfl ?_)
              exact ⟨_, rfl, no_iff (fun h_ => by obtain ⟨⟨q1, q2, q3⟩, q4, q5, q6⟩ := (same_iff m n).1 h_; have q7 := congrArg List.length q4; have q8 := congrArg List.length q5; have q9 := congrArg List.length q6; omega), (chain hb3 hb9)⟩
            · have l25 : ((m.ents.length : Nat) : Int) = ((n.ents.length : Nat) : Int) := by simpa using c23
              refine w_skip ?_
              refine w_seq ?_
              refine wsr ?_
              refine rv (.int .i64 0) ?_
              refine rw_end ?_
              refine w_block ?_
              refine w_loop (fun m_ G W_ => ∃ (j0 : Nat), j0 + m_ = m.nums.length ∧ n.nums.length = m.nums.length ∧ Below w.heap.size w W_ ∧ (Blk W_ g1 26 #[.int .i64 m.kind, .int .i64 m.fr, .int .i64 m.tw, .slice A3 m.nums.length c3, .slice A4 m.ops.length c4, .slice A5 m.ents.length c5]) ∧ (Blk W_ g7 26 #[.int .i64 n.kind, .int .i64 n.fr, .int .i64 n.tw, .slice A6 n.nums.length c6, .slice A7 n.ops.length c7, .slice A8 n.ents.length c8]) ∧ (m.nums.take j0 = n.nums.take j0) ∧ G = [(2, .pointer (some ⟨g1, 0, none⟩)), (3, .pointer (some ⟨g7, 0, none⟩)), (5, .int .i64 ((j0 : Nat) : Int))]) m.nums.length [(2, .pointer (some ⟨g1, 0, none⟩)), (3, .pointer (some ⟨g7, 0, none⟩)), (5, .int .i64 0)] ⟨0, by omega, by omega, (chain hb3 hb9), (hk4.on hb9), hk10, (by simp), rfl⟩ ⟨rfl, rfl, rfl, trivial⟩ ?_
              rintro m0_ G w_L26 ⟨j0, hp27, hp28, hB_L26, hf29, hf30, hf31, rfl⟩
              have hs_w_L26 := hB_L26.size
              have hltb_hf29 := hf29.lt
              have hltb_hf30 := hf30.lt
              refine w_seq ?_
              refine wsr ?_
              refine rv (.int .i64 ((j0 : Nat) : Int)) ?_
              refine ru (.pointer (some ⟨g1, 3, none⟩)) ?_
              refine rl hf29 3 (.slice A3 m.nums.length c3) ?_
              refine rs (.int .i64 ((m.nums.length : Nat) : Int)) ?_
              refine rs (.bool (decide (((j0 : Nat) : Int) < ((m.nums.length : Nat) : Int)))) ?_
              refine rw_end ?_
              refine w_weaken (G' := [(2, .pointer (some ⟨g1, 0, none⟩)), (3, .pointer (some ⟨g7, 0, none⟩)), (5, .int .i64 ((j0 : Nat) : Int)), (58, .bool (decide (((j0 : Nat) : Int) < ((m.nums.length : Nat) : Int))))]) ⟨rfl, rfl, rfl, rfl, trivial⟩ ?_
              refine w_cond rfl rfl (fun cJ => ?_) (fun cJ => ?_)
              · have l32 : (((j0 : Nat) : Int) < ((m.nums.length : Nat) : Int)) := of_decide_eq_true cJ
                refine w_skip ?_
                refine w_seq ?_
                refine w_block ?_
                refine w_seq ?_
                obtain ⟨ad33, hA34, hc35⟩ := int_at (Kd.C_below hn3 hB_L26) 0 j0 (by first | omega | decide)
                subst hA34
                have he36 : w_L26.cell? (ad33.add (j0)) = some (.int .i64 (m.nums.getD j0 0)) := cell_0 (hc35 0 _ rfl)
                obtain ⟨ad37, hA38, hc39⟩ := int_at (Kd.C_below hn6 hB_L26) 0 j0 (by first | omega | decide)
                subst hA38
                have he40 : w_L26.cell? (ad37.add (j0)) = some (.int .i64 (n.nums.getD j0 0)) := cell_0 (hc39 0 _ rfl)
                refine w_drawk (M := [0, 1, 0, 7, 15, 0, 32, 0, 224, 480, 1023]) (ss := [Is (.pointer (some ⟨g1, 3, none⟩)), Is (.slice (some ad33) m.nums.length c3), Is (.int .i64 ((j0 : Nat) : Int)), Is (.pointer (some (ad33.add (j0)))), Is (.int .i64 (m.nums.getD j0 0)), Is (.pointer (some ⟨g7, 3, none⟩)), Is (.slice (some ad37) n.nums.length c6), Is (.int .i64 ((j0 : Nat) : Int)), Is (.pointer (some (ad37.add (j0)))), Is (.int .i64 (n.nums.getD j0 0))]) 10 rfl (by decide +kernel) ?_
                refine t_is (.pointer (some ⟨g1, 3, none⟩)) rfl rfl rfl rfl (fun W_ hW_ F_ => by simp [go_sem, sEv, sLook, nbeq, i64_w, -List.getD_eq_getElem?_getD, Try.underlying26]) ?_
                refine t_is (.slice (some ad33) m.nums.length c3) rfl rfl rfl rfl (fun W_ hW_ F_ => by have eb_ := (hf29.on (below_of_drew hW_)); have e0_ := eb_.cellv (i := 3) (v := (.slice (some ad33) m.nums.length c3 : Value)) rfl; simp [go_sem, sEv, sLook, nbeq, i64_w, -List.getD_eq_getElem?_getD, e0_, Try.underlying22]) ?_
                refine tr (.int .i64 ((j0 : Nat) : Int)) ?_
                refine t_is (.pointer (some (ad33.add (j0)))) rfl rfl rfl rfl (fun W_ hW_ F_ => (run_as (run_at_1 (P := Try.prog) (e := 3) (by kernel_rfl) (by kernel_rfl) j0 (by first | omega | decide) _))) ?_
                refine t_is (.int .i64 (m.nums.getD j0 0)) rfl rfl rfl rfl (fun W_ hW_ F_ => by have e0_ := cellOn he36 (below_of_drew hW_); simp [go_sem, sEv, sLook, nbeq, i64_w, -List.getD_eq_getElem?_getD, e0_]) ?_
                refine t_is (.pointer (some ⟨g7, 3, none⟩)) rfl rfl rfl rfl (fun W_ hW_ F_ => by simp [go_sem, sEv, sLook, nbeq, i64_w, -List.getD_eq_getElem?_getD, Try.underlying26]) ?_
                refine t_is (.slice (some ad37) n.nums.length c6) rfl rfl rfl rfl (fun W_ hW_ F_ => by have eb_ := (hf30.on (below_of_drew hW_)); have e0_ := eb_.cellv (i := 3) (v := (.slice (some ad37) n.nums.length c6 : Value)) rfl; simp [go_sem, sEv, sLook, nbeq, i64_w, -List.getD_eq_getElem?_getD, e0_, Try.underlying22]) ?_
                refine tr (.int .i64 ((j0 : Nat) : Int)) ?_
                refine t_is (.pointer (some (ad37.add (j0)))) rfl rfl rfl rfl (fun W_ hW_ F_ => (run_as (run_at_1 (P := Try.prog) (e := 3) (by kernel_rfl) (by kernel_rfl) j0 (by first | omega | decide) _))) ?_
                refine t_is (.int .i64 (n.nums.getD j0 0)) rfl rfl rfl rfl (fun W_ hW_ F_ => by have e0_ := cellOn he40 (below_of_drew hW_); simp [go_sem, sEv, sLook, nbeq, i64_w, -List.getD_eq_getElem?_getD, e0_]) ?_
                refine t_tail ?_
                intro w41 hb42_ F43
                have hb42 := below_of_drew hb42_
                have hs_w41 := hb42.size
                clear F43
                refine rs (.bool ((m.nums.getD j0 0) != (n.nums.getD j0 0))) ?_
                refine rw_end ?_
                refine w_weaken (G' := [(2, .pointer (some ⟨g1, 0, none⟩)), (3, .pointer (some ⟨g7, 0, none⟩)), (5, .int .i64 ((j0 : Nat) : Int)), (71, .bool ((m.nums.getD j0 0) != (n.nums.getD j0 0)))]) ⟨rfl, rfl, rfl, rfl, trivial⟩ ?_
                refine w_cond rfl rfl (fun cD => ?_) (fun cD => ?_)
                · have l44 : ¬ (m.nums.getD j0 0) = (n.nums.getD j0 0) := by simpa using cD
                  refine wsr ?_
                  refine rv (.bool false) ?_
                  refine rw_end ?_
                  refine w_ret (post_ret1 rfl rfl ?_)
                  exact ⟨_, rfl, no_iff (fun h_ => getD_ne (z := 0) (j := j0) (by simpa using cD) ((same_iff m n).1 h_).2.1), (chain hB_L26 hb42)⟩
                · have l45 : (m.nums.getD j0 0) = (n.nums.getD j0 0) := by simpa using cD
                  refine w_skip ?_
                  refine w_blk ?_
                  refine w_region ?_
                  refine rv (.int .i64 ((j0 : Nat) : Int)) ?_
                  refine rz (.int .i64 ((j0 + 1 : Nat) : Int)) (by simp [go_sem, sEv, sLook, nbeq, i64_w, -List.getD_eq_getElem?_getD]; exact wrap_id (by omega) (by omega)) ?_
                  refine rv (.int .i64 ((j0 + 1 : Nat) : Int)) ?_
                  refine rw_end ?_
                  exact w_back (m0_ - 1) [(2, .pointer (some ⟨g1, 0, none⟩)), (3, .pointer (some ⟨g7, 0, none⟩)), (5, .int .i64 ((j0 + 1 : Nat) : Int))] (by omega) ⟨rfl, rfl, rfl, trivial⟩ ⟨(j0 + 1), by omega, by omega, (chain hB_L26 hb42), (hf29.on hb42), (hf30.on hb42), (take_eq_step (z := 0) (by omega) (by omega) hf31 (by simpa using cD)), rfl⟩
              · have l46 : ¬ (((j0 : Nat) : Int) < ((m.nums.length : Nat) : Int)) := of_decide_eq_false cJ
                refine w_exit rfl ?_
                refine w_seq ?_
                refine wsr ?_
                refine rv (.int .i64 0) ?_
                refine rw_end ?_
                refine w_block ?_
                have heq1_ : m.nums = n.nums := take_eq_all (by omega) (by omega) hf31
                refine w_loop (fun m_ G W_ => ∃ (j1 : Nat), j1 + m_ = m.ops.length ∧ n.ops.length = m.ops.length ∧ Below w.heap.size w W_ ∧ (Blk W_ g1 26 #[.int .i64 m.kind, .int .i64 m.fr, .int .i64 m.tw, .slice A3 m.nums.length c3, .slice A4 m.ops.length c4, .slice A5 m.ents.length c5]) ∧ (Blk W_ g7 26 #[.int .i64 n.kind, .int .i64 n.fr, .int .i64 n.tw, .slice A6 n.nums.length c6, .slice A7 n.ops.length c7, .slice A8 n.ents.length c8]) ∧ (m.ops.take j1 = n.ops.take j1) ∧ G = [(2, .pointer (some ⟨g1, 0, none⟩)), (3, .pointer (some ⟨g7, 0, none⟩)), (6, .int .i64 ((j1 : Nat) : Int))]) m.ops.length [(2, .pointer (some ⟨g1, 0, none⟩)), (3, .pointer (some ⟨g7, 0, none⟩)), (6, .int .i64 0)] ⟨0, by omega, by omega, hB_L26, hf29, hf30, (by simp), rfl⟩ ⟨rfl, rfl, rfl, trivial⟩ ?_
                rintro m1_ G w_L47 ⟨j1, hp48, hp49, hB_L47, hf50, hf51, hf52, rfl⟩
                have hs_w_L47 := hB_L47.size
                have hltb_hf50 := hf50.lt
                have hltb_hf51 := hf51.lt
                refine w_seq ?_
                refine wsr ?_
                refine rv (.int .i64 ((j1 : Nat) : Int)) ?_
                refine ru (.pointer (some ⟨g1, 4, none⟩)) ?_
                refine rl hf50 4 (.slice A4 m.ops.length c4) ?_
                refine rs (.int .i64 ((m.ops.length : Nat) : Int)) ?_
                refine rs (.bool (decide (((j1 : Nat) : Int) < ((m.ops.length : Nat) : Int)))) ?_
                refine rw_end ?_
                refine w_weaken (G' := [(2, .pointer (some ⟨g1, 0, none⟩)), (3, .pointer (some ⟨g7, 0, none⟩)), (6, .int .i64 ((j1 : Nat) : Int)), (76, .bool (decide (((j1 : Nat) : Int) < ((m.ops.length : Nat) : Int))))]) ⟨rfl, rfl, rfl, rfl, trivial⟩ ?_
                refine w_cond rfl rfl (fun cJ => ?_) (fun cJ => ?_)
                · have l53 : (((j1 : Nat) : Int) < ((m.ops.length : Nat) : Int)) := of_decide_eq_true cJ
                  refine w_skip ?_
                  refine w_seq ?_
                  refine w_block ?_
                  refine w_seq ?_
                  obtain ⟨ad54, hA55, hc56⟩ := flat_at (Kd.C_below hn4 hB_L47) (0, 0, 0, 0, 0) j1 (by first | omega | decide)
                  subst hA55
                  have he57 : w_L47.cell? (ad54.add (j1 * 5)) = some (.int .i64 ((m.ops.getD j1 (0, 0, 0, 0, 0)).1)) := cell_0 (hc56 0 _ rfl)
                  have he58 : w_L47.cell? ⟨(ad54.add (j1 * 5)).block, (ad54.add (j1 * 5)).off + 1, none⟩ = some (.int .i64 ((m.ops.getD j1 (0, 0, 0, 0, 0)).2.1)) := cell_j (hc56 1 _ rfl)
                  have he59 : w_L47.cell? ⟨(ad54.add (j1 * 5)).block, (ad54.add (j1 * 5)).off + 2, none⟩ = some (.int .i64 ((m.ops.getD j1 (0, 0, 0, 0, 0)).2.2.1)) := cell_j (hc56 2 _ rfl)
                  have he60 : w_L47.cell? ⟨(ad54.add (j1 * 5)).block, (ad54.add (j1 * 5)).off + 3, none⟩ = some (.int .i64 ((m.ops.getD j1 (0, 0, 0, 0, 0)).2.2.2.1)) := cell_j (hc56 3 _ rfl)
                  have he61 : w_L47.cell? ⟨(ad54.add (j1 * 5)).block, (ad54.add (j1 * 5)).off + 4, none⟩ = some (.int .i64 ((m.ops.getD j1 (0, 0, 0, 0, 0)).2.2.2.2)) := cell_j (hc56 4 _ rfl)
                  obtain ⟨ad62, hA63, hc64⟩ := flat_at (Kd.C_below hn7 hB_L47) (0, 0, 0, 0, 0) j1 (by first | omega | decide)
                  subst hA63
                  have he65 : w_L47.cell? (ad62.add (j1 * 5)) = some (.int .i64 ((n.ops.getD j1 (0, 0, 0, 0, 0)).1)) := cell_0 (hc64 0 _ rfl)
                  have he66 : w_L47.cell? ⟨(ad62.add (j1 * 5)).block, (ad62.add (j1 * 5)).off + 1, none⟩ = some (.int .i64 ((n.ops.getD j1 (0, 0, 0, 0, 0)).2.1)) := cell_j (hc64 1 _ rfl)
                  have he67 : w_L47.cell? ⟨(ad62.add (j1 * 5)).block, (ad62.add (j1 * 5)).off + 2, none⟩ = some (.int .i64 ((n.ops.getD j1 (0, 0, 0, 0, 0)).2.2.1)) := cell_j (hc64 2 _ rfl)
                  have he68 : w_L47.cell? ⟨(ad62.add (j1 * 5)).block, (ad62.add (j1 * 5)).off + 3, none⟩ = some (.int .i64 ((n.ops.getD j1 (0, 0, 0, 0, 0)).2.2.2.1)) := cell_j (hc64 3 _ rfl)
                  have he69 : w_L47.cell? ⟨(ad62.add (j1 * 5)).block, (ad62.add (j1 * 5)).off + 4, none⟩ = some (.int .i64 ((n.ops.getD j1 (0, 0, 0, 0, 0)).2.2.2.2)) := cell_j (hc64 4 _ rfl)
                  refine w_drawk (M := [0, 1, 0, 7, 15, 0, 32, 0, 224, 480, 1023]) (ss := [Is (.pointer (some ⟨g1, 4, none⟩)), Is (.slice (some ad54) m.ops.length c4), Is (.int .i64 ((j1 : Nat) : Int)), Is (.pointer (some (ad54.add (j1 * 5)))), Is (.agg #[.int .i64 ((m.ops.getD j1 (0, 0, 0, 0, 0)).1), .int .i64 ((m.ops.getD j1 (0, 0, 0, 0, 0)).2.1), .int .i64 ((m.ops.getD j1 (0, 0, 0, 0, 0)).2.2.1), .int .i64 ((m.ops.getD j1 (0, 0, 0, 0, 0)).2.2.2.1), .int .i64 ((m.ops.getD j1 (0, 0, 0, 0, 0)).2.2.2.2)]), Is (.pointer (some ⟨g7, 4, none⟩)), Is (.slice (some ad62) n.ops.length c7), Is (.int .i64 ((j1 : Nat) : Int)), Is (.pointer (some (ad62.add (j1 * 5)))), Is (.agg #[.int .i64 ((n.ops.getD j1 (0, 0, 0, 0, 0)).1), .int .i64 ((n.ops.getD j1 (0, 0, 0, 0, 0)).2.1), .int .i64 ((n.ops.getD j1 (0, 0, 0, 0, 0)).2.2.1), .int .i64 ((n.ops.getD j1 (0, 0, 0, 0, 0)).2.2.2.1), .int .i64 ((n.ops.getD j1 (0, 0, 0, 0, 0)).2.2.2.2)])]) 10 rfl (by decide +kernel) ?_
                  refine t_is (.pointer (some ⟨g1, 4, none⟩)) rfl rfl rfl rfl (fun W_ hW_ F_ => by simp [go_sem, sEv, sLook, nbeq, i64_w, -List.getD_eq_getElem?_getD, Try.underlying26]) ?_
                  refine t_is (.slice (some ad54) m.ops.length c4) rfl rfl rfl rfl (fun W_ hW_ F_ => by have eb_ := (hf50.on (below_of_drew hW_)); have e0_ := eb_.cellv (i := 4) (v := (.slice (some ad54) m.ops.length c4 : Value)) rfl; simp [go_sem, sEv, sLook, nbeq, i64_w, -List.getD_eq_getElem?_getD, e0_, Try.underlying23]) ?_
                  refine tr (.int .i64 ((j1 : Nat) : Int)) ?_
                  refine t_is (.pointer (some (ad54.add (j1 * 5)))) rfl rfl rfl rfl (fun W_ hW_ F_ => (run_as (run_at_k (P := Try.prog) (e := 73) (sz := 5) (by kernel_rfl) (by kernel_rfl) j1 (by first | omega | decide) _))) ?_
                  refine t_is (.agg #[.int .i64 ((m.ops.getD j1 (0, 0, 0, 0, 0)).1), .int .i64 ((m.ops.getD j1 (0, 0, 0, 0, 0)).2.1), .int .i64 ((m.ops.getD j1 (0, 0, 0, 0, 0)).2.2.1), .int .i64 ((m.ops.getD j1 (0, 0, 0, 0, 0)).2.2.2.1), .int .i64 ((m.ops.getD j1 (0, 0, 0, 0, 0)).2.2.2.2)]) rfl rfl rfl rfl (fun W_ hW_ F_ => by have e0_ := cellOn he57 (below_of_drew hW_); have e1_ := cellOn he58 (below_of_drew hW_); have e2_ := cellOn he59 (below_of_drew hW_); have e3_ := cellOn he60 (below_of_drew hW_); have e4_ := cellOn he61 (below_of_drew hW_); simp [go_sem, sEv, sLook, nbeq, i64_w, -List.getD_eq_getElem?_getD, e0_, e1_, e2_, e3_, e4_, Try.underlying73]) ?_
                  refine t_is (.pointer (some ⟨g7, 4, none⟩)) rfl rfl rfl rfl (fun W_ hW_ F_ => by simp [go_sem, sEv, sLook, nbeq, i64_w, -List.getD_eq_getElem?_getD, Try.underlying26]) ?_
                  refine t_is (.slice (some ad62) n.ops.length c7) rfl rfl rfl rfl (fun W_ hW_ F_ => by have eb_ := (hf51.on (below_of_drew hW_)); have e0_ := eb_.cellv (i := 4) (v := (.slice (some ad62) n.ops.length c7 : Value)) rfl; simp [go_sem, sEv, sLook, nbeq, i64_w, -List.getD_eq_getElem?_getD, e0_, Try.underlying23]) ?_
                  refine tr (.int .i64 ((j1 : Nat) : Int)) ?_
                  refine t_is (.pointer (some (ad62.add (j1 * 5)))) rfl rfl rfl rfl (fun W_ hW_ F_ => (run_as (run_at_k (P := Try.prog) (e := 73) (sz := 5) (by kernel_rfl) (by kernel_rfl) j1 (by first | omega | decide) _))) ?_
                  refine t_is (.agg #[.int .i64 ((n.ops.getD j1 (0, 0, 0, 0, 0)).1), .int .i64 ((n.ops.getD j1 (0, 0, 0, 0, 0)).2.1), .int .i64 ((n.ops.getD j1 (0, 0, 0, 0, 0)).2.2.1), .int .i64 ((n.ops.getD j1 (0, 0, 0, 0, 0)).2.2.2.1), .int .i64 ((n.ops.getD j1 (0, 0, 0, 0, 0)).2.2.2.2)]) rfl rfl rfl rfl (fun W_ hW_ F_ => by have e0_ := cellOn he65 (below_of_drew hW_); have e1_ := cellOn he66 (below_of_drew hW_); have e2_ := cellOn he67 (below_of_drew hW_); have e3_ := cellOn he68 (below_of_drew hW_); have e4_ := cellOn he69 (below_of_drew hW_); simp [go_sem, sEv, sLook, nbeq, i64_w, -List.getD_eq_getElem?_getD, e0_, e1_, e2_, e3_, e4_, Try.underlying73]) ?_
                  refine t_tail ?_
                  intro w70 hb71_ F72
                  have hb71 := below_of_drew hb71_
                  have hs_w70 := hb71.size
                  clear F72
                  refine rz (.bool (!(((m.ops.getD j1 (0, 0, 0, 0, 0)).1) == ((n.ops.getD j1 (0, 0, 0, 0, 0)).1) && (((m.ops.getD j1 (0, 0, 0, 0, 0)).2.1) == ((n.ops.getD j1 (0, 0, 0, 0, 0)).2.1) && (((m.ops.getD j1 (0, 0, 0, 0, 0)).2.2.1) == ((n.ops.getD j1 (0, 0, 0, 0, 0)).2.2.1) && (((m.ops.getD j1 (0, 0, 0, 0, 0)).2.2.2.1) == ((n.ops.getD j1 (0, 0, 0, 0, 0)).2.2.2.1) && (((m.ops.getD j1 (0, 0, 0, 0, 0)).2.2.2.2) == ((n.ops.getD j1 (0, 0, 0, 0, 0)).2.2.2.2)))))))) (by simp [go_sem, sEv, sLook, nbeq, i64_w, -List.getD_eq_getElem?_getD, eqA73]) ?_
                  refine rw_end ?_
                  refine w_weaken (G' := [(2, .pointer (some ⟨g1, 0, none⟩)), (3, .pointer (some ⟨g7, 0, none⟩)), (6, .int .i64 ((j1 : Nat) : Int)), (89, .bool (!(((m.ops.getD j1 (0, 0, 0, 0, 0)).1) == ((n.ops.getD j1 (0, 0, 0, 0, 0)).1) && (((m.ops.getD j1 (0, 0, 0, 0, 0)).2.1) == ((n.ops.getD j1 (0, 0, 0, 0, 0)).2.1) && (((m.ops.getD j1 (0, 0, 0, 0, 0)).2.2.1) == ((n.ops.getD j1 (0, 0, 0, 0, 0)).2.2.1) && (((m.ops.getD j1 (0, 0, 0, 0, 0)).2.2.2.1) == ((n.ops.getD j1 (0, 0, 0, 0, 0)).2.2.2.1) && (((m.ops.getD j1 (0, 0, 0, 0, 0)).2.2.2.2) == ((n.ops.getD j1 (0, 0, 0, 0, 0)).2.2.2.2))))))))]) ⟨rfl, rfl, rfl, rfl, trivial⟩ ?_
                  refine w_cond rfl rfl (fun cD => ?_) (fun cD => ?_)
                  · refine w_seq ?_
                    refine w_region ?_
                    refine rv (.bool false) ?_
                    refine rw_end ?_
                    refine w_ret (post_ret1 rfl rfl ?_)
                    exact ⟨_, rfl, no_iff (fun h_ => getD_ne (z := (0, 0, 0, 0, 0)) (j := j1) (fun e_ => by rw [e_] at cD; simp at cD) ((same_iff m n).1 h_).2.2.1), (chain hB_L47 hb71)⟩
                  · refine w_skip ?_
                    refine w_blk ?_
                    refine w_region ?_
                    refine rv (.int .i64 ((j1 : Nat) : Int)) ?_
                    refine rz (.int .i64 ((j1 + 1 : Nat) : Int)) (by simp [go_sem, sEv, sLook, nbeq, i64_w, -List.getD_eq_getElem?_getD]; exact wrap_id (by omega) (by omega)) ?_
                    refine rv (.int .i64 ((j1 + 1 : Nat) : Int)) ?_
                    refine rw_end ?_
                    exact w_back (m1_ - 1) [(2, .pointer (some ⟨g1, 0, none⟩)), (3, .pointer (some ⟨g7, 0, none⟩)), (6, .int .i64 ((j1 + 1 : Nat) : Int))] (by omega) ⟨rfl, rfl, rfl, trivial⟩ ⟨(j1 + 1), by omega, by omega, (chain hB_L47 hb71), (hf50.on hb71), (hf51.on hb71), (take_eq_step (z := (0, 0, 0, 0, 0)) (by omega) (by omega) hf52 (by simp only [Bool.not_eq_false', Bool.not_false, Bool.and_eq_true, beq_iff_eq] at cD; obtain ⟨q1, q2, q3, q4, q5⟩ := cD; exact Prod.ext q1 (Prod.ext q2 (Prod.ext q3 (Prod.ext q4 q5))))), rfl⟩
                · have l73 : ¬ (((j1 : Nat) : Int) < ((m.ops.length : Nat) : Int)) := of_decide_eq_false cJ
                  refine w_exit rfl ?_
                  refine w_seq ?_
                  refine wsr ?_
                  refine rv (.int .i64 0) ?_
                  refine rw_end ?_
                  refine w_block ?_
                  have heq2_ : m.ops = n.ops := take_eq_all (by omega) (by omega) hf52
                  refine w_loop (fun m_ G W_ => ∃ (j2 : Nat), j2 + m_ = m.ents.length ∧ n.ents.length = m.ents.length ∧ Below w.heap.size w W_ ∧ (Blk W_ g1 26 #[.int .i64 m.kind, .int .i64 m.fr, .int .i64 m.tw, .slice A3 m.nums.length c3, .slice A4 m.ops.length c4, .slice A5 m.ents.length c5]) ∧ (Blk W_ g7 26 #[.int .i64 n.kind, .int .i64 n.fr, .int .i64 n.tw, .slice A6 n.nums.length c6, .slice A7 n.ops.length c7, .slice A8 n.ents.length c8]) ∧ (m.ents.take j2 = n.ents.take j2) ∧ G = [(2, .pointer (some ⟨g1, 0, none⟩)), (3, .pointer (some ⟨g7, 0, none⟩)), (7, .int .i64 ((j2 : Nat) : Int))]) m.ents.length [(2, .pointer (some ⟨g1, 0, none⟩)), (3, .pointer (some ⟨g7, 0, none⟩)), (7, .int .i64 0)] ⟨0, by omega, by omega, hB_L47, hf50, hf51, (by simp), rfl⟩ ⟨rfl, rfl, rfl, trivial⟩ ?_
                  rintro m2_ G w_L74 ⟨j2, hp75, hp76, hB_L74, hf77, hf78, hf79, rfl⟩
                  have hs_w_L74 := hB_L74.size
                  have hltb_hf77 := hf77.lt
                  have hltb_hf78 := hf78.lt
                  refine w_seq ?_
                  refine wsr ?_
                  refine rv (.int .i64 ((j2 : Nat) : Int)) ?_
                  refine ru (.pointer (some ⟨g1, 5, none⟩)) ?_
                  refine rl hf77 5 (.slice A5 m.ents.length c5) ?_
                  refine rs (.int .i64 ((m.ents.length : Nat) : Int)) ?_
                  refine rs (.bool (decide (((j2 : Nat) : Int) < ((m.ents.length : Nat) : Int)))) ?_
                  refine rw_end ?_
                  refine w_weaken (G' := [(2, .pointer (some ⟨g1, 0, none⟩)), (3, .pointer (some ⟨g7, 0, none⟩)), (7, .int .i64 ((j2 : Nat) : Int)), (94, .bool (decide (((j2 : Nat) : Int) < ((m.ents.length : Nat) : Int))))]) ⟨rfl, rfl, rfl, rfl, trivial⟩ ?_
                  refine w_cond rfl rfl (fun cJ => ?_) (fun cJ => ?_)
                  · have l80 : (((j2 : Nat) : Int) < ((m.ents.length : Nat) : Int)) := of_decide_eq_true cJ
                    refine w_skip ?_
                    refine w_seq ?_
                    refine w_block ?_
                    refine w_seq ?_
                    obtain ⟨ad81, hA82, hc83⟩ := flat_at (Kd.C_below hn5 hB_L74) EL.zero j2 (by first | omega | decide)
                    subst hA82
                    obtain ⟨ad84, hA85, hc86⟩ := flat_at (Kd.C_below hn8 hB_L74) EL.zero j2 (by first | omega | decide)
                    subst hA85
                    refine w_drawk (M := [0, 1, 0, 7, 15, 0, 32, 0, 224, 480, 1023]) (ss := [Is (.pointer (some ⟨g1, 5, none⟩)), Is (.slice (some ad81) m.ents.length c5), Is (.int .i64 ((j2 : Nat) : Int)), Is (.pointer (some (ad81.add (j2 * 76)))), Is (.agg (earr (m.ents.getD j2 EL.zero))), Is (.pointer (some ⟨g7, 5, none⟩)), Is (.slice (some ad84) n.ents.length c8), Is (.int .i64 ((j2 : Nat) : Int)), Is (.pointer (some (ad84.add (j2 * 76)))), Is (.agg (earr (n.ents.getD j2 EL.zero)))]) 10 rfl (by decide +kernel) ?_
                    refine t_is (.pointer (some ⟨g1, 5, none⟩)) rfl rfl rfl rfl (fun W_ hW_ F_ => by simp [go_sem, sEv, sLook, nbeq, i64_w, -List.getD_eq_getElem?_getD, Try.underlying26]) ?_
                    refine t_is (.slice (some ad81) m.ents.length c5) rfl rfl rfl rfl (fun W_ hW_ F_ => by have eb_ := (hf77.on (below_of_drew hW_)); have e0_ := eb_.cellv (i := 5) (v := (.slice (some ad81) m.ents.length c5 : Value)) rfl; simp [go_sem, sEv, sLook, nbeq, i64_w, -List.getD_eq_getElem?_getD, e0_, Try.underlying24]) ?_
                    refine tr (.int .i64 ((j2 : Nat) : Int)) ?_
                    refine t_is (.pointer (some (ad81.add (j2 * 76)))) rfl rfl rfl rfl (fun W_ hW_ F_ => (run_as (run_at_k (P := Try.prog) (e := 83) (sz := 76) (by kernel_rfl) (by kernel_rfl) j2 (by first | omega | decide) _))) ?_
                    refine t_is (.agg (earr (m.ents.getD j2 EL.zero))) rfl rfl rfl rfl (fun W_ hW_ F_ => (run_as (load_eel (x := (m.ents.getD j2 EL.zero)) (fun j u hj => cellOn (hc83 j u hj) (chain (Below.refl _ _) (below_of_drew hW_)))))) ?_
                    refine t_is (.pointer (some ⟨g7, 5, none⟩)) rfl rfl rfl rfl (fun W_ hW_ F_ => by simp [go_sem, sEv, sLook, nbeq, i64_w, -List.getD_eq_getElem?_getD, Try.underlying26]) ?_
                    refine t_is (.slice (some ad84) n.ents.length c8) rfl rfl rfl rfl (fun W_ hW_ F_ => by have eb_ := (hf78.on (below_of_drew hW_)); have e0_ := eb_.cellv (i := 5) (v := (.slice (some ad84) n.ents.length c8 : Value)) rfl; simp [go_sem, sEv, sLook, nbeq, i64_w, -List.getD_eq_getElem?_getD, e0_, Try.underlying24]) ?_
                    refine tr (.int .i64 ((j2 : Nat) : Int)) ?_
                    refine t_is (.pointer (some (ad84.add (j2 * 76)))) rfl rfl rfl rfl (fun W_ hW_ F_ => (run_as (run_at_k (P := Try.prog) (e := 83) (sz := 76) (by kernel_rfl) (by kernel_rfl) j2 (by first | omega | decide) _))) ?_
                    refine t_is (.agg (earr (n.ents.getD j2 EL.zero))) rfl rfl rfl rfl (fun W_ hW_ F_ => (run_as (load_eel (x := (n.ents.getD j2 EL.zero)) (fun j u hj => cellOn (hc86 j u hj) (chain (Below.refl _ _) (below_of_drew hW_)))))) ?_
                    refine t_tail ?_
                    intro w87 hb88_ F89
                    have hb88 := below_of_drew hb88_
                    have hs_w87 := hb88.size
                    clear F89
                    refine rz (.bool (!(eqE (m.ents.getD j2 EL.zero) (n.ents.getD j2 EL.zero)))) (run_as (guard_ne_entry _ _ _ _ _)) ?_
                    refine rw_end ?_
                    refine w_weaken (G' := [(2, .pointer (some ⟨g1, 0, none⟩)), (3, .pointer (some ⟨g7, 0, none⟩)), (7, .int .i64 ((j2 : Nat) : Int)), (107, .bool (!(eqE (m.ents.getD j2 EL.zero) (n.ents.getD j2 EL.zero))))]) ⟨rfl, rfl, rfl, rfl, trivial⟩ ?_
                    refine w_cond rfl rfl (fun cD => ?_) (fun cD => ?_)
                    · refine w_seq ?_
                      refine w_region ?_
                      refine rv (.bool false) ?_
                      refine rw_end ?_
                      refine w_ret (post_ret1 rfl rfl ?_)
                      exact ⟨_, rfl, no_iff (fun h_ => getD_ne (z := EL.zero) (j := j2) (fun e_ => by rw [e_] at cD; simp [eqE_self] at cD) ((same_iff m n).1 h_).2.2.2), (chain hB_L74 hb88)⟩
                    · refine w_skip ?_
                      refine w_blk ?_
                      refine w_region ?_
                      refine rv (.int .i64 ((j2 : Nat) : Int)) ?_
                      refine rz (.int .i64 ((j2 + 1 : Nat) : Int)) (by simp [go_sem, sEv, sLook, nbeq, i64_w, -List.getD_eq_getElem?_getD]; exact wrap_id (by omega) (by omega)) ?_
                      refine rv (.int .i64 ((j2 + 1 : Nat) : Int)) ?_
                      refine rw_end ?_
                      exact w_back (m2_ - 1) [(2, .pointer (some ⟨g1, 0, none⟩)), (3, .pointer (some ⟨g7, 0, none⟩)), (7, .int .i64 ((j2 + 1 : Nat) : Int))] (by omega) ⟨rfl, rfl, rfl, trivial⟩ ⟨(j2 + 1), by omega, by omega, (chain hB_L74 hb88), (hf77.on hb88), (hf78.on hb88), (take_eq_step (z := EL.zero) (by omega) (by omega) hf79 ((eqE_iff _ _).1 (by simpa using cD))), rfl⟩
                  · have l90 : ¬ (((j2 : Nat) : Int) < ((m.ents.length : Nat) : Int)) := of_decide_eq_false cJ
                    refine w_exit rfl ?_
                    refine wsr ?_
                    refine rv (.bool true) ?_
                    refine rw_end ?_
                    refine w_ret (post_ret1 rfl rfl ?_)
                    exact ⟨_, rfl, yes_iff ((same_iff m n).2 ⟨⟨by omega, by omega, by omega⟩, heq1_, heq2_, take_eq_all (by omega) (by omega) hf79⟩), hB_L74⟩
          · have l91 : ¬ ((m.ops.length : Nat) : Int) = ((n.ops.length : Nat) : Int) := by simpa using c21
            refine rok c21 ?_
            refine rok c21 ?_
            refine rok c21 ?_
            refine rok c21 ?_
            refine rok c21 ?_
            refine rok c21 ?_
            refine rok c21 ?_
            refine rp c21 (.bool true) ?_
            refine rw_end ?_
            refine w_weaken (G' := [(2, .pointer (some ⟨g1, 0, none⟩)), (3, .pointer (some ⟨g7, 0, none⟩)), (4, .bool false), (53, .bool true)]) ⟨rfl, rfl, rfl, rfl, trivial⟩ ?_
            refine w_cond_t rfl rfl rfl ?_
            refine wsr ?_
            refine rv (.bool false) ?_
            refine rw_end ?_
            refine w_ret (post_ret1 rfl rfl ?_)
            exact ⟨_, rfl, no_iff (fun h_ => by obtain ⟨⟨q1, q2, q3⟩, q4, q5, q6⟩ := (same_iff m n).1 h_; have q7 := congrArg List.length q4; have q8 := congrArg List.length q5; have q9 := congrArg List.length q6; omega), (chain hb3 hb9)⟩
        · have l92 : ¬ ((m.nums.length : Nat) : Int) = ((n.nums.length : Nat) : Int) := by simpa using c19
          refine rok c19 ?_
          refine rok c19 ?_
          refine rok c19 ?_
          refine rok c19 ?_
          refine rok c19 ?_
          refine rok c19 ?_
          refine rok c19 ?_
          refine rp c19 (.bool true) ?_
          refine rv (.bool true) ?_
          refine ro true ?_
          refine ro true ?_
          refine ro true ?_
          refine ro true ?_
          refine ro true ?_
          refine ro true ?_
          refine ro true ?_
          refine rs (.bool true) ?_
          refine rw_end ?_
          refine w_weaken (G' := [(2, .pointer (some ⟨g1, 0, none⟩)), (3, .pointer (some ⟨g7, 0, none⟩)), (4, .bool false), (53, .bool true)]) ⟨rfl, rfl, rfl, rfl, trivial⟩ ?_
          refine w_cond_t rfl rfl rfl ?_
          refine wsr ?_
          refine rv (.bool false) ?_
          refine rw_end ?_
          refine w_ret (post_ret1 rfl rfl ?_)
          exact ⟨_, rfl, no_iff (fun h_ => by obtain ⟨⟨q1, q2, q3⟩, q4, q5, q6⟩ := (same_iff m n).1 h_; have q7 := congrArg List.length q4; have q8 := congrArg List.length q5; have q9 := congrArg List.length q6; omega), (chain hb3 hb9)⟩
      · have l93 : ¬ m.tw = n.tw := by simpa using c17
        refine rok c17 ?_
        refine rok c17 ?_
        refine rok c17 ?_
        refine rok c17 ?_
        refine rok c17 ?_
        refine rok c17 ?_
        refine rok c17 ?_
        refine rp c17 (.bool true) ?_
        refine rv (.bool true) ?_
        refine ro true ?_
        refine ro true ?_
        refine ro true ?_
        refine ro true ?_
        refine ro true ?_
        refine ro true ?_
        refine ro true ?_
        refine rs (.bool true) ?_
        refine rv (.bool true) ?_
        refine ro true ?_
        refine ro true ?_
        refine ro true ?_
        refine ro true ?_
        refine ro true ?_
        refine ro true ?_
        refine ro true ?_
        refine rs (.bool true) ?_
        refine rw_end ?_
        refine w_weaken (G' := [(2, .pointer (some ⟨g1, 0, none⟩)), (3, .pointer (some ⟨g7, 0, none⟩)), (4, .bool false), (53, .bool true)]) ⟨rfl, rfl, rfl, rfl, trivial⟩ ?_
        refine w_cond_t rfl rfl rfl ?_
        refine wsr ?_
        refine rv (.bool false) ?_
        refine rw_end ?_
        refine w_ret (post_ret1 rfl rfl ?_)
        exact ⟨_, rfl, no_iff (fun h_ => by obtain ⟨⟨q1, q2, q3⟩, q4, q5, q6⟩ := (same_iff m n).1 h_; have q7 := congrArg List.length q4; have q8 := congrArg List.length q5; have q9 := congrArg List.length q6; omega), (chain hb3 hb9)⟩
    · have l94 : ¬ m.fr = n.fr := by simpa using c15
      refine rok c15 ?_
      refine rok c15 ?_
      refine rok c15 ?_
      refine rok c15 ?_
      refine rok c15 ?_
      refine rp c15 (.bool true) ?_
      refine rv (.bool true) ?_
      refine ro true ?_
      refine ro true ?_
      refine ro true ?_
      refine ro true ?_
      refine ro true ?_
      refine ro true ?_
      refine ro true ?_
      refine rs (.bool true) ?_
      refine rv (.bool true) ?_
      refine ro true ?_
      refine ro true ?_
      refine ro true ?_
      refine ro true ?_
      refine ro true ?_
      refine ro true ?_
      refine ro true ?_
      refine rs (.bool true) ?_
      refine rv (.bool true) ?_
      refine ro true ?_
      refine ro true ?_
      refine ro true ?_
      refine ro true ?_
      refine ro true ?_
      refine ro true ?_
      refine ro true ?_
      refine rs (.bool true) ?_
      refine rw_end ?_
      refine w_weaken (G' := [(2, .pointer (some ⟨g1, 0, none⟩)), (3, .pointer (some ⟨g7, 0, none⟩)), (4, .bool false), (53, .bool true)]) ⟨rfl, rfl, rfl, rfl, trivial⟩ ?_
      refine w_cond_t rfl rfl rfl ?_
      refine wsr ?_
      refine rv (.bool false) ?_
      refine rw_end ?_
      refine w_ret (post_ret1 rfl rfl ?_)
      exact ⟨_, rfl, no_iff (fun h_ => by obtain ⟨⟨q1, q2, q3⟩, q4, q5, q6⟩ := (same_iff m n).1 h_; have q7 := congrArg List.length q4; have q8 := congrArg List.length q5; have q9 := congrArg List.length q6; omega), (chain hb3 hb9)⟩
  · have l95 : ¬ m.kind = n.kind := by simpa using c13
    refine rok c13 ?_
    refine rok c13 ?_
    refine rok c13 ?_
    refine rok c13 ?_
    refine rok c13 ?_
    refine rp c13 (.bool true) ?_
    refine rv (.bool true) ?_
    refine ro true ?_
    refine ro true ?_
    refine ro true ?_
    refine ro true ?_
    refine ro true ?_
    refine rs (.bool true) ?_
    refine rv (.bool true) ?_
    refine ro true ?_
    refine ro true ?_
    refine ro true ?_
    refine ro true ?_
    refine ro true ?_
    refine ro true ?_
    refine ro true ?_
    refine rs (.bool true) ?_
    refine rv (.bool true) ?_
    refine ro true ?_
    refine ro true ?_
    refine ro true ?_
    refine ro true ?_
    refine ro true ?_
    refine ro true ?_
    refine ro true ?_
    refine rs (.bool true) ?_
    refine rv (.bool true) ?_
    refine ro true ?_
    refine ro true ?_
    refine ro true ?_
    refine ro true ?_
    refine ro true ?_
    refine ro true ?_
    refine ro true ?_
    refine rs (.bool true) ?_
    refine rw_end ?_
    refine w_weaken (G' := [(2, .pointer (some ⟨g1, 0, none⟩)), (3, .pointer (some ⟨g7, 0, none⟩)), (4, .bool false), (53, .bool true)]) ⟨rfl, rfl, rfl, rfl, trivial⟩ ?_
    refine w_cond_t rfl rfl rfl ?_
    refine wsr ?_
    refine rv (.bool false) ?_
    refine rw_end ?_
    refine w_ret (post_ret1 rfl rfl ?_)
    exact ⟨_, rfl, no_iff (fun h_ => by obtain ⟨⟨q1, q2, q3⟩, q4, q5, q6⟩ := (same_iff m n).1 h_; have q7 := congrArg List.length q4; have q8 := congrArg List.length q5; have q9 := congrArg List.length q6; omega), (chain hb3 hb9)⟩
end Go.Proofs.Ytbbhdohjhipalaa.Ce
end
section
namespace Go.Proofs.Ytbbhdohjhipalaa.Ce
open Go.RowKit Go.Proofs.YtbbhdohjhipalaaW.PrintWords Go.Proofs.YtbbhdohjhipalaaW.PrintLast Go.Proofs.YtbbhdohjhipalaaW.PrintMore
open Go.Proofs.Ytbbhdohjhipalaa.Flow Go.Proofs.Ytbbhdohjhipalaa.PNoteReads
set_option linter.unusedVariables false
theorem small_sz : ∀ k : Fin 65, szN (tn ((k.val : Nat) : Int)) ≤ 1 := by decide +kernel
theorem small_num (k : Nat) (h : k < 65) : (numB (k : Int)).length ≤ 2 := by
  have h1 := small_sz ⟨k, h⟩
  have h2 := numB_len (k : Int)
  simp only at h1
  omega
theorem PB_app (a b : List Int) : PB (a ++ b) = PB a ++ PB b := by unfold PB; simp
theorem one_len {y : Int} (h : I64 y) : (numB y).length ≤ 9 := by
  have h1 := szN_le (tn_lt h)
  have h2 := numB_len y
  omega
theorem pr_bytes (h : Fin 65 → Int) : ∀ k, k ≤ 65 → (∀ y ∈ flatP (pr h k), I64 y) → (PB (flatP (pr h k))).length ≤ 11 * k
  | 0, _, _ => by simp [pr, flatP, PB]
  | k + 1, hk, hI => by
    rw [pr] at hI ⊢
    split
    · rename_i e
      rw [if_pos e] at hI
      have := pr_bytes h k (by omega) hI
      omega
    · rename_i e
      rw [if_neg e, flatP_append] at hI
      have h1 := pr_bytes h k (by omega) (fun y hy => hI y (List.mem_append_left _ hy))
      have h2 := small_num k (by omega)
      have h3 := one_len (hI (atF h k) (List.mem_append_right _ (by simp [flatP])))
      rw [flatP_append, PB_app, List.length_append]
      have e2 : PB (flatP [(((k : Nat) : Int), atF h k)]) = numB (k : Int) ++ (numB (atF h k) ++ []) := rfl
      rw [e2]
      simp only [List.length_append, List.length_nil]
      omega
theorem entL_bytes (x : EL) (hI : ∀ y ∈ entL x, I64 y) : (PB (entL x)).length ≤ 823 := by
  have e : entL x = ([x.win, x.key] ++ headC x.c ((pr x.c.h 65).length : Int)) ++ flatP (pr x.c.h 65) := by
    unfold entL numsC
    rw [List.append_assoc]
  rw [e] at hI ⊢
  have h1 := PB_len _ (fun y hy => hI y (List.mem_append_left _ hy))
  have h2 := pr_bytes x.c.h 65 (Nat.le_refl _) (fun y hy => hI y (List.mem_append_right _ hy))
  have h3 : ([x.win, x.key] ++ headC x.c ((pr x.c.h 65).length : Int)).length = 12 := rfl
  rw [PB_app, List.length_append]
  omega
theorem entsL_bytes : ∀ l : List EL, (∀ y ∈ entsL l, I64 y) → (PB (entsL l)).length ≤ 823 * l.length
  | [], _ => by simp [entsL, PB]
  | x :: l, hI => by
    have e : entsL (x :: l) = entL x ++ entsL l := rfl
    rw [e] at hI ⊢
    have h1 := entL_bytes x (fun y hy => hI y (List.mem_append_left _ hy))
    have h2 := entsL_bytes l (fun y hy => hI y (List.mem_append_right _ hy))
    rw [PB_app, List.length_append, List.length_cons]
    omega
theorem good_bytes {n : NT} (hg : goodN n = true) (hI : ∀ y ∈ listN n, I64 y) : (PB (listN n)).length ≤ 16376 := by
  have hs : shapeK n.kind ≠ none := fun e => by rw [good_no e] at hg; cases hg
  rcases e : shapeK n.kind with _ | ⟨a, b, c⟩
  · exact absurd e hs
  · obtain ⟨⟨_, _, _, _, _, h6, _, h8, h9, h10, h11⟩, _⟩ := (good_iff e).1 hg
    have hb : b ≤ 39 ∧ (n.kind = 8 → b = 6) := by
      unfold shapeK at e
      repeat' split at e
      all_goals first | (cases e; refine ⟨by omega, fun q => ?_⟩; omega) | cases e
    have eL : listN n = ((((([n.kind, n.fr, n.tw, (n.nums.length : Int)] ++ n.nums) ++ [(n.ops.length : Int)]) ++ opsL n.ops) ++ [(n.ents.length : Int)]) ++ entsL n.ents) := rfl
    rw [eL] at hI ⊢
    have h1 := PB_len _ (fun y hy => hI y (List.mem_append_left _ hy))
    have h2 := entsL_bytes n.ents (fun y hy => hI y (List.mem_append_right _ hy))
    have h3 := opsL_len n.ops
    rw [PB_app, List.length_append]
    simp only [List.length_append, List.length_cons, List.length_nil, h3] at h1
    rcases h11 with h11 | h11
    · omega
    · have hb6 := hb.2 h11
      rcases h9 with h9 | h9
      · omega
      · rw [h11] at h9
        cases h9
end Go.Proofs.Ytbbhdohjhipalaa.Ce
end
section
namespace Go.Proofs.Ytbbhdohjhipalaa.Ce
open Go.RowKit Go.Proofs.YtbbhdohjhipalaaW.PrintWords Go.Proofs.YtbbhdohjhipalaaW.PrintLast Go.Proofs.YtbbhdohjhipalaaW.PrintMore
open Go.Proofs.Ytbbhdohjhipalaa.Flow Go.Proofs.Ytbbhdohjhipalaa.PNoteReads
set_option linter.unusedVariables false
set_option linter.unusedSimpArgs false
def CellI (c : CL) : Prop := LoOk c ∧ (I64 c.cnt ∧ I64 c.hi ∧ I64 c.mn ∧ I64 c.mx ∧ I64 c.t ∧ I64 c.src ∧ I64 c.seq ∧ I64 c.v) ∧ ∀ i, I64 (c.h i)
def EntI (x : EL) : Prop := I64 x.win ∧ I64 x.key ∧ CellI x.c
def OpI (o : OpL) : Prop := I64 o.1 ∧ I64 o.2.1 ∧ I64 o.2.2.1 ∧ I64 o.2.2.2.1 ∧ I64 o.2.2.2.2
def NoteI (n : NT) : Prop := (I64 n.kind ∧ I64 n.fr ∧ I64 n.tw) ∧ (∀ y ∈ n.nums, I64 y) ∧ (∀ o ∈ n.ops, OpI o) ∧ (∀ x ∈ n.ents, EntI x)
theorem atF_I {h : Fin 65 → Int} (hh : ∀ i, I64 (h i)) (k : Nat) : I64 (atF h k) := by
  unfold atF
  split
  · exact hh _
  · exact ⟨by decide, by decide⟩
theorem I64_nat {k : Nat} (h : k ≤ 1000000) : I64 ((k : Nat) : Int) := ⟨by omega, by omega⟩
theorem pr_I {h : Fin 65 → Int} (hh : ∀ i, I64 (h i)) : ∀ k, k ≤ 65 → ∀ y ∈ flatP (pr h k), I64 y
  | 0, _ => fun y hy => by simp [pr, flatP] at hy
  | k + 1, hk => fun y hy => by
    by_cases e : atF h k = 0
    · rw [pr_zero h k e] at hy
      exact pr_I hh k (by omega) y hy
    · rw [pr_more h k e, flatP_append] at hy
      rcases List.mem_append.1 hy with hy | hy
      · exact pr_I hh k (by omega) y hy
      · simp only [flatP, List.mem_cons, List.not_mem_nil, or_false] at hy
        rcases hy with rfl | rfl
        · exact I64_nat (by omega)
        · exact atF_I hh k
theorem wrap_I (x : Int) : I64 (wrap64 x) := by
  unfold I64 wrap64
  omega
theorem numsC_I {c : CL} (h : CellI c) : ∀ y ∈ numsC c, I64 y := by
  obtain ⟨_, ⟨h0, h1, h2, h3, h4, h5, h6, h7⟩, h8⟩ := h
  have hp := pr_len c.h 65
  intro y hy
  unfold numsC headC at hy
  rcases List.mem_append.1 hy with hy | hy
  · simp only [List.mem_cons, List.not_mem_nil, or_false] at hy
    rcases hy with rfl | rfl | rfl | rfl | rfl | rfl | rfl | rfl | rfl | rfl
    · exact h0
    · exact h1
    · exact wrap_I _
    · exact h2
    · exact h3
    · exact h4
    · exact h5
    · exact h6
    · exact h7
    · exact I64_nat (by omega)
  · exact pr_I h8 65 (Nat.le_refl _) y hy
theorem listN_I {n : NT} (h : NoteI n) (hl : n.nums.length + n.ops.length + n.ents.length ≤ 1000) : ∀ y ∈ listN n, I64 y := by
  obtain ⟨⟨h1, h2, h3⟩, h4, h5, h6⟩ := h
  intro y hy
  unfold listN at hy
  rcases List.mem_append.1 hy with hy | hy
  · rcases List.mem_append.1 hy with hy | hy
    · rcases List.mem_append.1 hy with hy | hy
      · rcases List.mem_append.1 hy with hy | hy
        · rcases List.mem_append.1 hy with hy | hy
          · simp only [List.mem_cons, List.not_mem_nil, or_false] at hy
            rcases hy with rfl | rfl | rfl | rfl
            · exact h1
            · exact h2
            · exact h3
            · exact I64_nat (by omega)
          · exact h4 y hy
        · rw [List.mem_singleton.1 hy]
          exact I64_nat (by omega)
      · unfold opsL at hy
        rw [List.mem_flatten] at hy
        obtain ⟨l, hl, hy⟩ := hy
        rw [List.mem_map] at hl
        obtain ⟨o, ho, rfl⟩ := hl
        obtain ⟨q1, q2, q3, q4, q5⟩ := h5 o ho
        simp only [opL, List.mem_cons, List.not_mem_nil, or_false] at hy
        rcases hy with rfl | rfl | rfl | rfl | rfl <;> assumption
    · rw [List.mem_singleton.1 hy]
      exact I64_nat (by omega)
  · unfold entsL at hy
    rw [List.mem_flatten] at hy
    obtain ⟨l, hl, hy⟩ := hy
    rw [List.mem_map] at hl
    obtain ⟨x, hx, rfl⟩ := hl
    obtain ⟨q1, q2, q3⟩ := h6 x hx
    unfold entL at hy
    rcases List.mem_append.1 hy with hy | hy
    · simp only [List.mem_cons, List.not_mem_nil, or_false] at hy
      rcases hy with rfl | rfl
      · exact q1
      · exact q2
    · exact numsC_I q3 y hy
theorem opn_histI {H : Type} {enc : TypeId × Value → H} {W : World} : Opn enc Try.prog W 79 kHist (fun f => ∀ i, I64 (f i)) := fun m cs y h => by
  obtain ⟨xs, n, _, _, hcl, hxl, hg⟩ := DataW.trod_array Try.underlying79 h
  have hc3 : Try.prog.cellsOf 3 = 1 := by kernel_rfl
  have hcH : Try.prog.cellsOf 79 = 65 := by kernel_rfl
  have each : ∀ i : Fin 65, ∃ x : Int, cs[i.val]? = some (.int .i64 x) ∧ I64 x := fun i => by
    have h1 := hg i.val i.isLt
    have hi : i.val < xs.length := by rw [hxl]; exact i.isLt
    rw [List.getElem?_eq_getElem hi] at h1
    obtain ⟨x, hx, hw⟩ := opn_int (enc := enc) (W := W) Try.underlying3 _ _ _ h1
    have hx' : (cs.drop (i.val * 1)).take 1 = [.int .i64 x] := by rw [hc3] at hx; exact hx
    refine ⟨x, ?_, bounds_i64 hw⟩
    have h2 : ((cs.drop (i.val * 1)).take 1)[0]? = some (.int .i64 x) := by rw [hx']; rfl
    rw [List.getElem?_take_of_lt (by omega), List.getElem?_drop, Nat.mul_one, Nat.add_zero] at h2
    exact h2
  obtain ⟨f, hf⟩ := Classical.skolem.1 each
  refine ⟨f, ?_, fun i => (hf i).2⟩
  show cs = encH f
  apply List.ext_getElem?
  intro j
  by_cases hj : j < 65
  · rw [encH_get f j hj]
    exact (hf ⟨j, hj⟩).1
  · rw [List.getElem?_eq_none (by rw [hcl, hcH]; omega), List.getElem?_eq_none (by rw [encH_len]; omega)]
theorem enc_ok {n : NT} (hg : goodN n = true) (hI : ∀ y ∈ listN n, I64 y) : EE n = none ∧ (PB (listN n)).length ≤ 16376 := by
  have h := good_bytes hg hI
  refine ⟨?_, h⟩
  rw [(eb_yes hg).2]
  unfold PNoteReads.frameE
  rw [if_neg (by omega)]
end Go.Proofs.Ytbbhdohjhipalaa.Ce
end
section
namespace Go.Proofs.Ytbbhdohjhipalaa.Ce
open Go.RowKit Go.Proofs.YtbbhdohjhipalaaW.PrintWords Go.Proofs.YtbbhdohjhipalaaW.PrintLast Go.Proofs.YtbbhdohjhipalaaW.PrintMore
open Go.Proofs.Ytbbhdohjhipalaa.Flow
open Go.Proofs.Ytbbhdohjhipalaa.PNoteReads
set_option linter.unusedVariables false
set_option linter.unusedSimpArgs false
theorem rsame_self (w : World) (n : NT) (A3 : Option Addr) (c3 : Nat) (A4 : Option Addr) (c4 : Nat) (A5 : Option Addr) (c5 : Nat) (hn3 : (Kd.int .i64).C w A3 n.nums.length n.nums) (hc3 : n.nums.length ≤ c3) (hk3 : n.nums.length ≤ 140737488355328) (hn4 : kOp.C w A4 n.ops.length n.ops) (hc4 : n.ops.length ≤ c4) (hk4 : n.ops.length ≤ 140737488355328) (hn5 : kEntry.C w A5 n.ents.length n.ents) (hc5 : n.ents.length ≤ c5) (hk5 : n.ents.length ≤ 140737488355328) (A6 : Option Addr) (c6 : Nat) (A7 : Option Addr) (c7 : Nat) (A8 : Option Addr) (c8 : Nat) (hn6 : (Kd.int .i64).C w A6 n.nums.length n.nums) (hc6 : n.nums.length ≤ c6) (hk6 : n.nums.length ≤ 140737488355328) (hn7 : kOp.C w A7 n.ops.length n.ops) (hc7 : n.ops.length ≤ c7) (hk7 : n.ops.length ≤ 140737488355328) (hn8 : kEntry.C w A8 n.ents.length n.ents) (hc8 : n.ents.length ≤ c8) (hk8 : n.ents.length ≤ 140737488355328) : Calls Try.prog 17 #[.agg #[.int .i64 n.kind, .int .i64 n.fr, .int .i64 n.tw, .slice A3 n.nums.length c3, .slice A4 n.ops.length c4, .slice A5 n.ents.length c5], .agg #[.int .i64 n.kind, .int .i64 n.fr, .int .i64 n.tw, .slice A6 n.nums.length c6, .slice A7 n.ops.length c7, .slice A8 n.ents.length c8]] w fun e w' => e = .returned (.bool true) ∧ Below w.heap.size w w' := by
  refine (rsame_calls w n n A3 c3 A4 c4 A5 c5 hn3 hc3 hk3 hn4 hc4 hk4 hn5 hc5 hk5 A6 c6 A7 c7 A8 c8 hn6 hc6 hk6 hn7 hc7 hk7 hn8 hc8 hk8).mono ?_
  rintro e w' ⟨bb, rfl, hi, hb⟩
  exact ⟨by rw [hi.2 rfl], hb⟩
end Go.Proofs.Ytbbhdohjhipalaa.Ce
end
