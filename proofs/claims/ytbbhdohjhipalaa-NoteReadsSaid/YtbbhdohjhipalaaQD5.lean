/- Parts of the proofs of noteReads_holds: NtNote, NtBack0, NtCode, NtEnc, NtBack1, NtBack2, NtArg, NtGood, NtRList, NtREnc, NtCare, NtCare2, NtSame. -/
import Derived.Test.YtbbhdohjhipalaaQD4
section
namespace Go.Proofs.Ytbbhdohjhipalaa.Ce
open Go.RowKit Go.Proofs.YtbbhdohjhipalaaW.PrintWords Go.Proofs.YtbbhdohjhipalaaW.PrintLast Go.Proofs.YtbbhdohjhipalaaW.PrintMore
open Go.Proofs.Ytbbhdohjhipalaa.Flow
set_option linter.unusedVariables false
set_option linter.unusedSimpArgs false
theorem next_k (w : World) (g B : Nat) (s : RS) (x : Int) (s2 : RS) (hx : nextR s = (x, s2)) (h : RDB w g B s) (hln : s.xs.length ≤ 1000000) : Calls Try.prog 58 #[.pointer (some ⟨g, 0, none⟩)] w fun e w' => e = .returned (.int .i64 x) ∧ RDB w' g B s2 ∧ Keep g w w' := by
  have q := next_calls w g B s h hln
  rw [hx] at q
  exact q
theorem count_k (w : World) (g B : Nat) (s : RS) (m y : Int) (s2 : RS) (hx : countR m s = (y, s2)) (h : RDB w g B s) (hln : s.xs.length ≤ 1000000) : Calls Try.prog 59 #[.pointer (some ⟨g, 0, none⟩), .int .i64 m] w fun e w' => e = .returned (.int .i64 y) ∧ RDB w' g B s2 ∧ Keep g w w' := by
  have q := count_calls w g B s m h hln
  rw [hx] at q
  exact q
theorem cell_k (w : World) (g : Nat) (s : RS) (c : CL) (s2 : RS) (hx : cellR s = (c, s2)) (h : RD w g s) (hln : s.xs.length ≤ 100000) : Calls Try.prog 60 #[.pointer (some ⟨g, 0, none⟩)] w fun e w' => e = .returned (.agg (carr c)) ∧ RD w' g s2 ∧ KG g w w' := by
  have q := cell_calls w g s h hln
  rw [hx] at q
  exact q
theorem next_le {s s2 : RS} {x : Int} (hx : nextR s = (x, s2)) : s2.xs.length ≤ s.xs.length := by
  have q := nextR_len s
  rw [hx] at q
  exact q
theorem count_nat {s s2 : RS} {m y : Int} (hx : countR m s = (y, s2)) (hm : 0 ≤ m) : ∃ k : Nat, (k : Int) ≤ m ∧ y = (k : Int) ∧ s2.xs.length ≤ s.xs.length := by
  have q := nextR_len s
  unfold countR at hx
  split at hx
  · cases hx
    exact ⟨0, hm, rfl, q⟩
  · rename_i h
    rw [hx] at h q
    refine ⟨y.toNat, ?_, ?_, q⟩ <;> simp only at h <;> omega
theorem takeC_le {l r : List Int} {c : CL} (h : takeC l = some (c, r)) : r.length ≤ l.length := by
  unfold takeC at h
  split at h
  · split at h
    · cases h
    · cases h
      rw [List.length_drop]
      omega
  · cases h
theorem cell_le {s s2 : RS} {c : CL} (hx : cellR s = (c, s2)) : s2.xs.length ≤ s.xs.length := by
  unfold cellR at hx
  split at hx
  · cases hx
    simp
  · rename_i h
    cases hx
    exact takeC_le h
theorem numsR_step {j : Nat} {s si s2 : RS} {l : List Int} {x : Int} (h : numsR j s = (l, si)) (hx : nextR si = (x, s2)) : numsR (j + 1) s = (l ++ [x], s2) := by
  simp only [numsR, h, hx]
def OF (i : Nat) (s : RS) (a b c d e : Int) (si : RS) : Prop := nextsR i s = si ∧ (1 ≤ i → (nextR s).1 = a) ∧ (2 ≤ i → (nextR (nextsR 1 s)).1 = b) ∧ (3 ≤ i → (nextR (nextsR 2 s)).1 = c) ∧ (4 ≤ i → (nextR (nextsR 3 s)).1 = d) ∧ (5 ≤ i → (nextR (nextsR 4 s)).1 = e)
theorem of_0 (s : RS) : OF 0 s 0 0 0 0 0 s := ⟨rfl, fun h => by omega, fun h => by omega, fun h => by omega, fun h => by omega, fun h => by omega⟩
theorem of_1 {s si s2 : RS} {a b c d e x : Int} (h : OF 0 s a b c d e si) (hx : nextR si = (x, s2)) : OF 1 s x b c d e s2 := by
  obtain ⟨rfl, h1, h2, h3, h4, h5⟩ := h
  exact ⟨congrArg Prod.snd hx, fun _ => congrArg Prod.fst hx, fun h => by omega, fun h => by omega, fun h => by omega, fun h => by omega⟩
theorem of_2 {s si s2 : RS} {a b c d e x : Int} (h : OF 1 s a b c d e si) (hx : nextR si = (x, s2)) : OF 2 s a x c d e s2 := by
  obtain ⟨rfl, h1, h2, h3, h4, h5⟩ := h
  exact ⟨congrArg Prod.snd hx, fun _ => h1 (by omega), fun _ => congrArg Prod.fst hx, fun h => by omega, fun h => by omega, fun h => by omega⟩
theorem of_3 {s si s2 : RS} {a b c d e x : Int} (h : OF 2 s a b c d e si) (hx : nextR si = (x, s2)) : OF 3 s a b x d e s2 := by
  obtain ⟨rfl, h1, h2, h3, h4, h5⟩ := h
  exact ⟨congrArg Prod.snd hx, fun _ => h1 (by omega), fun _ => h2 (by omega), fun _ => congrArg Prod.fst hx, fun h => by omega, fun h => by omega⟩
theorem of_4 {s si s2 : RS} {a b c d e x : Int} (h : OF 3 s a b c d e si) (hx : nextR si = (x, s2)) : OF 4 s a b c x e s2 := by
  obtain ⟨rfl, h1, h2, h3, h4, h5⟩ := h
  exact ⟨congrArg Prod.snd hx, fun _ => h1 (by omega), fun _ => h2 (by omega), fun _ => h3 (by omega), fun _ => congrArg Prod.fst hx, fun h => by omega⟩
theorem of_5 {s si s2 : RS} {a b c d e x : Int} (h : OF 4 s a b c d e si) (hx : nextR si = (x, s2)) : OF 5 s a b c d x s2 := by
  obtain ⟨rfl, h1, h2, h3, h4, h5⟩ := h
  exact ⟨congrArg Prod.snd hx, fun _ => h1 (by omega), fun _ => h2 (by omega), fun _ => h3 (by omega), fun _ => h4 (by omega), fun _ => congrArg Prod.fst hx⟩
theorem opsR_step {j : Nat} {s si s2 : RS} {l : List OpL} {a b c d e : Int} (h : opsR j s = (l, si)) (hx : OF 5 si a b c d e s2) : opsR (j + 1) s = (l ++ [(a, b, c, d, e)], s2) := by
  obtain ⟨h0, h1, h2, h3, h4, h5⟩ := hx
  simp only [opsR, h, opR, h0, h1 (by omega), h2 (by omega), h3 (by omega), h4 (by omega), h5 (by omega)]
theorem entsR_step {j : Nat} {s si sa sb sc : RS} {l : List EL} {x y : Int} {c : CL} (h : entsR j s = (l, si)) (hb : si.bad = false) (h1 : nextR si = (x, sa)) (h2 : nextR sa = (y, sb)) (h3 : cellR sb = (c, sc)) : entsR (j + 1) s = (l ++ [⟨x, y, c⟩], sc) := by
  have e1 : nextsR 2 si = sb := by show (nextR (nextR si).2).2 = sb; rw [h1, h2]
  have e2 : nextsR 1 si = sa := by show (nextR si).2 = sa; rw [h1]
  simp only [entsR, h, hb, entR, h1, h2, h3, e1]
  simp
theorem entsR_bad {s si : RS} {l : List EL} {j : Nat} (h : entsR j s = (l, si)) (hb : si.bad = true) : ∀ k, j ≤ k → entsR k s = (l, si)
  | 0, hk => by obtain rfl : j = 0 := by omega
                exact h
  | k + 1, hk => by
    rcases Nat.lt_or_ge k j with h1 | h1
    · obtain rfl : j = k + 1 := by omega
      exact h
    · have q := entsR_bad h hb k h1
      simp only [entsR, q, hb, if_true]
theorem own_app_o {α : Type} {d : Kd α} {P : Program} {o : Oper} {G : Env} {w0 W : World} (base b : Nat) (s x : Operand) (t e : TypeId) (z : Value) (bytes : Nat)
    (ho : o.op = .call { callee := .builtin .append, args := #[s, x], argTypes := #[t, t] }) (ht : P.underlying t = some (.slice e)) (hinfo : (P.info? e).map (fun i => (i.zero, i.size, i.bytes)) = some (some z, d.sz, bytes)) (hz : z.cells.size = d.sz) (hs0 : 0 < d.sz) (hb0 : 0 < bytes)
    (hKM : ∀ x cs, d.K W x cs → d.M W base (fun _ => False) x cs)
    {xs ys : List α} {A A2 : Option Addr} {m c m2 c2 : Nat} (hs : sEv G s = .slice A m c) (hx : sEv G x = .slice A2 m2 c2) (hb : b ≤ W.heap.size) (h0 : OwnK d e W base b A m c xs ∧ Below w0.heap.size w0 W) (HR : d.C W A2 m2 ys) (hbase : base ≤ W.heap.size) (hl : (xs.length + m2) * bytes ≤ 140737488355328) :
    ∃ v w', (execOp (sEv G) o).run P W = .ok (.value v) w' ∧ (OwnKSpec d e base b (xs ++ ys)).s v w' ∧ Kept W w' (fun q => (Value.slice A m c).ownBlock = some q) ∧ True ∧ QT W w' := by
  obtain ⟨v, w', h1, h2, h3⟩ := own_app_gives (d := d) base b s x t e z bytes ho ht hinfo hz hs0 hb0 hKM hs hx hb h0.1 HR hbase hl
  exact ⟨v, w', h1, h2, kept_grown h3, trivial, h3.os, h3.tape, h3.output⟩
theorem note_eq {s s1 s2 s3 s4 s5 s6 s7 s8 s9 : RS} {x1 x2 x3 : Int} {k1 k2 k3 : Nat} {l1 : List Int} {l2 : List OpL} {l3 : List EL} (h1 : nextR s = (x1, s1)) (h2 : nextR s1 = (x2, s2)) (h3 : nextR s2 = (x3, s3)) (h4 : countR 64 s3 = ((k1 : Int), s4)) (h5 : numsR k1 s4 = (l1, s5)) (h6 : countR 16 s5 = ((k2 : Int), s6)) (h7 : opsR k2 s6 = (l2, s7)) (h8 : countR 16 s7 = ((k3 : Int), s8)) (h9 : entsR k3 s8 = (l3, s9)) : noteR s = (⟨x1, x2, x3, l1, l2, l3⟩, s9) := by
  have e1 : nextsR 1 s = s1 := by show (nextR s).2 = s1; rw [h1]
  have e2 : nextsR 2 s = s2 := by show (nextR (nextsR 1 s)).2 = s2; rw [e1, h2]
  have e3 : nextsR 3 s = s3 := by show (nextR (nextsR 2 s)).2 = s3; rw [e2, h3]
  simp only [noteR, e1, e2, e3, h1, h2, h3, h4, h5, h6, h7, h8, h9, Int.toNat_natCast]
set_option maxHeartbeats 4000000 in
theorem note_raw (w : World) (w1 : World) (g : Nat) (s : RS) (hb0 : Below w.heap.size w w1) (hs_w1 : w.heap.size ≤ w1.heap.size) (hg0 : w.heap.size ≤ g) (hg1 : g < w1.heap.size) (A : Option Addr) (c : Nat) (hb : Blk w1 g 90 #[.slice A s.xs.length c, .bool s.bad]) (hr : RRow w1 A s.xs.length c s.xs) (hl : Low w1.heap.size A) (hln : s.xs.length ≤ 100000) :
  Calls Try.prog 38 #[.pointer (some ⟨g, 0, none⟩)] w1 fun e w' => ∃ A3 c3 A4 c4 A5 c5, e = .returned (.agg #[.int .i64 (noteR s).1.kind, .int .i64 (noteR s).1.fr, .int .i64 (noteR s).1.tw, .slice A3 (noteR s).1.nums.length c3, .slice A4 (noteR s).1.ops.length c4, .slice A5 (noteR s).1.ents.length c5]) ∧ OwnK (Kd.int .i64) 3 w' w.heap.size w1.heap.size A3 (noteR s).1.nums.length c3 (noteR s).1.nums ∧ OwnK kOp 73 w' w.heap.size w1.heap.size A4 (noteR s).1.ops.length c4 (noteR s).1.ops ∧ OwnK kEntry 83 w' w.heap.size w1.heap.size A5 (noteR s).1.ents.length c5 (noteR s).1.ents ∧ RD w' g (noteR s).2 ∧ Below w.heap.size w w' := by
 refine calls_flow Try.func38 rfl 84 rfl (Nat.le_of_ble_eq_true rfl) [(0, .pointer (some ⟨g, 0, none⟩))] ?_ ?_
 ·
  intro t v h; exact args_look rfl t v h
 refine wsr ?_
 refine rw_new (cs := #[.int .i64 0, .int .i64 0, .int .i64 0, .slice none 0 0, .slice none 0 0, .slice none 0 0]) (t := 26) (fun g => .pointer (some ⟨g, 0, none⟩)) rfl rfl rfl rfl (by kernel_rfl) ?_
 intro g2 w3 hg7 hz6 hb4 hk5
 have hs_w3 := hb4.size
 refine rw_end ?_
 refine w_scope ?_
 refine wsr ?_
 refine rv (.pointer (some ⟨g, 0, none⟩)) ?_
 rcases hx10 : nextR s with ⟨x11, s12⟩
 have hl13 := next_le hx10
 refine rw_call rfl rfl rfl rfl (f := 58) (args := #[.pointer (some ⟨g, 0, none⟩)]) (by simp [go_sem, sEv, sLook, nbeq, i64_w, -List.getD_eq_getElem?_getD]) (next_k w3 g w1.heap.size s x11 s12 hx10 ⟨A, c, (hb.on hb4), (RRow.on hr hb4), hl⟩ (by omega)) ?_
 rintro e_ w8 ⟨rfl, ⟨A14, c15, hb16, hr17, hl18⟩, hk9⟩
 refine ⟨_, rfl, ?_⟩
 have hs_w8 := hk9.size
 refine rk (.agg #[.int .i64 x11, .int .i64 0, .int .i64 0, .slice none 0 0, .slice none 0 0, .slice none 0 0]) ?_
 refine rw_new (cs := #[.int .i64 0, .int .i64 0, .int .i64 0, .slice none 0 0, .slice none 0 0, .slice none 0 0]) (t := 26) (fun g => .pointer (some ⟨g, 0, none⟩)) rfl rfl rfl rfl (by kernel_rfl) ?_
 intro g20 w21 hg25 hz24 hb22 hk23
 have hs_w21 := hb22.size
 have hb29 := hk23
 refine rsa hb29 [.int .i64 x11, .int .i64 0, .int .i64 0, .slice none 0 0, .slice none 0 0, .slice none 0 0] ?_
 intro w26 hk27 hk28
 have hs_w26 := hk27.size
 refine rw_end ?_
 refine wsr ?_
 refine rv (.pointer (some ⟨g, 0, none⟩)) ?_
 rcases hx32 : nextR s12 with ⟨x33, s34⟩
 have hl35 := next_le hx32
 refine rw_call rfl rfl rfl rfl (f := 58) (args := #[.pointer (some ⟨g, 0, none⟩)]) (by simp [go_sem, sEv, sLook, nbeq, i64_w, -List.getD_eq_getElem?_getD]) (next_k w26 g w1.heap.size s12 x33 s34 hx32 ⟨A14, c15, ((hb16.on hb22).keep hk27 (by omega)), (RRow.keep (RRow.on hr17 hb22) hk23 (by decide) hk27), hl18⟩ (by omega)) ?_
 rintro e_ w30 ⟨rfl, ⟨A36, c37, hb38, hr39, hl40⟩, hk31⟩
 refine ⟨_, rfl, ?_⟩
 have hs_w30 := hk31.size
 refine ru (.pointer (some ⟨g20, 1, none⟩)) ?_
 have hb45 := (hk28.keep hk31 (by omega))
 refine rst hb45 1 [.int .i64 x33] #[.int .i64 x11, .int .i64 x33, .int .i64 0, .slice none 0 0, .slice none 0 0, .slice none 0 0] ?_
 intro w42 hk43 hk44
 have hs_w42 := hk43.size
 refine rw_end ?_
 refine wsr ?_
 refine rv (.pointer (some ⟨g, 0, none⟩)) ?_
 rcases hx48 : nextR s34 with ⟨x49, s50⟩
 have hl51 := next_le hx48
 refine rw_call rfl rfl rfl rfl (f := 58) (args := #[.pointer (some ⟨g, 0, none⟩)]) (by simp [go_sem, sEv, sLook, nbeq, i64_w, -List.getD_eq_getElem?_getD]) (next_k w42 g w1.heap.size s34 x49 s50 hx48 ⟨A36, c37, (hb38.keep hk43 (by omega)), (RRow.keep hr39 (hk28.keep hk31 (by omega)) (by decide) hk43), hl40⟩ (by omega)) ?_
 rintro e_ w46 ⟨rfl, ⟨A52, c53, hb54, hr55, hl56⟩, hk47⟩
 refine ⟨_, rfl, ?_⟩
 have hs_w46 := hk47.size
 refine ru (.pointer (some ⟨g20, 2, none⟩)) ?_
 have hb61 := (hk44.keep hk47 (by omega))
 refine rst hb61 2 [.int .i64 x49] #[.int .i64 x11, .int .i64 x33, .int .i64 x49, .slice none 0 0, .slice none 0 0, .slice none 0 0] ?_
 intro w58 hk59 hk60
 have hs_w58 := hk59.size
 refine rw_end ?_
 refine w_seq ?_
 refine wsr ?_
 refine rv (.pointer (some ⟨g, 0, none⟩)) ?_
 rcases hx64 : countR 64 s50 with ⟨x65, s66⟩
 obtain ⟨k68, hm69, rfl, hl67⟩ := count_nat hx64 (by decide)
 refine rw_call rfl rfl rfl rfl (f := 59) (args := #[.pointer (some ⟨g, 0, none⟩), .int .i64 64]) (by simp [go_sem, sEv, sLook, nbeq, i64_w, -List.getD_eq_getElem?_getD]) (count_k w58 g w1.heap.size s50 64 _ s66 hx64 ⟨A52, c53, (hb54.keep hk59 (by omega)), (RRow.keep hr55 (hk44.keep hk47 (by omega)) (by decide) hk59), hl56⟩ (by omega)) ?_
 rintro e_ w62 ⟨rfl, ⟨A70, c71, hb72, hr73, hl74⟩, hk63⟩
 refine ⟨_, rfl, ?_⟩
 have hs_w62 := hk63.size
 refine rv (.int .i64 0) ?_
 refine rw_end ?_
 refine w_block ?_
 refine w_loop (fun m_ G W_ => ∃ (j : Nat) (l1 : List Int) (sj : RS) (Ar : Option Addr) (cr : Nat) (Aq : Option Addr) (cq : Nat), j + m_ = k68 ∧ Below w.heap.size w W_ ∧ (Blk W_ g 90 #[.slice Ar sj.xs.length cr, .bool sj.bad]) ∧ (Blk W_ g20 26 #[.int .i64 x11, .int .i64 x33, .int .i64 x49, .slice Aq l1.length cq, .slice none 0 0, .slice none 0 0]) ∧ (Blk W_ g2 26 #[.int .i64 0, .int .i64 0, .int .i64 0, .slice none 0 0, .slice none 0 0, .slice none 0 0]) ∧ (OwnK (Kd.int .i64) 3 W_ w.heap.size w1.heap.size Aq l1.length cq l1) ∧ (RRow W_ Ar sj.xs.length cr sj.xs ∧ Low w1.heap.size Ar) ∧ (sj.xs.length ≤ 100000) ∧ (numsR j s66 = (l1, sj)) ∧ (l1.length = j) ∧ G = [(0, .pointer (some ⟨g, 0, none⟩)), (2, .pointer (some ⟨g2, 0, none⟩)), (3, .pointer (some ⟨g20, 0, none⟩)), (17, .int .i64 ((k68 : Nat) : Int)), (18, .int .i64 ((j : Nat) : Int))]) k68 [(0, .pointer (some ⟨g, 0, none⟩)), (2, .pointer (some ⟨g2, 0, none⟩)), (3, .pointer (some ⟨g20, 0, none⟩)), (17, .int .i64 ((k68 : Nat) : Int)), (18, .int .i64 0)] ⟨0, [], s66, A70, c71, none, 0, by omega, (hk63.below (by omega) (hk59.below (by omega) (hk47.below (by omega) (hk43.below (by omega) (hk31.below (by omega) (hk27.below (by omega) (chain (hk9.below (by omega) (chain hb0 hb4)) hb22))))))), hb72, (hk60.keep hk63 (by omega)), ((((((((hk5.keep hk9 (by omega)).on hb22).keep hk27 (by omega)).keep hk31 (by omega)).keep hk43 (by omega)).keep hk47 (by omega)).keep hk59 (by omega)).keep hk63 (by omega)), (OwnK.nil _ _ _ _ _), ⟨hr73, hl74⟩, (by omega), rfl, rfl, rfl⟩ ⟨rfl, rfl, rfl, rfl, rfl, trivial⟩ ?_
 rintro m_ G w_L76 ⟨j, l1, sj, Ar, cr, Aq, cq, hp77, hB_L76, hf78, hf79, hf80, hf81, hf82, hf83, hf84, hf85, rfl⟩
 have hs_w_L76 := hB_L76.size
 obtain ⟨hrr_w_L76, hlo_w_L76⟩ := hf82
 have hlt_g20_w_L76 := hf79.lt
 have hlt_g2_w_L76 := hf80.lt
 have hX0_0 := hf84
 have hX0_1 := hf85
 refine wsr ?_
 refine rs (.bool (decide (((j : Nat) : Int) < ((k68 : Nat) : Int)))) ?_
 refine rw_end ?_
 refine w_seq ?_
 refine w_cond rfl rfl (fun c87 => ?_) (fun c87 => ?_)
 ·
  have l88 : (((j : Nat) : Int) < ((k68 : Nat) : Int)) := of_decide_eq_true c87
  refine w_skip ?_
  refine w_seq ?_
  refine w_block ?_
  rcases hx89 : nextR sj with ⟨x90, s91⟩
  have hl92 := next_le hx89
  have oA93 : OwnK (Kd.int .i64) 3 w_L76 w.heap.size w1.heap.size Aq l1.length cq l1 := hf81
  have hRD94 : RDB w_L76 g w1.heap.size sj := ⟨Ar, cr, hf78, hrr_w_L76, hlo_w_L76⟩
  have hb95 := hf79
  have hb96 := hf80
  have hST_ := two_st (p := 3) (q := 5) (x := ⟨fun q_ => q_ = g, fun W_ => RDB W_ g w1.heap.size sj ∧ Below w.heap.size w W_, fun W_ => RDB W_ g w1.heap.size s91 ∧ Below w.heap.size w W_⟩) (y := ⟨fun q_ => (Value.slice Aq l1.length cq).ownBlock = some q_, fun W_ => OwnK (Kd.int .i64) 3 W_ w.heap.size w1.heap.size Aq l1.length cq l1 ∧ Below w.heap.size w W_, fun _ => True⟩) (ss := [Is (.pointer (some ⟨g20, 3, none⟩)), Is (.slice Aq l1.length cq), Is (.pointer (some ⟨g, 0, none⟩)), Is (.int .i64 x90), SlcSpec w_L76.heap.size 3 #[.int .i64 x90] 1, (OwnKSpec (Kd.int .i64) 3 w.heap.size w1.heap.size (l1 ++ [x90])), Is (.pointer (some ⟨g20, 3, none⟩))]) (show StabX _ 3 _ from ⟨stab_is, stab_is, stab_is, stab_cons (stab_slc (fun q_ h_ hs_ => by have e_ : q_ = g := hs_; omega)) (stab_cons (stab_own (fun q_ h_ hs_ => by have e_ : q_ = g := hs_; omega)) (stab_cons stab_is stab_nil))⟩) (show StabX _ 5 _ from ⟨stab_is, stab_is, stab_is, stab_is, stab_slc (fun q_ h_ hs_ => by have q2_ := own_lt (d := (Kd.int .i64)) oA93 hs_; omega), stab_cons stab_is stab_nil⟩)
  have hFF_ := two_ff (p := 3) (q := 5) (x := ⟨fun q_ => q_ = g, fun W_ => RDB W_ g w1.heap.size sj ∧ Below w.heap.size w W_, fun W_ => RDB W_ g w1.heap.size s91 ∧ Below w.heap.size w W_⟩) (y := ⟨fun q_ => (Value.slice Aq l1.length cq).ownBlock = some q_, fun W_ => OwnK (Kd.int .i64) 3 W_ w.heap.size w1.heap.size Aq l1.length cq l1 ∧ Below w.heap.size w W_, fun _ => True⟩) (fun X_ Y_ hk_ hq_ => ⟨fun h_ => ⟨OwnK.step h_.1 (fun q_ hq2_ hlt_ => hk_.2 q_ hlt_ (fun e_ => by have e2_ : q_ = g := e_; omega)), below_k h_.2 hk_ hq_ (fun q_ e_ => by have e2_ : q_ = g := e_; omega)⟩, fun _ => trivial⟩) (fun X_ Y_ hk_ hq_ => ⟨fun h_ => ⟨RDB.k h_.1 (by omega) hk_ (fun q_ hs_ => (own_lt (d := (Kd.int .i64)) oA93 hs_).1), below_k h_.2 hk_ hq_ (fun q_ hs_ => by have q2_ := own_lt (d := (Kd.int .i64)) oA93 hs_; omega)⟩, fun h_ => ⟨RDB.k h_.1 (by omega) hk_ (fun q_ hs_ => (own_lt (d := (Kd.int .i64)) oA93 hs_).1), below_k h_.2 hk_ hq_ (fun q_ hs_ => by have q2_ := own_lt (d := (Kd.int .i64)) oA93 hs_; omega)⟩⟩)
  have hF_ := two_cases (p := 3) (q := 5) (x := ⟨fun q_ => q_ = g, fun W_ => RDB W_ g w1.heap.size sj ∧ Below w.heap.size w W_, fun W_ => RDB W_ g w1.heap.size s91 ∧ Below w.heap.size w W_⟩) (y := ⟨fun q_ => (Value.slice Aq l1.length cq).ownBlock = some q_, fun W_ => OwnK (Kd.int .i64) 3 W_ w.heap.size w1.heap.size Aq l1.length cq l1 ∧ Below w.heap.size w W_, fun _ => True⟩) (P := fun _ z => ∀ X_ Y_, Below X_.heap.size X_ Y_ → (z.F0 X_ → z.F0 Y_) ∧ (z.F1 X_ → z.F1 Y_)) (fun X_ Y_ hb_ => ⟨fun h_ => ⟨h_.1.on hb_, chain h_.2 hb_⟩, fun h_ => ⟨h_.1.on hb_, chain h_.2 hb_⟩⟩) (fun X_ Y_ hb_ => ⟨fun h_ => ⟨OwnK.on (d := (Kd.int .i64)) h_.1 hb_, chain h_.2 hb_⟩, fun _ => trivial⟩)
  have hI_ := two_cases (p := 3) (q := 5) (x := ⟨fun q_ => q_ = g, fun W_ => RDB W_ g w1.heap.size sj ∧ Below w.heap.size w W_, fun W_ => RDB W_ g w1.heap.size s91 ∧ Below w.heap.size w W_⟩) (y := ⟨fun q_ => (Value.slice Aq l1.length cq).ownBlock = some q_, fun W_ => OwnK (Kd.int .i64) 3 W_ w.heap.size w1.heap.size Aq l1.length cq l1 ∧ Below w.heap.size w W_, fun _ => True⟩) (P := fun _ z => z.F0 w_L76.drew) ⟨hRD94.on (below_drew _), chain hB_L76 (below_drew _)⟩ ⟨OwnK.on (d := (Kd.int .i64)) oA93 (below_drew _), chain hB_L76 (below_drew _)⟩
  refine w_drawo (M := [0, 1, 0, 4, 12, 31, 63, 127]) (ss := [Is (.pointer (some ⟨g20, 3, none⟩)), Is (.slice Aq l1.length cq), Is (.pointer (some ⟨g, 0, none⟩)), Is (.int .i64 x90), SlcSpec w_L76.heap.size 3 #[.int .i64 x90] 1, (OwnKSpec (Kd.int .i64) 3 w.heap.size w1.heap.size (l1 ++ [x90])), Is (.pointer (some ⟨g20, 3, none⟩))]) (two 3 5 ⟨fun q_ => q_ = g, fun W_ => RDB W_ g w1.heap.size sj ∧ Below w.heap.size w W_, fun W_ => RDB W_ g w1.heap.size s91 ∧ Below w.heap.size w W_⟩ ⟨fun q_ => (Value.slice Aq l1.length cq).ownBlock = some q_, fun W_ => OwnK (Kd.int .i64) 3 W_ w.heap.size w1.heap.size Aq l1.length cq l1 ∧ Below w.heap.size w W_, fun _ => True⟩) 7 rfl (by decide +kernel) (two_cases (P := fun j _ => j < 7) (by decide) (by decide)) hST_ hF_ hFF_ hI_ ?_
  refine v_is (by kernel_rfl) (.pointer (some ⟨g20, 3, none⟩)) rfl rfl rfl rfl (fun W_ hW_ h1_ F_ => by simp [go_sem, sEv, sLook, nbeq, i64_w, -List.getD_eq_getElem?_getD, Try.underlying26]) ?_
  refine v_is (by kernel_rfl) (.slice Aq l1.length cq) rfl rfl rfl rfl (fun W_ hW_ h1_ F_ => by have eb_ := Blk.kept hb95 (drew_kept hW_) (fun hs_ => (mu_two hs_).elim (fun e_ => by have e2_ : g20 = g := e_; omega) (own_ne_blk (d := (Kd.int .i64)) oA93 hb95 (.inr (by decide)))); have e0_ := eb_.cellv (i := 3) (v := (.slice Aq l1.length cq : Value)) rfl; simp [go_sem, sEv, sLook, nbeq, i64_w, -List.getD_eq_getElem?_getD, e0_, Try.underlying22]) ?_
  refine v_is (by kernel_rfl) (.pointer (some ⟨g, 0, none⟩)) rfl rfl rfl rfl (fun W_ hW_ h1_ F_ => rfl) ?_
  refine v_mut (x := ⟨fun q_ => q_ = g, fun W_ => RDB W_ g w1.heap.size sj ∧ Below w.heap.size w W_, fun W_ => RDB W_ g w1.heap.size s91 ∧ Below w.heap.size w W_⟩) rfl (Is (.int .i64 x90)) (f := 58) (args := #[.pointer (some ⟨g, 0, none⟩)]) rfl rfl rfl rfl (fun W_ => by simp [go_sem, sEv, sLook, nbeq, i64_w, -List.getD_eq_getElem?_getD]) (fun W_ hW_ h0_ F_ => (next_k W_ g w1.heap.size sj x90 s91 hx89 h0_.1 (by omega)).mono (by rintro e_ w_ ⟨rfl, h2_, h3_⟩; exact ⟨_, rfl, rfl, kg_kept (kg_keep h3_), ⟨h2_, h3_.below hg0 h0_.2⟩, h3_.os, h3_.tape, h3_.output⟩)) ?_
  rintro _ rfl
  refine v_val (by kernel_rfl) (SlcSpec w_L76.heap.size 3 #[.int .i64 x90] 1) rfl rfl rfl rfl (fun W_ hW_ h1_ F_ => slc_gives _ _ _ _ (drew_kept hW_).1 (by kernel_rfl)) ?_
  rintro _ ⟨g97, rfl⟩
  refine v_app (x := ⟨fun q_ => (Value.slice Aq l1.length cq).ownBlock = some q_, fun W_ => OwnK (Kd.int .i64) 3 W_ w.heap.size w1.heap.size Aq l1.length cq l1 ∧ Below w.heap.size w W_, fun _ => True⟩) rfl (OwnKSpec (Kd.int .i64) 3 w.heap.size w1.heap.size (l1 ++ [x90])) rfl rfl rfl rfl (fun W_ hW_ h0_ F_ => own_app_o (d := (Kd.int .i64)) w.heap.size w1.heap.size (.tmp 21) (.tmp 24) 22 3 (.int .i64 0) 8 rfl (by kernel_rfl) (by kernel_rfl) rfl (show 0 < 1 by decide) (by decide) (fun _ _ h => h) rfl rfl (by have q2_ := (drew_kept hW_).1; omega) h0_ (OwnK.C (d := (Kd.int .i64)) (scal_own (e := 3) (cap := 1) (xs := ([x90] : List Int)) 0 (slc_fact (F_ 4 _ _ rfl rfl)).2 (Nat.zero_le _) rfl rfl (by simp))) h0_.2.size (by first | omega | (simp only [List.length_cons, List.length_nil]; omega))) ?_
  rintro _ ⟨A98, c99, rfl, hle100⟩
  refine v_is (by kernel_rfl) (.pointer (some ⟨g20, 3, none⟩)) rfl rfl rfl rfl (fun W_ hW_ h1_ F_ => by simp [go_sem, sEv, sLook, nbeq, i64_w, -List.getD_eq_getElem?_getD, Try.underlying26]) ?_
  refine v_tail ?_
  intro w101 hK102_ h103 F104
  have hK102 := drew_kept hK102_
  obtain ⟨⟨A108, c109, hb110, hr111, hl112⟩, hB106⟩ := h103 3 _ rfl
  have hs_w101 := hB106.size
  have hgs_w101 := hK102.1
  have hO107 : OwnK (Kd.int .i64) 3 w101 w.heap.size w1.heap.size A98 (l1 ++ [x90]).length c99 (l1 ++ [x90]) := ownk_fact (F104 5 (OwnKSpec (Kd.int .i64) 3 w.heap.size w1.heap.size (l1 ++ [x90])) (.slice A98 (l1 ++ [x90]).length c99) (by kernel_rfl))
  have hk113 := Blk.kept hb95 hK102 (fun hs_ => (mu_two hs_).elim (fun e_ => by have e2_ : g20 = g := e_; omega) (own_ne_blk (d := (Kd.int .i64)) oA93 hb95 (.inr (by decide))))
  have hk114 := Blk.kept hb96 hK102 (fun hs_ => (mu_two hs_).elim (fun e_ => by have e2_ : g2 = g := e_; omega) (own_ne_blk (d := (Kd.int .i64)) oA93 hb96 (.inr (by decide))))
  clear F104 hST_ hFF_ hF_ hI_
  have hb119 := hk113
  refine rst hb119 3 [.slice A98 ((l1 ++ [x90]).length) c99] #[.int .i64 x11, .int .i64 x33, .int .i64 x49, .slice A98 ((l1 ++ [x90]).length) c99, .slice none 0 0, .slice none 0 0] ?_
  intro w116 hk117 hk118
  have hs_w116 := hk117.size
  refine rw_end ?_
  refine w_blk ?_
  refine w_region ?_
  refine rw1 (.int .i64 ((j + 1 : Nat) : Int)) ?_
  refine rv (.int .i64 ((j + 1 : Nat) : Int)) ?_
  refine rw_end ?_
  exact w_back (m_ - 1) [(0, .pointer (some ⟨g, 0, none⟩)), (2, .pointer (some ⟨g2, 0, none⟩)), (3, .pointer (some ⟨g20, 0, none⟩)), (17, .int .i64 ((k68 : Nat) : Int)), (18, .int .i64 ((j + 1 : Nat) : Int))] (by omega) ⟨rfl, rfl, rfl, rfl, rfl, trivial⟩ ⟨(j + 1), (l1 ++ [x90]), s91, A108, c109, A98, c99, by omega, (hk117.below (by omega) hB106), (hb110.keep hk117 (by omega)), hk118, (hk114.keep hk117 (by omega)), (OwnK.mono (d := (Kd.int .i64)) (own_keep (d := (Kd.int .i64)) hO107 hk113 (by decide) hk117) (by omega)), ⟨(RRow.keep hr111 hk113 (by decide) hk117), hl112⟩, (by omega), (numsR_step hX0_0 hx89), (by simp only [List.length_append, List.length_cons, List.length_nil]; omega), rfl⟩
 ·
  have l120 : ¬ (((j : Nat) : Int) < ((k68 : Nat) : Int)) := of_decide_eq_false c87
  refine w_exit rfl ?_
  refine w_seq ?_
  refine wsr ?_
  refine rv (.pointer (some ⟨g, 0, none⟩)) ?_
  rcases hx123 : countR 16 sj with ⟨x124, s125⟩
  obtain ⟨k127, hm128, rfl, hl126⟩ := count_nat hx123 (by decide)
  refine rw_call rfl rfl rfl rfl (f := 59) (args := #[.pointer (some ⟨g, 0, none⟩), .int .i64 16]) (by simp [go_sem, sEv, sLook, nbeq, i64_w, -List.getD_eq_getElem?_getD]) (count_k w_L76 g w1.heap.size sj 16 _ s125 hx123 ⟨Ar, cr, hf78, hrr_w_L76, hlo_w_L76⟩ (by omega)) ?_
  rintro e_ w121 ⟨rfl, ⟨A129, c130, hb131, hr132, hl133⟩, hk122⟩
  refine ⟨_, rfl, ?_⟩
  have hs_w121 := hk122.size
  refine rv (.int .i64 0) ?_
  refine rw_end ?_
  refine w_block ?_
  have hE0_ : numsR k68 s66 = (l1, sj) := by rw [← (by omega : j = k68)]; exact hX0_0
  refine w_loop (fun m_ G W_ => ∃ (j2 : Nat) (l2 : List OpL) (sk : RS) (Ar2 : Option Addr) (cr2 : Nat) (Ap : Option Addr) (cp : Nat), j2 + m_ = k127 ∧ Below w.heap.size w W_ ∧ (Blk W_ g 90 #[.slice Ar2 sk.xs.length cr2, .bool sk.bad]) ∧ (Blk W_ g20 26 #[.int .i64 x11, .int .i64 x33, .int .i64 x49, .slice Aq l1.length cq, .slice Ap l2.length cp, .slice none 0 0]) ∧ (Blk W_ g2 26 #[.int .i64 0, .int .i64 0, .int .i64 0, .slice none 0 0, .slice none 0 0, .slice none 0 0]) ∧ (OwnK (Kd.int .i64) 3 W_ w.heap.size w1.heap.size Aq l1.length cq l1) ∧ (OwnK kOp 73 W_ w.heap.size w1.heap.size Ap l2.length cp l2) ∧ (RRow W_ Ar2 sk.xs.length cr2 sk.xs ∧ Low w1.heap.size Ar2) ∧ (sk.xs.length ≤ 100000) ∧ (opsR j2 s125 = (l2, sk)) ∧ (l2.length = j2) ∧ G = [(0, .pointer (some ⟨g, 0, none⟩)), (2, .pointer (some ⟨g2, 0, none⟩)), (3, .pointer (some ⟨g20, 0, none⟩)), (29, .int .i64 ((k127 : Nat) : Int)), (30, .int .i64 ((j2 : Nat) : Int))]) k127 [(0, .pointer (some ⟨g, 0, none⟩)), (2, .pointer (some ⟨g2, 0, none⟩)), (3, .pointer (some ⟨g20, 0, none⟩)), (29, .int .i64 ((k127 : Nat) : Int)), (30, .int .i64 0)] ⟨0, [], s125, A129, c130, none, 0, by omega, (hk122.below (by omega) hB_L76), hb131, (hf79.keep hk122 (by omega)), (hf80.keep hk122 (by omega)), (OwnK.mono (d := (Kd.int .i64)) (own_keep (d := (Kd.int .i64)) hf81 hf78 (by decide) hk122) (by omega)), (OwnK.nil _ _ _ _ _), ⟨hr132, hl133⟩, (by omega), rfl, rfl, rfl⟩ ⟨rfl, rfl, rfl, rfl, rfl, trivial⟩ ?_
  rintro m2_ G w_L135 ⟨j2, l2, sk, Ar2, cr2, Ap, cp, hp136, hB_L135, hf137, hf138, hf139, hf140, hf141, hf142, hf143, hf144, hf145, rfl⟩
  have hs_w_L135 := hB_L135.size
  obtain ⟨hrr_w_L135, hlo_w_L135⟩ := hf142
  have hlt_g20_w_L135 := hf138.lt
  have hlt_g2_w_L135 := hf139.lt
  have hX1_0 := hf144
  have hX1_1 := hf145
  refine wsr ?_
  refine rs (.bool (decide (((j2 : Nat) : Int) < ((k127 : Nat) : Int)))) ?_
  refine rw_end ?_
  refine w_seq ?_
  refine w_cond rfl rfl (fun c147 => ?_) (fun c147 => ?_)
  ·
   have l148 : (((j2 : Nat) : Int) < ((k127 : Nat) : Int)) := of_decide_eq_true c147
   refine w_skip ?_
   refine w_seq ?_
   refine w_block ?_
   refine wsr ?_
   refine rw_new (cs := #[.int .i64 0, .int .i64 0, .int .i64 0, .int .i64 0, .int .i64 0]) (t := 115) (fun g => .pointer (some ⟨g, 0, none⟩)) rfl rfl rfl rfl (by kernel_rfl) ?_
   intro g149 w150 hg154 hz153 hb151 hk152
   have hs_w150 := hb151.size
   refine rw_end ?_
   refine w_seq ?_
   refine wsr ?_
   refine rv (.int .i64 0) ?_
   refine rw_end ?_
   refine w_block ?_
   refine w_loop (fun m_ G W_ => ∃ (i fa fb fc fd fe : Int) (si : RS) (Ai : Option Addr) (ci : Nat), (m_ : Int) + i = 5 ∧ 0 ≤ i ∧ Below w.heap.size w W_ ∧ Blk W_ g 90 #[.slice Ai si.xs.length ci, .bool si.bad] ∧ RRow W_ Ai si.xs.length ci si.xs ∧ Low w1.heap.size Ai ∧ si.xs.length ≤ 100000 ∧ Blk W_ g20 26 #[.int .i64 x11, .int .i64 x33, .int .i64 x49, .slice Aq l1.length cq, .slice Ap l2.length cp, .slice none 0 0] ∧ Blk W_ g2 26 #[.int .i64 0, .int .i64 0, .int .i64 0, .slice none 0 0, .slice none 0 0, .slice none 0 0] ∧ Blk W_ g149 115 #[.int .i64 fa, .int .i64 fb, .int .i64 fc, .int .i64 fd, .int .i64 fe] ∧ OwnK (Kd.int .i64) 3 W_ w.heap.size w1.heap.size Aq l1.length cq l1 ∧ OwnK kOp 73 W_ w.heap.size w1.heap.size Ap l2.length cp l2 ∧ OF i.toNat sk fa fb fc fd fe si ∧ G = [(0, .pointer (some ⟨g, 0, none⟩)), (2, .pointer (some ⟨g2, 0, none⟩)), (3, .pointer (some ⟨g20, 0, none⟩)), (4, .pointer (some ⟨g149, 0, none⟩)), (29, .int .i64 ((k127 : Nat) : Int)), (30, .int .i64 ((j2 : Nat) : Int)), (32, .int .i64 i)]) 5 [(0, .pointer (some ⟨g, 0, none⟩)), (2, .pointer (some ⟨g2, 0, none⟩)), (3, .pointer (some ⟨g20, 0, none⟩)), (4, .pointer (some ⟨g149, 0, none⟩)), (29, .int .i64 ((k127 : Nat) : Int)), (30, .int .i64 ((j2 : Nat) : Int)), (32, .int .i64 0)] ⟨0, 0, 0, 0, 0, 0, sk, Ar2, cr2, by omega, by omega, (chain hB_L135 hb151), (hf137.on hb151), (RRow.on hrr_w_L135 hb151), hlo_w_L135, by omega, (hf138.on hb151), (hf139.on hb151), hk152, (OwnK.on (d := (Kd.int .i64)) hf140 hb151), (OwnK.on (d := kOp) hf141 hb151), (of_0 _), rfl⟩ ⟨rfl, rfl, rfl, rfl, rfl, rfl, rfl, trivial⟩ ?_
   rintro m3_ G w_i ⟨i, fa, fb, fc, fd, fe, si, Ai, ci, hmi_, hi0_, hB_i, hbg_i, hrr_i, hlo_i, hls_i, hb3_i, hb2_i, hb4_i, hO1_i, hO2_i, hOF_, rfl⟩
   have hs_w_i := hB_i.size
   have hlt3_i := hb3_i.lt
   have hlt2_i := hb2_i.lt
   have hlt4_i := hb4_i.lt
   rcases (by omega : i = 0 ∨ i = 1 ∨ i = 2 ∨ i = 3 ∨ i = 4 ∨ i = 5) with rfl | rfl | rfl | rfl | rfl | rfl
   ·
    refine wsr ?_
    refine rs (.bool true) ?_
    refine rw_end ?_
    refine w_seq ?_
    refine w_cond_t rfl rfl rfl ?_
    refine w_skip ?_
    refine w_seq ?_
    refine w_block ?_
    refine wsr ?_
    refine rv (.int .i64 0) ?_
    refine rv (.int .i64 0) ?_
    refine rw_end ?_
    refine w_region ?_
    refine rv (.int .i64 0) ?_
    refine rv (.pointer (some ⟨g, 0, none⟩)) ?_
    rcases hx158 : nextR si with ⟨x159, s160⟩
    have hl161 := next_le hx158
    refine rw_call rfl rfl rfl rfl (f := 58) (args := #[.pointer (some ⟨g, 0, none⟩)]) (by simp [go_sem, sEv, sLook, nbeq, i64_w, -List.getD_eq_getElem?_getD]) (next_k w_i g w1.heap.size si x159 s160 hx158 ⟨Ai, ci, hbg_i, hrr_i, hlo_i⟩ (by omega)) ?_
    rintro e_ w156 ⟨rfl, ⟨A162, c163, hb164, hr165, hl166⟩, hk157⟩
    refine ⟨_, rfl, ?_⟩
    have hs_w156 := hk157.size
    refine rz (.pointer (some ⟨g149, 0, none⟩)) (by first | kernel_rfl | simp [go_sem, sEv, sLook, nbeq, i64_w, -List.getD_eq_getElem?_getD, Try.underlying115]) ?_
    have hb171 := (hb4_i.keep hk157 (by omega))
    refine rst hb171 0 [.int .i64 x159] #[.int .i64 x159, .int .i64 fb, .int .i64 fc, .int .i64 fd, .int .i64 fe] ?_
    intro w168 hk169 hk170
    have hs_w168 := hk169.size
    refine rw_end ?_
    refine w_blk ?_
    refine w_region ?_
    refine rk (.int .i64 1) ?_
    refine rv (.int .i64 1) ?_
    refine rw_end ?_
    exact w_back (m3_ - 1) [(0, .pointer (some ⟨g, 0, none⟩)), (2, .pointer (some ⟨g2, 0, none⟩)), (3, .pointer (some ⟨g20, 0, none⟩)), (4, .pointer (some ⟨g149, 0, none⟩)), (29, .int .i64 ((k127 : Nat) : Int)), (30, .int .i64 ((j2 : Nat) : Int)), (32, .int .i64 1)] (by omega) ⟨rfl, rfl, rfl, rfl, rfl, rfl, rfl, trivial⟩ ⟨1, x159, fb, fc, fd, fe, s160, A162, c163, by omega, by omega, (hk169.below (by omega) (hk157.below (by omega) hB_i)), (hb164.keep hk169 (by omega)), (RRow.keep hr165 (hb4_i.keep hk157 (by omega)) (by decide) hk169), hl166, by omega, ((hb3_i.keep hk157 (by omega)).keep hk169 (by omega)), ((hb2_i.keep hk157 (by omega)).keep hk169 (by omega)), hk170, (own_keep (d := (Kd.int .i64)) (own_keep (d := (Kd.int .i64)) hO1_i hbg_i (by decide) hk157) (hb4_i.keep hk157 (by omega)) (by decide) hk169), (own_keep (d := kOp) (own_keep (d := kOp) hO2_i hbg_i (by decide) hk157) (hb4_i.keep hk157 (by omega)) (by decide) hk169), (of_1 hOF_ hx158), rfl⟩
   ·
    refine wsr ?_
    refine rs (.bool true) ?_
    refine rw_end ?_
    refine w_seq ?_
    refine w_cond_t rfl rfl rfl ?_
    refine w_skip ?_
    refine w_seq ?_
    refine w_block ?_
    refine wsr ?_
    refine rv (.int .i64 1) ?_
    refine rv (.int .i64 1) ?_
    refine rw_end ?_
    refine w_region ?_
    refine rv (.int .i64 1) ?_
    refine rv (.pointer (some ⟨g, 0, none⟩)) ?_
    rcases hx175 : nextR si with ⟨x176, s177⟩
    have hl178 := next_le hx175
    refine rw_call rfl rfl rfl rfl (f := 58) (args := #[.pointer (some ⟨g, 0, none⟩)]) (by simp [go_sem, sEv, sLook, nbeq, i64_w, -List.getD_eq_getElem?_getD]) (next_k w_i g w1.heap.size si x176 s177 hx175 ⟨Ai, ci, hbg_i, hrr_i, hlo_i⟩ (by omega)) ?_
    rintro e_ w173 ⟨rfl, ⟨A179, c180, hb181, hr182, hl183⟩, hk174⟩
    refine ⟨_, rfl, ?_⟩
    have hs_w173 := hk174.size
    refine rz (.pointer (some ⟨g149, 1, none⟩)) (by first | kernel_rfl | simp [go_sem, sEv, sLook, nbeq, i64_w, -List.getD_eq_getElem?_getD, Try.underlying115]) ?_
    have hb188 := (hb4_i.keep hk174 (by omega))
    refine rst hb188 1 [.int .i64 x176] #[.int .i64 fa, .int .i64 x176, .int .i64 fc, .int .i64 fd, .int .i64 fe] ?_
    intro w185 hk186 hk187
    have hs_w185 := hk186.size
    refine rw_end ?_
    refine w_blk ?_
    refine w_region ?_
    refine rk (.int .i64 2) ?_
    refine rv (.int .i64 2) ?_
    refine rw_end ?_
    exact w_back (m3_ - 1) [(0, .pointer (some ⟨g, 0, none⟩)), (2, .pointer (some ⟨g2, 0, none⟩)), (3, .pointer (some ⟨g20, 0, none⟩)), (4, .pointer (some ⟨g149, 0, none⟩)), (29, .int .i64 ((k127 : Nat) : Int)), (30, .int .i64 ((j2 : Nat) : Int)), (32, .int .i64 2)] (by omega) ⟨rfl, rfl, rfl, rfl, rfl, rfl, rfl, trivial⟩ ⟨2, fa, x176, fc, fd, fe, s177, A179, c180, by omega, by omega, (hk186.below (by omega) (hk174.below (by omega) hB_i)), (hb181.keep hk186 (by omega)), (RRow.keep hr182 (hb4_i.keep hk174 (by omega)) (by decide) hk186), hl183, by omega, ((hb3_i.keep hk174 (by omega)).keep hk186 (by omega)), ((hb2_i.keep hk174 (by omega)).keep hk186 (by omega)), hk187, (own_keep (d := (Kd.int .i64)) (own_keep (d := (Kd.int .i64)) hO1_i hbg_i (by decide) hk174) (hb4_i.keep hk174 (by omega)) (by decide) hk186), (own_keep (d := kOp) (own_keep (d := kOp) hO2_i hbg_i (by decide) hk174) (hb4_i.keep hk174 (by omega)) (by decide) hk186), (of_2 hOF_ hx175), rfl⟩
   ·
    refine wsr ?_
    refine rs (.bool true) ?_
    refine rw_end ?_
    refine w_seq ?_
    refine w_cond_t rfl rfl rfl ?_
    refine w_skip ?_
    refine w_seq ?_
    refine w_block ?_
    refine wsr ?_
    refine rv (.int .i64 2) ?_
    refine rv (.int .i64 2) ?_
    refine rw_end ?_
    refine w_region ?_
    refine rv (.int .i64 2) ?_
    refine rv (.pointer (some ⟨g, 0, none⟩)) ?_
    rcases hx192 : nextR si with ⟨x193, s194⟩
    have hl195 := next_le hx192
    refine rw_call rfl rfl rfl rfl (f := 58) (args := #[.pointer (some ⟨g, 0, none⟩)]) (by simp [go_sem, sEv, sLook, nbeq, i64_w, -List.getD_eq_getElem?_getD]) (next_k w_i g w1.heap.size si x193 s194 hx192 ⟨Ai, ci, hbg_i, hrr_i, hlo_i⟩ (by omega)) ?_
    rintro e_ w190 ⟨rfl, ⟨A196, c197, hb198, hr199, hl200⟩, hk191⟩
    refine ⟨_, rfl, ?_⟩
    have hs_w190 := hk191.size
    refine rz (.pointer (some ⟨g149, 2, none⟩)) (by first | kernel_rfl | simp [go_sem, sEv, sLook, nbeq, i64_w, -List.getD_eq_getElem?_getD, Try.underlying115]) ?_
    have hb205 := (hb4_i.keep hk191 (by omega))
    refine rst hb205 2 [.int .i64 x193] #[.int .i64 fa, .int .i64 fb, .int .i64 x193, .int .i64 fd, .int .i64 fe] ?_
    intro w202 hk203 hk204
    have hs_w202 := hk203.size
    refine rw_end ?_
    refine w_blk ?_
    refine w_region ?_
    refine rk (.int .i64 3) ?_
    refine rv (.int .i64 3) ?_
    refine rw_end ?_
    exact w_back (m3_ - 1) [(0, .pointer (some ⟨g, 0, none⟩)), (2, .pointer (some ⟨g2, 0, none⟩)), (3, .pointer (some ⟨g20, 0, none⟩)), (4, .pointer (some ⟨g149, 0, none⟩)), (29, .int .i64 ((k127 : Nat) : Int)), (30, .int .i64 ((j2 : Nat) : Int)), (32, .int .i64 3)] (by omega) ⟨rfl, rfl, rfl, rfl, rfl, rfl, rfl, trivial⟩ ⟨3, fa, fb, x193, fd, fe, s194, A196, c197, by omega, by omega, (hk203.below (by omega) (hk191.below (by omega) hB_i)), (hb198.keep hk203 (by omega)), (RRow.keep hr199 (hb4_i.keep hk191 (by omega)) (by decide) hk203), hl200, by omega, ((hb3_i.keep hk191 (by omega)).keep hk203 (by omega)), ((hb2_i.keep hk191 (by omega)).keep hk203 (by omega)), hk204, (own_keep (d := (Kd.int .i64)) (own_keep (d := (Kd.int .i64)) hO1_i hbg_i (by decide) hk191) (hb4_i.keep hk191 (by omega)) (by decide) hk203), (own_keep (d := kOp) (own_keep (d := kOp) hO2_i hbg_i (by decide) hk191) (hb4_i.keep hk191 (by omega)) (by decide) hk203), (of_3 hOF_ hx192), rfl⟩
   ·
    refine wsr ?_
    refine rs (.bool true) ?_
    refine rw_end ?_
    refine w_seq ?_
    refine w_cond_t rfl rfl rfl ?_
    refine w_skip ?_
    refine w_seq ?_
    refine w_block ?_
    refine wsr ?_
    refine rv (.int .i64 3) ?_
    refine rv (.int .i64 3) ?_
    refine rw_end ?_
    refine w_region ?_
    refine rv (.int .i64 3) ?_
    refine rv (.pointer (some ⟨g, 0, none⟩)) ?_
    rcases hx209 : nextR si with ⟨x210, s211⟩
    have hl212 := next_le hx209
    refine rw_call rfl rfl rfl rfl (f := 58) (args := #[.pointer (some ⟨g, 0, none⟩)]) (by simp [go_sem, sEv, sLook, nbeq, i64_w, -List.getD_eq_getElem?_getD]) (next_k w_i g w1.heap.size si x210 s211 hx209 ⟨Ai, ci, hbg_i, hrr_i, hlo_i⟩ (by omega)) ?_
    rintro e_ w207 ⟨rfl, ⟨A213, c214, hb215, hr216, hl217⟩, hk208⟩
    refine ⟨_, rfl, ?_⟩
    have hs_w207 := hk208.size
    refine rz (.pointer (some ⟨g149, 3, none⟩)) (by first | kernel_rfl | simp [go_sem, sEv, sLook, nbeq, i64_w, -List.getD_eq_getElem?_getD, Try.underlying115]) ?_
    have hb222 := (hb4_i.keep hk208 (by omega))
    refine rst hb222 3 [.int .i64 x210] #[.int .i64 fa, .int .i64 fb, .int .i64 fc, .int .i64 x210, .int .i64 fe] ?_
    intro w219 hk220 hk221
    have hs_w219 := hk220.size
    refine rw_end ?_
    refine w_blk ?_
    refine w_region ?_
    refine rk (.int .i64 4) ?_
    refine rv (.int .i64 4) ?_
    refine rw_end ?_
    exact w_back (m3_ - 1) [(0, .pointer (some ⟨g, 0, none⟩)), (2, .pointer (some ⟨g2, 0, none⟩)), (3, .pointer (some ⟨g20, 0, none⟩)), (4, .pointer (some ⟨g149, 0, none⟩)), (29, .int .i64 ((k127 : Nat) : Int)), (30, .int .i64 ((j2 : Nat) : Int)), (32, .int .i64 4)] (by omega) ⟨rfl, rfl, rfl, rfl, rfl, rfl, rfl, trivial⟩ ⟨4, fa, fb, fc, x210, fe, s211, A213, c214, by omega, by omega, (hk220.below (by omega) (hk208.below (by omega) hB_i)), (hb215.keep hk220 (by omega)), (RRow.keep hr216 (hb4_i.keep hk208 (by omega)) (by decide) hk220), hl217, by omega, ((hb3_i.keep hk208 (by omega)).keep hk220 (by omega)), ((hb2_i.keep hk208 (by omega)).keep hk220 (by omega)), hk221, (own_keep (d := (Kd.int .i64)) (own_keep (d := (Kd.int .i64)) hO1_i hbg_i (by decide) hk208) (hb4_i.keep hk208 (by omega)) (by decide) hk220), (own_keep (d := kOp) (own_keep (d := kOp) hO2_i hbg_i (by decide) hk208) (hb4_i.keep hk208 (by omega)) (by decide) hk220), (of_4 hOF_ hx209), rfl⟩
   ·
    refine wsr ?_
    refine rs (.bool true) ?_
    refine rw_end ?_
    refine w_seq ?_
    refine w_cond_t rfl rfl rfl ?_
    refine w_skip ?_
    refine w_seq ?_
    refine w_block ?_
    refine wsr ?_
    refine rv (.int .i64 4) ?_
    refine rv (.int .i64 4) ?_
    refine rw_end ?_
    refine w_region ?_
    refine rv (.int .i64 4) ?_
    refine rv (.pointer (some ⟨g, 0, none⟩)) ?_
    rcases hx226 : nextR si with ⟨x227, s228⟩
    have hl229 := next_le hx226
    refine rw_call rfl rfl rfl rfl (f := 58) (args := #[.pointer (some ⟨g, 0, none⟩)]) (by simp [go_sem, sEv, sLook, nbeq, i64_w, -List.getD_eq_getElem?_getD]) (next_k w_i g w1.heap.size si x227 s228 hx226 ⟨Ai, ci, hbg_i, hrr_i, hlo_i⟩ (by omega)) ?_
    rintro e_ w224 ⟨rfl, ⟨A230, c231, hb232, hr233, hl234⟩, hk225⟩
    refine ⟨_, rfl, ?_⟩
    have hs_w224 := hk225.size
    refine rz (.pointer (some ⟨g149, 4, none⟩)) (by first | kernel_rfl | simp [go_sem, sEv, sLook, nbeq, i64_w, -List.getD_eq_getElem?_getD, Try.underlying115]) ?_
    have hb239 := (hb4_i.keep hk225 (by omega))
    refine rst hb239 4 [.int .i64 x227] #[.int .i64 fa, .int .i64 fb, .int .i64 fc, .int .i64 fd, .int .i64 x227] ?_
    intro w236 hk237 hk238
    have hs_w236 := hk237.size
    refine rw_end ?_
    refine w_blk ?_
    refine w_region ?_
    refine rk (.int .i64 5) ?_
    refine rv (.int .i64 5) ?_
    refine rw_end ?_
    exact w_back (m3_ - 1) [(0, .pointer (some ⟨g, 0, none⟩)), (2, .pointer (some ⟨g2, 0, none⟩)), (3, .pointer (some ⟨g20, 0, none⟩)), (4, .pointer (some ⟨g149, 0, none⟩)), (29, .int .i64 ((k127 : Nat) : Int)), (30, .int .i64 ((j2 : Nat) : Int)), (32, .int .i64 5)] (by omega) ⟨rfl, rfl, rfl, rfl, rfl, rfl, rfl, trivial⟩ ⟨5, fa, fb, fc, fd, x227, s228, A230, c231, by omega, by omega, (hk237.below (by omega) (hk225.below (by omega) hB_i)), (hb232.keep hk237 (by omega)), (RRow.keep hr233 (hb4_i.keep hk225 (by omega)) (by decide) hk237), hl234, by omega, ((hb3_i.keep hk225 (by omega)).keep hk237 (by omega)), ((hb2_i.keep hk225 (by omega)).keep hk237 (by omega)), hk238, (own_keep (d := (Kd.int .i64)) (own_keep (d := (Kd.int .i64)) hO1_i hbg_i (by decide) hk225) (hb4_i.keep hk225 (by omega)) (by decide) hk237), (own_keep (d := kOp) (own_keep (d := kOp) hO2_i hbg_i (by decide) hk225) (hb4_i.keep hk225 (by omega)) (by decide) hk237), (of_5 hOF_ hx226), rfl⟩
   ·
    refine wsr ?_
    refine rs (.bool false) ?_
    refine rw_end ?_
    refine w_seq ?_
    refine w_cond_f rfl rfl rfl ?_
    refine w_exit rfl ?_
    refine w_region ?_
    refine ru (.pointer (some ⟨g20, 4, none⟩)) ?_
    refine rl hb3_i 4 (.slice Ap l2.length cp) ?_
    refine rz (.pointer (some ⟨g149, 0, none⟩)) (by first | kernel_rfl | simp [go_sem, sEv, sLook, nbeq, i64_w, -List.getD_eq_getElem?_getD, Try.underlying115]) ?_
    refine rl hb4_i 0 (.int .i64 fa) ?_
    refine rz (.pointer (some ⟨g149, 1, none⟩)) (by first | kernel_rfl | simp [go_sem, sEv, sLook, nbeq, i64_w, -List.getD_eq_getElem?_getD, Try.underlying115]) ?_
    refine rl hb4_i 1 (.int .i64 fb) ?_
    refine rz (.pointer (some ⟨g149, 2, none⟩)) (by first | kernel_rfl | simp [go_sem, sEv, sLook, nbeq, i64_w, -List.getD_eq_getElem?_getD, Try.underlying115]) ?_
    refine rl hb4_i 2 (.int .i64 fc) ?_
    refine rz (.pointer (some ⟨g149, 3, none⟩)) (by first | kernel_rfl | simp [go_sem, sEv, sLook, nbeq, i64_w, -List.getD_eq_getElem?_getD, Try.underlying115]) ?_
    refine rl hb4_i 3 (.int .i64 fd) ?_
    refine rz (.pointer (some ⟨g149, 4, none⟩)) (by first | kernel_rfl | simp [go_sem, sEv, sLook, nbeq, i64_w, -List.getD_eq_getElem?_getD, Try.underlying115]) ?_
    refine rl hb4_i 4 (.int .i64 fe) ?_
    refine rk (.agg #[.int .i64 fa, .int .i64 fb, .int .i64 fc, .int .i64 fd, .int .i64 fe]) ?_
    refine rw_new (cs := #[.int .i64 fa, .int .i64 fb, .int .i64 fc, .int .i64 fd, .int .i64 fe]) (t := 73) (fun g => .slice (some ⟨g, 0, none⟩) 1 1) rfl rfl rfl rfl (by kernel_rfl) ?_
    intro g241 w242 hg246 hz245 hb243 hk244
    have hs_w242 := hb243.size
    have hk244r : OwnK kOp 73 w242 w.heap.size g241 (some ⟨g241, 0, none⟩) 1 1 ([(fa, fb, fc, fd, fe)] : List OpL) := flat_own w.heap.size hk244 (by omega) rfl rfl (by simp) (by simp)
    have oA253 : OwnK kOp 73 w242 w.heap.size w1.heap.size Ap l2.length cp l2 := (OwnK.on (d := kOp) hO2_i hb243)
    refine rw_append_kd (d := kOp) w.heap.size rfl rfl rfl (.tmp 41) (.tmp 53) rfl rfl 23 73 (.agg #[.int .i64 0, .int .i64 0, .int .i64 0, .int .i64 0, .int .i64 0]) 40 rfl (by kernel_rfl) (by kernel_rfl) rfl (show 0 < 5 by decide) (by decide) (fun _ _ h => h) (b := w1.heap.size) rfl rfl (by omega) oA253 (OwnK.Cn (d := kOp) hk244r) (chain hB_i hb243) (by omega) (by first | omega | (simp only [List.length_append, List.length_nil, List.length_cons]; omega)) ?_
    intro A247 c248 w249 hO250 hB251 hG252
    have hs_w249 := hB251.size
    have hgs_w249 := hG252.size
    have hO255 := OwnK.grown (d := (Kd.int .i64)) (OwnK.on (d := (Kd.int .i64)) hO1_i hb243) oA253 (by decide) hG252
    have hk257 := OwnK.blk_grown (hbg_i.on hb243) oA253 (.inr (by decide)) hG252
    have hk258 := OwnK.blk_grown (hb3_i.on hb243) oA253 (.inr (by decide)) hG252
    have hk259 := OwnK.blk_grown (hb2_i.on hb243) oA253 (.inr (by decide)) hG252
    have hk260 := OwnK.blk_grown (hb4_i.on hb243) oA253 (.inr (by decide)) hG252
    have hr254 := RRow.own (RRow.on hrr_i hb243) oA253 (by decide) hG252
    refine ru (.pointer (some ⟨g20, 4, none⟩)) ?_
    have hb265 := hk258
    refine rst hb265 4 [.slice A247 ((l2 ++ ([(fa, fb, fc, fd, fe)] : List OpL)).length) c248] #[.int .i64 x11, .int .i64 x33, .int .i64 x49, .slice Aq l1.length cq, .slice A247 ((l2 ++ ([(fa, fb, fc, fd, fe)] : List OpL)).length) c248, .slice none 0 0] ?_
    intro w262 hk263 hk264
    have hs_w262 := hk263.size
    refine rw_end ?_
    refine w_blk ?_
    refine w_region ?_
    refine rw1 (.int .i64 ((j2 + 1 : Nat) : Int)) ?_
    refine rv (.int .i64 ((j2 + 1 : Nat) : Int)) ?_
    refine rw_end ?_
    exact w_back (m2_ - 1) [(0, .pointer (some ⟨g, 0, none⟩)), (2, .pointer (some ⟨g2, 0, none⟩)), (3, .pointer (some ⟨g20, 0, none⟩)), (29, .int .i64 ((k127 : Nat) : Int)), (30, .int .i64 ((j2 + 1 : Nat) : Int))] (by omega) ⟨rfl, rfl, rfl, rfl, rfl, trivial⟩ ⟨(j2 + 1), (l2 ++ [(fa, fb, fc, fd, fe)]), si, Ai, ci, A247, c248, by omega, (hk263.below (by omega) hB251), (hk257.keep hk263 (by omega)), hk264, (hk259.keep hk263 (by omega)), (OwnK.mono (d := (Kd.int .i64)) (own_keep (d := (Kd.int .i64)) hO255 hk258 (by decide) hk263) (by omega)), (OwnK.mono (d := kOp) (own_keep (d := kOp) hO250 hk258 (by decide) hk263) (by omega)), ⟨(RRow.keep hr254 hk258 (by decide) hk263), hlo_i⟩, (by omega), (opsR_step hX1_0 hOF_), (by simp only [List.length_append, List.length_cons, List.length_nil]; omega), rfl⟩
  ·
   have l266 : ¬ (((j2 : Nat) : Int) < ((k127 : Nat) : Int)) := of_decide_eq_false c147
   refine w_exit rfl ?_
   refine w_seq ?_
   refine w_label ?_
   refine w_seq ?_
   refine wsr ?_
   refine rv (.pointer (some ⟨g, 0, none⟩)) ?_
   rcases hx269 : countR 16 sk with ⟨x270, s271⟩
   obtain ⟨k273, hm274, rfl, hl272⟩ := count_nat hx269 (by decide)
   refine rw_call rfl rfl rfl rfl (f := 59) (args := #[.pointer (some ⟨g, 0, none⟩), .int .i64 16]) (by simp [go_sem, sEv, sLook, nbeq, i64_w, -List.getD_eq_getElem?_getD]) (count_k w_L135 g w1.heap.size sk 16 _ s271 hx269 ⟨Ar2, cr2, hf137, hrr_w_L135, hlo_w_L135⟩ (by omega)) ?_
   rintro e_ w267 ⟨rfl, ⟨A275, c276, hb277, hr278, hl279⟩, hk268⟩
   refine ⟨_, rfl, ?_⟩
   have hs_w267 := hk268.size
   refine rv (.int .i64 0) ?_
   refine rw_end ?_
   refine w_block ?_
   have hE1_ : opsR k127 s125 = (l2, sk) := by rw [← (by omega : j2 = k127)]; exact hX1_0
   refine w_loop (fun m_ G W_ => ∃ (j3 : Nat) (l3 : List EL) (sl : RS) (Ar3 : Option Addr) (cr3 : Nat) (Ao : Option Addr) (co : Nat) (Bq : Nat), j3 + m_ = k273 ∧ Below w.heap.size w W_ ∧ (Blk W_ g 90 #[.slice Ar3 sl.xs.length cr3, .bool sl.bad]) ∧ (Blk W_ g20 26 #[.int .i64 x11, .int .i64 x33, .int .i64 x49, .slice Aq l1.length cq, .slice Ap l2.length cp, .slice Ao l3.length co]) ∧ (Blk W_ g2 26 #[.int .i64 0, .int .i64 0, .int .i64 0, .slice none 0 0, .slice none 0 0, .slice none 0 0]) ∧ (OwnK (Kd.int .i64) 3 W_ w.heap.size w1.heap.size Aq l1.length cq l1) ∧ (OwnK kOp 73 W_ w.heap.size w1.heap.size Ap l2.length cp l2) ∧ (OwnK kEntry 83 W_ w.heap.size w1.heap.size Ao l3.length co l3) ∧ (RRow W_ Ar3 sl.xs.length cr3 sl.xs ∧ Low Bq Ar3) ∧ (sl.xs.length ≤ 100000) ∧ (entsR j3 s271 = (l3, sl)) ∧ (l3.length = j3) ∧ G = [(0, .pointer (some ⟨g, 0, none⟩)), (2, .pointer (some ⟨g2, 0, none⟩)), (3, .pointer (some ⟨g20, 0, none⟩)), (58, .int .i64 ((k273 : Nat) : Int)), (59, .int .i64 ((j3 : Nat) : Int))]) k273 [(0, .pointer (some ⟨g, 0, none⟩)), (2, .pointer (some ⟨g2, 0, none⟩)), (3, .pointer (some ⟨g20, 0, none⟩)), (58, .int .i64 ((k273 : Nat) : Int)), (59, .int .i64 0)] ⟨0, [], s271, A275, c276, none, 0, w1.heap.size, by omega, (hk268.below (by omega) hB_L135), hb277, (hf138.keep hk268 (by omega)), (hf139.keep hk268 (by omega)), (OwnK.mono (d := (Kd.int .i64)) (own_keep (d := (Kd.int .i64)) hf140 hf137 (by decide) hk268) (by omega)), (OwnK.mono (d := kOp) (own_keep (d := kOp) hf141 hf137 (by decide) hk268) (by omega)), (OwnK.nil _ _ _ _ _), ⟨hr278, hl279⟩, (by omega), rfl, rfl, rfl⟩ ⟨rfl, rfl, rfl, rfl, rfl, trivial⟩ ?_
   rintro m4_ G w_L281 ⟨j3, l3, sl, Ar3, cr3, Ao, co, Bq, hp282, hB_L281, hf283, hf284, hf285, hf286, hf287, hf288, hf289, hf290, hf291, hf292, rfl⟩
   have hs_w_L281 := hB_L281.size
   obtain ⟨hrr_w_L281, hlo_w_L281⟩ := hf289
   have hlt_g20_w_L281 := hf284.lt
   have hlt_g2_w_L281 := hf285.lt
   have hX3_0 := hf291
   have hX3_1 := hf292
   refine wsr ?_
   refine rs (.bool (decide (((j3 : Nat) : Int) < ((k273 : Nat) : Int)))) ?_
   refine rw_end ?_
   refine w_seq ?_
   refine w_cond rfl rfl (fun c294 => ?_) (fun c294 => ?_)
   ·
    have l295 : (((j3 : Nat) : Int) < ((k273 : Nat) : Int)) := of_decide_eq_true c294
    refine w_skip ?_
    refine w_seq ?_
    refine w_block ?_
    refine w_seq ?_
    refine wsr ?_
    refine rv (.pointer (some ⟨g, 0, none⟩)) ?_
    refine rs (.pointer (some ⟨g, 0, none⟩)) ?_
    refine ru (.pointer (some ⟨g, 1, none⟩)) ?_
    refine rl hf283 1 (.bool sl.bad) ?_
    refine rw_end ?_
    refine w_cond rfl rfl (fun cBad => ?_) (fun cBad => ?_)
    ·
     refine w_exit rfl ?_
     refine wsr ?_
     refine rz (.agg #[.int .i64 x11, .int .i64 x33, .int .i64 x49, .slice Aq l1.length cq, .slice Ap l2.length cp, .slice Ao l3.length co]) (by have eb_ := hf284; have e0_ := eb_.cellv (i := 0) (v := (.int .i64 x11 : Value)) rfl; have e1_ := eb_.cellv (i := 1) (v := (.int .i64 x33 : Value)) rfl; have e2_ := eb_.cellv (i := 2) (v := (.int .i64 x49 : Value)) rfl; have e3_ := eb_.cellv (i := 3) (v := (.slice Aq l1.length cq : Value)) rfl; have e4_ := eb_.cellv (i := 4) (v := (.slice Ap l2.length cp : Value)) rfl; have e5_ := eb_.cellv (i := 5) (v := (.slice Ao l3.length co : Value)) rfl; simp [go_sem, sEv, sLook, nbeq, i64_w, -List.getD_eq_getElem?_getD, e0_, e1_, e2_, e3_, e4_, e5_, Try.underlying26]) ?_
     have hb299 := hf285
     refine rsa hb299 [.int .i64 x11, .int .i64 x33, .int .i64 x49, .slice Aq l1.length cq, .slice Ap l2.length cp, .slice Ao l3.length co] ?_
     intro w296 hk297 hk298
     have hs_w296 := hk297.size
     refine rw_end ?_
     refine w_retG (post_retc (v := .agg #[.int .i64 x11, .int .i64 x33, .int .i64 x49, .slice Aq l1.length cq, .slice Ap l2.length cp, .slice Ao l3.length co]) rfl rfl (by have eb_ := hk298; have e0_ := eb_.cellv (i := 0) (v := (.int .i64 x11 : Value)) rfl; have e1_ := eb_.cellv (i := 1) (v := (.int .i64 x33 : Value)) rfl; have e2_ := eb_.cellv (i := 2) (v := (.int .i64 x49 : Value)) rfl; have e3_ := eb_.cellv (i := 3) (v := (.slice Aq l1.length cq : Value)) rfl; have e4_ := eb_.cellv (i := 4) (v := (.slice Ap l2.length cp : Value)) rfl; have e5_ := eb_.cellv (i := 5) (v := (.slice Ao l3.length co : Value)) rfl; simp [go_sem, e0_, e1_, e2_, e3_, e4_, e5_, Try.underlying26]) ?_)
     have hE2_ : entsR k273 s271 = (l3, sl) := entsR_bad hX3_0 (by simpa using cBad) _ (by omega)
     rw [note_eq hx10 hx32 hx48 hx64 hE0_ hx123 hE1_ hx269 hE2_]
     exact ⟨_, _, _, _, _, _, rfl, (OwnK.mono (d := (Kd.int .i64)) (own_keep (d := (Kd.int .i64)) hf286 hf285 (by decide) hk297) (by omega)), (OwnK.mono (d := kOp) (own_keep (d := kOp) hf287 hf285 (by decide) hk297) (by omega)), (OwnK.mono (d := kEntry) (own_keep (d := kEntry) hf288 hf285 (by decide) hk297) (by omega)), ⟨_, _, (hf283.keep hk297 (by omega)), (RRow.keep hrr_w_L281 hf285 (by decide) hk297)⟩, (hk297.below (by omega) hB_L281)⟩
    ·
     refine w_skip ?_
     refine wsr ?_
     refine rv (.pointer (some ⟨g, 0, none⟩)) ?_
     rcases hx302 : nextR sl with ⟨x303, s304⟩
     have hl305 := next_le hx302
     refine rw_call rfl rfl rfl rfl (f := 58) (args := #[.pointer (some ⟨g, 0, none⟩)]) (by simp [go_sem, sEv, sLook, nbeq, i64_w, -List.getD_eq_getElem?_getD]) (next_k w_L281 g Bq sl x303 s304 hx302 ⟨Ar3, cr3, hf283, hrr_w_L281, hlo_w_L281⟩ (by omega)) ?_
     rintro e_ w300 ⟨rfl, ⟨A306, c307, hb308, hr309, hl310⟩, hk301⟩
     refine ⟨_, rfl, ?_⟩
     have hs_w300 := hk301.size
     refine rk (.agg #[.int .i64 x303, .int .i64 0]) ?_
     refine rk (.agg (earr (⟨x303, 0, CL.unit⟩ : EL))) ?_
     refine rw_new (cs := earr EL.zero) (t := 83) (fun g => .pointer (some ⟨g, 0, none⟩)) rfl rfl rfl rfl (by kernel_rfl) ?_
     intro g312 w313 hg317 hz316 hb314 hk315
     have hs_w313 := hb314.size
     refine rw_seg (g := g312) (off := 0) (ty := 83) (p := .tmp 6) (x := .tmp 68) (v := .agg (earr (⟨x303, 0, CL.unit⟩ : EL))) (cs' := earr (⟨x303, 0, CL.unit⟩ : EL)) rfl rfl rfl rfl rfl rfl hk315 (by show (sizeOf 83).run _ _ = .ok (earr _).size _; rw [earr_size]; kernel_rfl) (Nat.le_of_eq (by rw [Nat.zero_add]; exact (earr_size _).trans (earr_size _).symm)) (encE_one _) (seg_eall EL.zero (⟨x303, 0, CL.unit⟩ : EL)) ?_
     intro w318 hk319 hb320
     have hs_w318 := hk319.size
     refine rw_end ?_
     refine wsr ?_
     refine rv (.pointer (some ⟨g, 0, none⟩)) ?_
     rcases hx323 : nextR s304 with ⟨x324, s325⟩
     have hl326 := next_le hx323
     refine rw_call rfl rfl rfl rfl (f := 58) (args := #[.pointer (some ⟨g, 0, none⟩)]) (by simp [go_sem, sEv, sLook, nbeq, i64_w, -List.getD_eq_getElem?_getD]) (next_k w318 g Bq s304 x324 s325 hx323 ⟨A306, c307, ((hb308.on hb314).keep hk319 (by omega)), (RRow.keep (RRow.on hr309 hb314) hk315 (by decide) hk319), hl310⟩ (by omega)) ?_
     rintro e_ w321 ⟨rfl, ⟨A327, c328, hb329, hr330, hl331⟩, hk322⟩
     refine ⟨_, rfl, ?_⟩
     have hs_w321 := hk322.size
     refine ru (.pointer (some ⟨g312, 0, none⟩)) ?_
     refine ru (.pointer (some ⟨g312, 1, none⟩)) ?_
     refine rw_seg (g := g312) (off := 1) (ty := 3) (p := .tmp 72) (x := .tmp 70) (v := .int .i64 x324) (cs' := earr (⟨x303, x324, CL.unit⟩ : EL)) rfl rfl rfl rfl rfl rfl (hb320.keep hk322 (by omega)) (by kernel_rfl) (by rw [earr_size]; show 1 + 1 ≤ 76; decide) (by intro q hq; simp only [List.mem_cons, List.not_mem_nil, or_false, Value.cells] at hq; subst hq; rfl) (seg_ekey (⟨x303, 0, CL.unit⟩ : EL) x324) ?_
     intro w333 hk334 hb335
     have hs_w333 := hk334.size
     refine rw_end ?_
     refine wsr ?_
     refine rv (.pointer (some ⟨g, 0, none⟩)) ?_
     rcases hx338 : cellR s325 with ⟨cc339, s340⟩
     have hl341 := cell_le hx338
     refine rw_call rfl rfl rfl rfl (f := 60) (args := #[.pointer (some ⟨g, 0, none⟩)]) (by simp [go_sem, sEv, sLook, nbeq, i64_w, -List.getD_eq_getElem?_getD]) (cell_k w333 g s325 cc339 s340 hx338 (RDB.rd (B := Bq) ⟨A327, c328, (hb329.keep hk334 (by omega)), (RRow.keep hr330 (hb320.keep hk322 (by omega)) (by decide) hk334), hl331⟩) (by omega)) ?_
     rintro e_ w336 ⟨rfl, hrd343, hk337⟩
     refine ⟨_, rfl, ?_⟩
     obtain ⟨B342, A344, c345, hb346, hr347, hl348⟩ := hrd343.b
     have hB349 : Below w.heap.size w w336 := kg_below (hk334.below (by omega) (hk322.below (by omega) (hk319.below (by omega) (chain (hk301.below (by omega) hB_L281) hb314)))) hg0 hk337
     have hs_w336 := hB349.size
     have hgs_w336 := hk337.size
     have hb350 := (hb329.keep hk334 (by omega))
     have hk351 := blk_kg (((((hf284.keep hk301 (by omega)).on hb314).keep hk319 (by omega)).keep hk322 (by omega)).keep hk334 (by omega)) hk337 (by omega)
     have hk352 := blk_kg (((((hf285.keep hk301 (by omega)).on hb314).keep hk319 (by omega)).keep hk322 (by omega)).keep hk334 (by omega)) hk337 (by omega)
     have hk353 := blk_kg hb335 hk337 (by omega)
     have hO354 := own_kg (d := (Kd.int .i64)) (own_keep (d := (Kd.int .i64)) (own_keep (d := (Kd.int .i64)) (own_keep (d := (Kd.int .i64)) (OwnK.on (d := (Kd.int .i64)) (own_keep (d := (Kd.int .i64)) hf286 hf283 (by decide) hk301) hb314) hk315 (by decide) hk319) ((hb308.on hb314).keep hk319 (by omega)) (by decide) hk322) (hb320.keep hk322 (by omega)) (by decide) hk334) hb350 (by decide) hk337
     have hO355 := own_kg (d := kOp) (own_keep (d := kOp) (own_keep (d := kOp) (own_keep (d := kOp) (OwnK.on (d := kOp) (own_keep (d := kOp) hf287 hf283 (by decide) hk301) hb314) hk315 (by decide) hk319) ((hb308.on hb314).keep hk319 (by omega)) (by decide) hk322) (hb320.keep hk322 (by omega)) (by decide) hk334) hb350 (by decide) hk337
     refine ru (.pointer (some ⟨g312, 2, none⟩)) ?_
     refine rw_seg (g := g312) (off := 2) (ty := 81) (p := .tmp 75) (x := .tmp 74) (v := .agg (carr cc339)) (cs' := earr (⟨x303, x324, cc339⟩ : EL)) rfl rfl rfl rfl rfl rfl hk353 (by show (sizeOf 81).run _ _ = .ok (carr _).size _; rw [carr_size]; kernel_rfl) (by show 2 + (carr _).size ≤ _; rw [earr_size, carr_size]; decide) (encC_one _) (seg_ecell (⟨x303, x324, CL.unit⟩ : EL) cc339) ?_
     intro w357 hk358 hb359
     have hs_w357 := hk358.size
     refine rw_end ?_
     refine w_region ?_
     refine ru (.pointer (some ⟨g20, 5, none⟩)) ?_
     refine rl (hk351.keep hk358 (by omega)) 5 (.slice Ao l3.length co) ?_
     refine rz (.agg (earr (⟨x303, x324, cc339⟩ : EL))) (run_as (load_entry (x := (⟨x303, x324, cc339⟩ : EL)) hb359)) ?_
     refine rw_new (cs := (encE (⟨x303, x324, cc339⟩ : EL) : List Value).toArray) (t := 83) (fun g => .slice (some ⟨g, 0, none⟩) 1 1) rfl rfl rfl rfl (by kernel_rfl) ?_
     intro g360 w361 hg365 hz364 hb362 hk363
     have hs_w361 := hb362.size
     have hk363r : OwnK kEntry 83 w361 w.heap.size g360 (some ⟨g360, 0, none⟩) 1 1 ([(⟨x303, x324, cc339⟩ : EL)] : List EL) := flat_own (enc := encE) (hl1 := encE_len) (h1 := encE_one) (xs := ([(⟨x303, x324, cc339⟩ : EL)] : List EL)) (cap := 1) w.heap.size hk363 (by omega) (by simp) rfl (by simp) (by simp)
     have oA372 : OwnK kEntry 83 w361 w.heap.size w1.heap.size Ao l3.length co l3 := (own_kg (d := kEntry) hf288 hf283 (by decide) (kg_b (kg_s (kg_k (kg_s (kg_s (kg_s (kg_b (kg_s (kg_refl g w_L281) hk301 (.inl rfl)) hb314) hk319 (.inr (by omega))) hk322 (.inl rfl)) hk334 (.inr (by omega))) hk337) hk358 (.inr (by omega))) hb362))
     refine rw_append_kd (d := kEntry) w.heap.size rfl rfl rfl (.tmp 77) (.tmp 79) rfl rfl 24 83 (.agg (earr EL.zero)) 608 rfl (by kernel_rfl) (by kernel_rfl) rfl (show 0 < 76 by decide) (by decide) (fun _ _ h => h) (b := w1.heap.size) rfl rfl (by omega) oA372 (OwnK.Cn (d := kEntry) hk363r) (chain (hk358.below (by omega) hB349) hb362) (by omega) (by first | omega | (simp only [List.length_append, List.length_nil, List.length_cons]; omega)) ?_
     intro A366 c367 w368 hO369 hB370 hG371
     have hs_w368 := hB370.size
     have hgs_w368 := hG371.size
     have hO374 := OwnK.grown (d := (Kd.int .i64)) (OwnK.on (d := (Kd.int .i64)) (own_keep (d := (Kd.int .i64)) hO354 hk353 (by decide) hk358) hb362) oA372 (by decide) hG371
     have hO375 := OwnK.grown (d := kOp) (OwnK.on (d := kOp) (own_keep (d := kOp) hO355 hk353 (by decide) hk358) hb362) oA372 (by decide) hG371
     have hk377 := OwnK.blk_grown ((hk351.keep hk358 (by omega)).on hb362) oA372 (.inr (by decide)) hG371
     have hk378 := OwnK.blk_grown ((hk352.keep hk358 (by omega)).on hb362) oA372 (.inr (by decide)) hG371
     have hk379 := OwnK.blk_grown ((hb346.keep hk358 (by omega)).on hb362) oA372 (.inr (by decide)) hG371
     have hr373 := RRow.own (RRow.on (RRow.keep hr347 hk353 (by decide) hk358) hb362) oA372 (by decide) hG371
     refine ru (.pointer (some ⟨g20, 5, none⟩)) ?_
     have hb384 := hk377
     refine rst hb384 5 [.slice A366 ((l3 ++ ([(⟨x303, x324, cc339⟩ : EL)] : List EL)).length) c367] #[.int .i64 x11, .int .i64 x33, .int .i64 x49, .slice Aq l1.length cq, .slice Ap l2.length cp, .slice A366 ((l3 ++ ([(⟨x303, x324, cc339⟩ : EL)] : List EL)).length) c367] ?_
     intro w381 hk382 hk383
     have hs_w381 := hk382.size
     refine rw_end ?_
     refine w_blk ?_
     refine w_region ?_
     refine rw1 (.int .i64 ((j3 + 1 : Nat) : Int)) ?_
     refine rv (.int .i64 ((j3 + 1 : Nat) : Int)) ?_
     refine rw_end ?_
     exact w_back (m4_ - 1) [(0, .pointer (some ⟨g, 0, none⟩)), (2, .pointer (some ⟨g2, 0, none⟩)), (3, .pointer (some ⟨g20, 0, none⟩)), (58, .int .i64 ((k273 : Nat) : Int)), (59, .int .i64 ((j3 + 1 : Nat) : Int))] (by omega) ⟨rfl, rfl, rfl, rfl, rfl, trivial⟩ ⟨(j3 + 1), (l3 ++ [(⟨x303, x324, cc339⟩ : EL)]), s340, A344, c345, A366, c367, B342, by omega, (hk382.below (by omega) hB370), (hk379.keep hk382 (by omega)), hk383, (hk378.keep hk382 (by omega)), (OwnK.mono (d := (Kd.int .i64)) (own_keep (d := (Kd.int .i64)) hO374 hk377 (by decide) hk382) (by omega)), (OwnK.mono (d := kOp) (own_keep (d := kOp) hO375 hk377 (by decide) hk382) (by omega)), (OwnK.mono (d := kEntry) (own_keep (d := kEntry) hO369 hk377 (by decide) hk382) (by omega)), ⟨(RRow.keep hr373 hk377 (by decide) hk382), hl348⟩, (by omega), (entsR_step hX3_0 (by simpa using cBad) hx302 hx323 hx338), (by simp only [List.length_append, List.length_cons, List.length_nil]; omega), rfl⟩
   ·
    have l385 : ¬ (((j3 : Nat) : Int) < ((k273 : Nat) : Int)) := of_decide_eq_false c294
    refine w_exit rfl ?_
    refine wsr ?_
    refine rz (.agg #[.int .i64 x11, .int .i64 x33, .int .i64 x49, .slice Aq l1.length cq, .slice Ap l2.length cp, .slice Ao l3.length co]) (by have eb_ := hf284; have e0_ := eb_.cellv (i := 0) (v := (.int .i64 x11 : Value)) rfl; have e1_ := eb_.cellv (i := 1) (v := (.int .i64 x33 : Value)) rfl; have e2_ := eb_.cellv (i := 2) (v := (.int .i64 x49 : Value)) rfl; have e3_ := eb_.cellv (i := 3) (v := (.slice Aq l1.length cq : Value)) rfl; have e4_ := eb_.cellv (i := 4) (v := (.slice Ap l2.length cp : Value)) rfl; have e5_ := eb_.cellv (i := 5) (v := (.slice Ao l3.length co : Value)) rfl; simp [go_sem, sEv, sLook, nbeq, i64_w, -List.getD_eq_getElem?_getD, e0_, e1_, e2_, e3_, e4_, e5_, Try.underlying26]) ?_
    have hb389 := hf285
    refine rsa hb389 [.int .i64 x11, .int .i64 x33, .int .i64 x49, .slice Aq l1.length cq, .slice Ap l2.length cp, .slice Ao l3.length co] ?_
    intro w386 hk387 hk388
    have hs_w386 := hk387.size
    refine rw_end ?_
    refine w_retG (post_retc (v := .agg #[.int .i64 x11, .int .i64 x33, .int .i64 x49, .slice Aq l1.length cq, .slice Ap l2.length cp, .slice Ao l3.length co]) rfl rfl (by have eb_ := hk388; have e0_ := eb_.cellv (i := 0) (v := (.int .i64 x11 : Value)) rfl; have e1_ := eb_.cellv (i := 1) (v := (.int .i64 x33 : Value)) rfl; have e2_ := eb_.cellv (i := 2) (v := (.int .i64 x49 : Value)) rfl; have e3_ := eb_.cellv (i := 3) (v := (.slice Aq l1.length cq : Value)) rfl; have e4_ := eb_.cellv (i := 4) (v := (.slice Ap l2.length cp : Value)) rfl; have e5_ := eb_.cellv (i := 5) (v := (.slice Ao l3.length co : Value)) rfl; simp [go_sem, e0_, e1_, e2_, e3_, e4_, e5_, Try.underlying26]) ?_)
    have hE2_ : entsR k273 s271 = (l3, sl) := by rw [← (by omega : j3 = k273)]; exact hX3_0
    rw [note_eq hx10 hx32 hx48 hx64 hE0_ hx123 hE1_ hx269 hE2_]
    exact ⟨_, _, _, _, _, _, rfl, (OwnK.mono (d := (Kd.int .i64)) (own_keep (d := (Kd.int .i64)) hf286 hf285 (by decide) hk387) (by omega)), (OwnK.mono (d := kOp) (own_keep (d := kOp) hf287 hf285 (by decide) hk387) (by omega)), (OwnK.mono (d := kEntry) (own_keep (d := kEntry) hf288 hf285 (by decide) hk387) (by omega)), ⟨_, _, (hf283.keep hk387 (by omega)), (RRow.keep hrr_w_L281 hf285 (by decide) hk387)⟩, (hk387.below (by omega) hB_L281)⟩
end Go.Proofs.Ytbbhdohjhipalaa.Ce
end
section
namespace Go.Proofs.Ytbbhdohjhipalaa.Ce
open Go.RowKit Go.Proofs.YtbbhdohjhipalaaW.PrintWords Go.Proofs.YtbbhdohjhipalaaW.PrintLast Go.Proofs.YtbbhdohjhipalaaW.PrintMore
open Go.Proofs.Ytbbhdohjhipalaa.Flow Go.Proofs.Ytbbhdohjhipalaa.PNoteReads
set_option linter.unusedVariables false
theorem nextR_c (x : Int) (r : List Int) (b : Bool) : nextR ⟨x :: r, b⟩ = (x, ⟨r, b⟩) := rfl
theorem countR_c (k : Nat) (m : Int) (r : List Int) (b : Bool) (h : (k : Int) ≤ m) : countR m ⟨(k : Int) :: r, b⟩ = ((k : Int), ⟨r, b⟩) := by
  unfold countR
  rw [nextR_c]
  exact if_neg (by simp only; omega)
theorem numsR_app (l r : List Int) (b : Bool) : ∀ k, k ≤ l.length → numsR k ⟨l ++ r, b⟩ = (l.take k, ⟨l.drop k ++ r, b⟩)
  | 0, _ => by simp [numsR]
  | k + 1, h => by
    have ih := numsR_app l r b k (by omega)
    have e : l.drop k = l[k] :: l.drop (k + 1) := List.drop_eq_getElem_cons (by omega)
    simp only [numsR, ih]
    rw [e, List.cons_append, nextR_c, List.take_succ_eq_append_getElem (by omega)]
theorem opsR_app (l : List OpL) (r : List Int) (b : Bool) : ∀ k, k ≤ l.length → opsR k ⟨opsL l ++ r, b⟩ = (l.take k, ⟨opsL (l.drop k) ++ r, b⟩)
  | 0, _ => by simp [opsR]
  | k + 1, h => by
    have ih := opsR_app l r b k (by omega)
    have e : l.drop k = l[k] :: l.drop (k + 1) := List.drop_eq_getElem_cons (by omega)
    have e2 : opsL (l.drop k) ++ r = l[k].1 :: l[k].2.1 :: l[k].2.2.1 :: l[k].2.2.2.1 :: l[k].2.2.2.2 :: (opsL (l.drop (k + 1)) ++ r) := by
      rw [e]
      rfl
    simp only [opsR, ih, e2]
    rw [List.take_succ_eq_append_getElem (by omega)]
    rfl
theorem entsR_app (l : List EL) (r : List Int) (hl : ∀ x ∈ l, LoOk x.c) : ∀ k, k ≤ l.length → entsR k ⟨entsL l ++ r, false⟩ = (l.take k, ⟨entsL (l.drop k) ++ r, false⟩)
  | 0, _ => by simp [entsR]
  | k + 1, h => by
    have ih := entsR_app l r hl k (by omega)
    have e : l.drop k = l[k] :: l.drop (k + 1) := List.drop_eq_getElem_cons (by omega)
    have e2 : entsL (l.drop k) ++ r = l[k].win :: l[k].key :: (numsC l[k].c ++ (entsL (l.drop (k + 1)) ++ r)) := by
      rw [e]
      show (entL l[k] ++ entsL (l.drop (k + 1))) ++ r = _
      unfold entL
      simp only [List.append_assoc, List.cons_append, List.nil_append]
    have e3 := takeC_back l[k].c (entsL (l.drop (k + 1)) ++ r) (hl _ (List.getElem_mem (by omega)))
    have e4 : cellR ⟨numsC l[k].c ++ (entsL (l.drop (k + 1)) ++ r), false⟩ = (l[k].c, ⟨entsL (l.drop (k + 1)) ++ r, false⟩) := cell_yes e3
    rw [entsR_step ih rfl (by rw [e2]; exact nextR_c _ _ _) (nextR_c _ _ _) e4, List.take_succ_eq_append_getElem (by omega)]
theorem note_back {n : NT} (h1 : n.nums.length ≤ 64) (h2 : n.ops.length ≤ 16) (h3 : n.ents.length ≤ 16) (hl : ∀ x ∈ n.ents, LoOk x.c) : noteR ⟨listN n, false⟩ = (n, ⟨[], false⟩) := by
  have e0 : listN n = n.kind :: n.fr :: n.tw :: (n.nums.length : Int) :: (n.nums ++ ((n.ops.length : Int) :: (opsL n.ops ++ ((n.ents.length : Int) :: (entsL n.ents ++ []))))) := by
    unfold listN
    simp
  rw [e0]
  have a5 := numsR_app n.nums ((n.ops.length : Int) :: (opsL n.ops ++ ((n.ents.length : Int) :: (entsL n.ents ++ [])))) false n.nums.length (Nat.le_refl _)
  rw [List.take_length, List.drop_length] at a5
  have a7 := opsR_app n.ops ((n.ents.length : Int) :: (entsL n.ents ++ [])) false n.ops.length (Nat.le_refl _)
  rw [List.take_length, List.drop_length] at a7
  have a9 := entsR_app n.ents [] hl n.ents.length (Nat.le_refl _)
  rw [List.take_length, List.drop_length] at a9
  exact note_eq (nextR_c _ _ _) (nextR_c _ _ _) (nextR_c _ _ _) (countR_c _ _ _ _ (by omega)) a5 (countR_c _ _ _ _ (by omega)) a7 (countR_c _ _ _ _ (by omega)) a9
theorem numsR_len0 : ∀ (k : Nat) (s : RS), (numsR k s).1.length = k
  | 0, s => rfl
  | k + 1, s => by simp only [numsR, List.length_append, List.length_cons, List.length_nil, numsR_len0 k s]
theorem opsR_len0 : ∀ (k : Nat) (s : RS), (opsR k s).1.length = k
  | 0, s => rfl
  | k + 1, s => by simp only [opsR, List.length_append, List.length_cons, List.length_nil, opsR_len0 k s]
theorem nextR_s {s s2 : RS} {x : Int} (h : nextR s = (x, s2)) (hb : s2.bad = false) : s.bad = false ∧ s.xs = x :: s2.xs := by
  unfold nextR at h
  split at h
  · cases h
    cases hb
  · rename_i e
    cases h
    exact ⟨hb, e⟩
theorem countR_s {s s2 : RS} {m y : Int} (h : countR m s = (y, s2)) (hb : s2.bad = false) : s.bad = false ∧ s.xs = y :: s2.xs := by
  unfold countR at h
  split at h
  · cases h
    cases hb
  · exact nextR_s h hb
theorem numsR_s {s : RS} : ∀ (k : Nat) {s2 : RS} {l : List Int}, numsR k s = (l, s2) → s2.bad = false → s.bad = false ∧ s.xs = l ++ s2.xs
  | 0, s2, l, h, hb => by
    cases h
    exact ⟨hb, rfl⟩
  | k + 1, s2, l, h, hb => by
    rcases e1 : numsR k s with ⟨l1, sa⟩
    rcases e2 : nextR sa with ⟨x, sb⟩
    rw [numsR_step e1 e2] at h
    cases h
    obtain ⟨h1, h2⟩ := nextR_s e2 hb
    obtain ⟨h3, h4⟩ := numsR_s k e1 h1
    exact ⟨h3, by rw [h4, h2, List.append_assoc]; rfl⟩
theorem opsR_s {s : RS} : ∀ (k : Nat) {s2 : RS} {l : List OpL}, opsR k s = (l, s2) → s2.bad = false → s.bad = false ∧ s.xs = opsL l ++ s2.xs
  | 0, s2, l, h, hb => by
    cases h
    exact ⟨hb, rfl⟩
  | k + 1, s2, l, h, hb => by
    rcases e1 : opsR k s with ⟨l1, sa⟩
    rcases f1 : nextR sa with ⟨x1, b1⟩
    rcases f2 : nextR b1 with ⟨x2, b2⟩
    rcases f3 : nextR b2 with ⟨x3, b3⟩
    rcases f4 : nextR b3 with ⟨x4, b4⟩
    rcases f5 : nextR b4 with ⟨x5, b5⟩
    rw [opsR_step e1 (of_5 (of_4 (of_3 (of_2 (of_1 (of_0 sa) f1) f2) f3) f4) f5)] at h
    cases h
    obtain ⟨h5, g5⟩ := nextR_s f5 hb
    obtain ⟨h4, g4⟩ := nextR_s f4 h5
    obtain ⟨h3, g3⟩ := nextR_s f3 h4
    obtain ⟨h2, g2⟩ := nextR_s f2 h3
    obtain ⟨h1, g1⟩ := nextR_s f1 h2
    obtain ⟨h0, g0⟩ := opsR_s k e1 h1
    refine ⟨h0, ?_⟩
    rw [g0, g1, g2, g3, g4, g5]
    simp [opsL, opL]
theorem cellR_s {s s2 : RS} {c : CL} (h : cellR s = (c, s2)) (hb : s2.bad = false) (hI : ∀ x ∈ s.xs, I64 x) : s.bad = false ∧ s.xs = numsC c ++ s2.xs := by
  unfold cellR at h
  split at h
  · cases h
    cases hb
  · rename_i c1 r1 e
    cases h
    have h2 : I64 (s.xs.getD 2 0) := by
      rw [List.getD_eq_getElem?_getD]
      rcases Nat.lt_or_ge 2 s.xs.length with hl | hl
      · rw [List.getElem?_eq_getElem hl]
        exact hI _ (List.getElem_mem hl)
      · rw [List.getElem?_eq_none hl]
        exact ⟨by decide, by decide⟩
    exact ⟨hb, (takeC_nums e h2).1.symm⟩
theorem entsR_s {s : RS} (hI : ∀ x ∈ s.xs, I64 x) : ∀ (k : Nat) {s2 : RS} {l : List EL}, entsR k s = (l, s2) → s2.bad = false → s.bad = false ∧ s.xs = entsL l ++ s2.xs ∧ l.length = k
  | 0, s2, l, h, hb => by
    cases h
    exact ⟨hb, rfl, rfl⟩
  | k + 1, s2, l, h, hb => by
    rcases e1 : entsR k s with ⟨l1, sa⟩
    rcases f1 : nextR sa with ⟨x1, b1⟩
    rcases f2 : nextR b1 with ⟨x2, b2⟩
    rcases f3 : cellR b2 with ⟨c, b3⟩
    cases hsa : sa.bad with
    | true =>
      rw [entsR_bad e1 hsa (k + 1) (by omega)] at h
      cases h
      rw [hsa] at hb
      cases hb
    | false =>
      rw [entsR_step e1 hsa f1 f2 f3] at h
      cases h
      obtain ⟨h0, g0, l0⟩ := entsR_s hI k e1 hsa
      have hI2 : ∀ x ∈ sa.xs, I64 x := fun x hx => hI x (by rw [g0]; exact List.mem_append_right _ hx)
      have n1 := next_le f1
      have hb2 : b2.bad = false := by
        cases e : b2.bad with
        | false => rfl
        | true =>
          unfold cellR at f3
          split at f3
          · cases f3
            cases hb
          · cases f3
            rw [e] at hb
            cases hb
      obtain ⟨h2, g2⟩ := nextR_s f2 hb2
      obtain ⟨h1, g1⟩ := nextR_s f1 h2
      have hI3 : ∀ x ∈ b2.xs, I64 x := fun x hx => hI2 x (by rw [g1, g2]; simp [hx])
      obtain ⟨h3, g3⟩ := cellR_s f3 hb hI3
      refine ⟨h0, ?_, by simp [l0]⟩
      rw [g0, g1, g2, g3]
      simp [entsL, entL]
theorem note_sound {l : List Int} {n : NT} {s9 : RS} (hI : ∀ x ∈ l, I64 x) (h : noteR ⟨l, false⟩ = (n, s9)) (hb : s9.bad = false) (hx : s9.xs = []) : listN n = l := by
  rcases h1 : nextR ⟨l, false⟩ with ⟨x1, s1⟩
  rcases h2 : nextR s1 with ⟨x2, s2⟩
  rcases h3 : nextR s2 with ⟨x3, s3⟩
  rcases h4 : countR 64 s3 with ⟨y1, s4⟩
  obtain ⟨k1, _, rfl, _⟩ := count_nat h4 (by decide)
  rcases h5 : numsR k1 s4 with ⟨l1, s5⟩
  rcases h6 : countR 16 s5 with ⟨y2, s6⟩
  obtain ⟨k2, _, rfl, _⟩ := count_nat h6 (by decide)
  rcases h7 : opsR k2 s6 with ⟨l2, s7⟩
  rcases h8 : countR 16 s7 with ⟨y3, s8⟩
  obtain ⟨k3, _, rfl, _⟩ := count_nat h8 (by decide)
  rcases h9 : entsR k3 s8 with ⟨l3, sz⟩
  rw [note_eq h1 h2 h3 h4 h5 h6 h7 h8 h9] at h
  cases h
  have hb8 : s8.bad = false := by
    cases e : s8.bad with
    | false => rfl
    | true =>
      have q := entsR_bad (s := s8) (j := 0) rfl e k3 (Nat.zero_le _)
      rw [q] at h9
      cases h9
      rw [e] at hb
      cases hb
  obtain ⟨a8, g8⟩ := countR_s h8 hb8
  obtain ⟨a7, g7⟩ := opsR_s k2 h7 a8
  obtain ⟨a6, g6⟩ := countR_s h6 a7
  obtain ⟨a5, g5⟩ := numsR_s k1 h5 a6
  obtain ⟨a4, g4⟩ := countR_s h4 a5
  obtain ⟨a3, g3⟩ := nextR_s h3 a4
  obtain ⟨a2, g2⟩ := nextR_s h2 a3
  obtain ⟨a1, g1⟩ := nextR_s h1 a2
  have g1' : l = x1 :: s1.xs := g1
  have e0 : l = x1 :: x2 :: x3 :: (k1 : Int) :: (l1 ++ ((k2 : Int) :: (opsL l2 ++ ((k3 : Int) :: s8.xs)))) := by rw [g1', g2, g3, g4, g5, g6, g7, g8]
  have hI8 : ∀ x ∈ s8.xs, I64 x := fun x hx => hI x (by rw [e0]; simp [hx])
  obtain ⟨_, g9, n3⟩ := entsR_s hI8 k3 h9 hb
  have n1 : l1.length = k1 := by have q := numsR_len0 k1 s4; rw [h5] at q; exact q
  have n2 : l2.length = k2 := by have q := opsR_len0 k2 s6; rw [h7] at q; exact q
  rw [hx, List.append_nil] at g9
  rw [e0, g9]
  unfold listN
  simp [n1, n2, n3]
end Go.Proofs.Ytbbhdohjhipalaa.Ce
end
section
namespace Go.Proofs.Ytbbhdohjhipalaa.Ce
open Go.RowKit Go.Proofs.YtbbhdohjhipalaaW.PrintWords Go.Proofs.YtbbhdohjhipalaaW.PrintLast Go.Proofs.YtbbhdohjhipalaaW.PrintMore
open Go.Proofs.Ytbbhdohjhipalaa.Flow Go.Proofs.Ytbbhdohjhipalaa.PNoteReads
set_option linter.unusedVariables false
set_option linter.unusedSimpArgs false
theorem err_same (o : Option Int) : PNoteReads.errW o = errT o := by cases o <;> rfl
def NL (b : List Int) : List Int := (numsP (b.length + 1) b 4096 []).1
def NO (b : List Int) : Bool := (numsP (b.length + 1) b 4096 []).2
theorem NL_len (b : List Int) (hb : Bytes b) (hl : b.length ≤ 1000000) : (NL b).length ≤ 1000000 := (nums_both b.length b [] 4096 (b.length + 32) (b.length + 1) (Nat.le_refl _) hb (Nat.le_refl _) (by omega) (.inl rfl) (by simpa using hl)).2
theorem fnums (w : World) (A0 : Option Addr) (c0 : Nat) (b : List Int) (base bb : Nat) (hO : OwnK (Kd.int .u8) 5 w base bb A0 b.length c0 b) (hb : Bytes b) (hl : b.length ≤ 1000000) : Calls Try.prog 37 #[.slice A0 b.length c0, .int .i64 4096] w fun e w' => ∃ A' c', e = .returned (.tuple #[.slice A' (NL b).length c', errT (if NO b = true then none else some 3)]) ∧ OwnK (Kd.int .i64) 3 w' w.heap.size w.heap.size A' (NL b).length c' (NL b) ∧ Below w.heap.size w w' := by
  have h := (nums_both b.length b [] 4096 (b.length + 32) (b.length + 1) (Nat.le_refl _) hb (Nat.le_refl _) (by omega) (.inl rfl) (by simpa using hl)).1
  refine (frame_Nums.calls (b.length + 32) (fun q => bb ≤ q) A0 c0 b 4096 _ _ w (Kd.R_V hO) h).mono ?_
  rintro e w' ⟨v0, rfl, hR, hB⟩
  obtain ⟨A', c', rfl, hle, hR2⟩ := R_shape hR
  exact ⟨A', c', by rw [err_same]; rfl, hR2, hB⟩
theorem fnums_no (w : World) (A0 : Option Addr) (c0 : Nat) (b : List Int) (base bb : Nat) (hO : OwnK (Kd.int .u8) 5 w base bb A0 b.length c0 b) (hb : Bytes b) (hl : b.length ≤ 1000000) (ho : NO b = false) : Calls Try.prog 37 #[.slice A0 b.length c0, .int .i64 4096] w fun e w' => ∃ A' c', e = .returned (.tuple #[.slice A' (NL b).length c', errT (some 3)]) ∧ OwnK (Kd.int .i64) 3 w' w.heap.size w.heap.size A' (NL b).length c' (NL b) ∧ Below w.heap.size w w' := by
  have h := fnums w A0 c0 b base bb hO hb hl
  rw [ho] at h
  exact h
theorem fnums_yes (w : World) (A0 : Option Addr) (c0 : Nat) (b : List Int) (base bb : Nat) (hO : OwnK (Kd.int .u8) 5 w base bb A0 b.length c0 b) (hb : Bytes b) (hl : b.length ≤ 1000000) (ho : NO b = true) : Calls Try.prog 37 #[.slice A0 b.length c0, .int .i64 4096] w fun e w' => ∃ A' c', e = .returned (.tuple #[.slice A' (NL b).length c', .nilIface]) ∧ OwnK (Kd.int .i64) 3 w' w.heap.size w.heap.size A' (NL b).length c' (NL b) ∧ Below w.heap.size w w' := by
  have h := fnums w A0 c0 b base bb hO hb hl
  rw [ho] at h
  exact h
theorem funwrap_no (w : World) (A0 : Option Addr) (c0 : Nat) (b : List Int) (hC : (Kd.int .u8).C w A0 b.length b) (hc : b.length ≤ c0) (hb : Bytes b) (hl : b.length ≤ 1000000) (hw : wholeP b = 0) : Calls Try.prog 36 #[.slice A0 b.length c0] w fun e w' => ∃ A1 n1 c1 A2 n2 c2, e = .returned (.tuple #[.slice A1 n1 c1, .slice A2 n2 c2, errT (some 3)]) ∧ Below w.heap.size w w' := by
  refine (unwrap_calls w A0 c0 b hC hc hb hl).mono ?_
  rintro e w' ⟨A1, n1, c1, A2, n2, c2, m, rfl, h1, h2, h3, h4, h5, h6⟩
  exact ⟨A1, n1, c1, A2, n2, c2, by rw [err_same]; unfold UE; rw [if_pos hw], h6⟩
theorem funwrap_yes (w : World) (A0 : Option Addr) (c0 : Nat) (b : List Int) (hC : (Kd.int .u8).C w A0 b.length b) (hc : b.length ≤ c0) (hb : Bytes b) (hl : b.length ≤ 1000000) (hw : wholeP b ≠ 0) : Calls Try.prog 36 #[.slice A0 b.length c0] w fun e w' => ∃ A1 c1 A2 c2, e = .returned (.tuple #[.slice A1 (UN b).length c1, .slice A2 (UR b).length c2, .nilIface]) ∧ OwnK (Kd.int .u8) 5 w' w.heap.size w.heap.size A1 (UN b).length c1 (UN b) ∧ Below w.heap.size w w' := by
  refine (unwrap_calls w A0 c0 b hC hc hb hl).mono ?_
  rintro e w' ⟨A1, n1, c1, A2, n2, c2, m, rfl, h1, h2, h3, h4, h5, h6⟩
  have e1 := OwnK.len (d := Kd.int .u8) h1
  have e2 := OwnK.len (d := Kd.int .u8) h2
  subst e1
  subst e2
  exact ⟨A1, c1, A2, c2, by rw [err_same]; unfold UE; rw [if_neg hw]; rfl, h1, h6⟩
theorem UN_le (b : List Int) : (UN b).length ≤ b.length := by
  unfold UN
  split
  · simp
  · rw [List.length_drop, List.length_take]
    omega
theorem UN_bytes {b : List Int} (hb : Bytes b) : Bytes (UN b) := by
  unfold UN
  split
  · intro x hx
    simp at hx
  · exact (hb.take _).drop _
theorem fput0 (w : World) (DA : Option Addr) (dc : Nat) (ys : List Int) (hC1 : (Kd.int .i64).C w DA ys.length ys) (hc1 : ys.length ≤ dc) (hy : ∀ y ∈ ys, I64 y) (hl : ys.length ≤ 1000000) : Calls Try.prog 28 #[.slice none 0 0, .slice DA ys.length dc] w fun e w' => ∃ A' c', e = .returned (.slice A' (PB ys).length c') ∧ OwnK (Kd.int .u8) 5 w' w.heap.size w.heap.size A' (PB ys).length c' (PB ys) ∧ Below w.heap.size w w' := by
  refine (put_behind w none 0 0 [] ⟨rfl, by simp, fun h => absurd h (by decide)⟩ (by simp) rfl DA dc ys hC1 hc1 hy hl).mono ?_
  rintro e w' ⟨A', n', c', rfl, h1, h2⟩
  have e1 := OwnK.len (d := Kd.int .u8) h1
  rw [List.nil_append] at h1 e1
  subst e1
  exact ⟨A', c', rfl, h1, h2⟩
theorem fwrap1 (w : World) (A0 : Option Addr) (c0 : Nat) (p : List Int) (hP : (Kd.slice 5 (Kd.int .u8)).C w A0 [p].length [p]) (hc0 : 1 ≤ c0) (hl : p.length ≤ 140737488355328) : Calls Try.prog 27 #[.slice A0 1 c0] w fun e w' => ∃ A' c', e = .returned (.tuple #[.slice A' (frameB p).length c', errT (frameE p)]) ∧ OwnK (Kd.int .u8) 5 w' w.heap.size w.heap.size A' (frameB p).length c' (frameB p) ∧ Below w.heap.size w w' := by
  refine (wrap_calls w A0 c0 [p] hP hc0 (by simp) (by simpa using hl)).mono ?_
  rintro e w' ⟨A', n', c', rfl, h1, h2⟩
  rw [show [p].flatten = p by simp] at h1 ⊢
  have e1 := OwnK.len (d := Kd.int .u8) h1
  subst e1
  exact ⟨A', c', by rw [err_same], h1, h2⟩
theorem low_own {w : World} {base b : Nat} {A : Option Addr} {n c : Nat} {xs : List Int} (h : OwnK (Kd.int .i64) 3 w base b A n c xs) : Low w.heap.size A := fun ad e => by
  subst e
  exact (own_lt h (q := ad.block) rfl).2
def EB (n : NT) : List Int := if goodN n = true then frameB (PB (listN n)) else []
def EE (n : NT) : Option Int := if goodN n = true then frameE (PB (listN n)) else some 2
def decN (b : List Int) : NT × Option Int :=
  if wholeP b = 0 ∨ 0 < (UR b).length then (NT.zero, some 3)
  else if NO (UN b) = false then (NT.zero, some 4)
  else if (noteR ⟨NL (UN b), false⟩).2.bad = true ∨ 0 < (noteR ⟨NL (UN b), false⟩).2.xs.length ∨ goodN (noteR ⟨NL (UN b), false⟩).1 = false then (NT.zero, some 4)
  else ((noteR ⟨NL (UN b), false⟩).1, none)
theorem good_sz {n : NT} (h : goodN n = true) : n.nums.length ≤ 39 ∧ n.ops.length ≤ 16 ∧ n.ents.length ≤ 16 := by
  have hs : shapeK n.kind ≠ none := fun e => by rw [good_no e] at h; cases h
  rcases e : shapeK n.kind with _ | ⟨a, b, c⟩
  · exact absurd e hs
  · obtain ⟨⟨h1, h2, h3, h4, h5, h6, h7, h8, h9, h10, h11⟩, h12⟩ := (good_iff e).1 h
    refine ⟨?_, h8, h10⟩
    unfold shapeK at e
    repeat' split at e
    all_goals first | (cases e; omega) | cases e
theorem numsR_len : ∀ (k : Nat) (s : RS), (numsR k s).1.length = k
  | 0, s => rfl
  | k + 1, s => by simp only [numsR, List.length_append, List.length_cons, List.length_nil, numsR_len k s]
theorem opsR_len : ∀ (k : Nat) (s : RS), (opsR k s).1.length = k
  | 0, s => rfl
  | k + 1, s => by simp only [opsR, List.length_append, List.length_cons, List.length_nil, opsR_len k s]
theorem entsR_len : ∀ (k : Nat) (s : RS), (entsR k s).1.length ≤ k
  | 0, s => Nat.le_refl _
  | k + 1, s => by
    have h := entsR_len k s
    simp only [entsR]
    split
    · omega
    · simp only [List.length_append, List.length_cons, List.length_nil]
      omega
theorem countR_le (m : Int) (s : RS) (hm : 0 ≤ m) : (countR m s).1.toNat ≤ m.toNat := by
  rcases h : countR m s with ⟨y, s2⟩
  obtain ⟨k, h1, rfl, _⟩ := count_nat h hm
  simp only [Int.toNat_natCast]
  omega
theorem note_sz (s : RS) : (noteR s).1.nums.length ≤ 64 ∧ (noteR s).1.ops.length ≤ 16 ∧ (noteR s).1.ents.length ≤ 16 := by
  simp only [noteR]
  refine ⟨?_, ?_, ?_⟩
  · rw [numsR_len]
    exact countR_le 64 _ (by decide)
  · rw [opsR_len]
    exact countR_le 16 _ (by decide)
  · exact Nat.le_trans (entsR_len _ _) (countR_le 16 _ (by decide))
end Go.Proofs.Ytbbhdohjhipalaa.Ce
end
section
namespace Go.Proofs.Ytbbhdohjhipalaa.Ce
open Go.RowKit Go.Proofs.YtbbhdohjhipalaaW.PrintWords Go.Proofs.YtbbhdohjhipalaaW.PrintLast Go.Proofs.YtbbhdohjhipalaaW.PrintMore
open Go.Proofs.Ytbbhdohjhipalaa.Flow
open Go.Proofs.Ytbbhdohjhipalaa.PNoteReads
set_option linter.unusedVariables false
set_option linter.unusedSimpArgs false
theorem check_no (w : World) (n : NT) (A3 : Option Addr) (c3 : Nat) (A4 : Option Addr) (c4 : Nat) (A5 : Option Addr) (c5 : Nat) (hn3 : (Kd.int .i64).C w A3 n.nums.length n.nums) (hc3 : n.nums.length ≤ c3) (hn4 : kOp.C w A4 n.ops.length n.ops) (hc4 : n.ops.length ≤ c4) (hn5 : kEntry.C w A5 n.ents.length n.ents) (hc5 : n.ents.length ≤ c5) (hk3 : n.nums.length ≤ 140737488355328) (hk4 : n.ops.length ≤ 140737488355328) (hk5 : n.ents.length ≤ 140737488355328) (hg : goodN n = false) : Calls Try.prog 15 #[.agg #[.int .i64 n.kind, .int .i64 n.fr, .int .i64 n.tw, .slice A3 n.nums.length c3, .slice A4 n.ops.length c4, .slice A5 n.ents.length c5]] w fun e w' => e = .returned (errT (some 2)) ∧ Below w.heap.size w w' := by
  have h := check_calls w n A3 c3 A4 c4 A5 c5 hn3 hc3 hn4 hc4 hn5 hc5 hk3 hk4 hk5
  rw [hg] at h
  exact h
theorem check_yes (w : World) (n : NT) (A3 : Option Addr) (c3 : Nat) (A4 : Option Addr) (c4 : Nat) (A5 : Option Addr) (c5 : Nat) (hn3 : (Kd.int .i64).C w A3 n.nums.length n.nums) (hc3 : n.nums.length ≤ c3) (hn4 : kOp.C w A4 n.ops.length n.ops) (hc4 : n.ops.length ≤ c4) (hn5 : kEntry.C w A5 n.ents.length n.ents) (hc5 : n.ents.length ≤ c5) (hk3 : n.nums.length ≤ 140737488355328) (hk4 : n.ops.length ≤ 140737488355328) (hk5 : n.ents.length ≤ 140737488355328) (hg : goodN n = true) : Calls Try.prog 15 #[.agg #[.int .i64 n.kind, .int .i64 n.fr, .int .i64 n.tw, .slice A3 n.nums.length c3, .slice A4 n.ops.length c4, .slice A5 n.ents.length c5]] w fun e w' => e = .returned .nilIface ∧ Below w.heap.size w w' := by
  have h := check_calls w n A3 c3 A4 c4 A5 c5 hn3 hc3 hn4 hc4 hn5 hc5 hk3 hk4 hk5
  rw [hg] at h
  exact h
theorem note_k (w w1 : World) (g : Nat) (s : RS) (n : NT) (s2 : RS) (hx : noteR s = (n, s2)) (hb0 : Below w.heap.size w w1) (hg0 : w.heap.size ≤ g) (A : Option Addr) (c : Nat) (hb : Blk w1 g 90 #[.slice A s.xs.length c, .bool s.bad]) (hr : RRow w1 A s.xs.length c s.xs) (hl : Low w1.heap.size A) (hln : s.xs.length ≤ 100000) :
    Calls Try.prog 38 #[.pointer (some ⟨g, 0, none⟩)] w1 fun e w' => ∃ A3 c3 A4 c4 A5 c5, e = .returned (.agg #[.int .i64 n.kind, .int .i64 n.fr, .int .i64 n.tw, .slice A3 n.nums.length c3, .slice A4 n.ops.length c4, .slice A5 n.ents.length c5]) ∧ OwnK (Kd.int .i64) 3 w' w.heap.size w1.heap.size A3 n.nums.length c3 n.nums ∧ OwnK kOp 73 w' w.heap.size w1.heap.size A4 n.ops.length c4 n.ops ∧ OwnK kEntry 83 w' w.heap.size w1.heap.size A5 n.ents.length c5 n.ents ∧ RD w' g s2 ∧ Below w.heap.size w w' := by
  have h := note_raw w w1 g s hb0 hb0.size hg0 hb.lt A c hb hr hl hln
  rw [hx] at h
  exact h
theorem eb_no {n : NT} (h : goodN n = false) : EB n = [] ∧ EE n = some 2 := by unfold EB EE; rw [h]; exact ⟨rfl, rfl⟩
theorem eb_yes {n : NT} (h : goodN n = true) : EB n = frameB (PB (listN n)) ∧ EE n = frameE (PB (listN n)) := by unfold EB EE; rw [h]; exact ⟨rfl, rfl⟩
theorem listN_len (n : NT) (hk3 : n.nums.length ≤ 1000) (hk4 : n.ops.length ≤ 1000) (hk5 : n.ents.length ≤ 1000) : (listN n).length ≤ 160000 := by
  unfold listN
  have h1 := opsL_len n.ops
  have h2 := entsL_len n.ents
  simp only [List.length_append, List.length_cons, List.length_nil]
  omega
set_option maxHeartbeats 4000000 in
theorem enc_calls (w : World) (n : NT) (A3 : Option Addr) (c3 : Nat) (A4 : Option Addr) (c4 : Nat) (A5 : Option Addr) (c5 : Nat) (hn3 : (Kd.int .i64).C w A3 n.nums.length n.nums) (hc3 : n.nums.length ≤ c3) (hn4 : kOp.C w A4 n.ops.length n.ops) (hc4 : n.ops.length ≤ c4) (hn5 : kEntry.C w A5 n.ents.length n.ents) (hc5 : n.ents.length ≤ c5) (hk3 : n.nums.length ≤ 140737488355328) (hk4 : n.ops.length ≤ 140737488355328) (hk5 : n.ents.length ≤ 140737488355328) (hI : ∀ y ∈ listN n, I64 y) :
  Calls Try.prog 12 #[.agg #[.int .i64 n.kind, .int .i64 n.fr, .int .i64 n.tw, .slice A3 n.nums.length c3, .slice A4 n.ops.length c4, .slice A5 n.ents.length c5]] w fun e w' => ∃ A' c', e = .returned (.tuple #[.slice A' (EB n).length c', errT (EE n)]) ∧ OwnK (Kd.int .u8) 5 w' w.heap.size w.heap.size A' (EB n).length c' (EB n) ∧ Below w.heap.size w w' := by
 refine calls_flow Try.func12 rfl 17 rfl (Nat.le_of_ble_eq_true rfl) [(0, .agg #[.int .i64 n.kind, .int .i64 n.fr, .int .i64 n.tw, .slice A3 n.nums.length c3, .slice A4 n.ops.length c4, .slice A5 n.ents.length c5])] ?_ ?_
 ·
  intro t v h; exact args_look rfl t v h
 refine wsr ?_
 refine rw_new (cs := #[.int .i64 n.kind, .int .i64 n.fr, .int .i64 n.tw, .slice A3 n.nums.length c3, .slice A4 n.ops.length c4, .slice A5 n.ents.length c5]) (t := 26) (fun g => .pointer (some ⟨g, 0, none⟩)) rfl rfl rfl rfl (by simp [go_sem, sEv, sLook, nbeq, i64_w, -List.getD_eq_getElem?_getD]) ?_
 intro g1 w2 hg6 hz5 hb3 hk4
 have hs_w2 := hb3.size
 refine rv (.slice none 0 0) ?_
 refine rv .nilIface ?_
 refine rw_end ?_
 refine w_seq ?_
 refine wsr ?_
 refine rz (.agg #[.int .i64 n.kind, .int .i64 n.fr, .int .i64 n.tw, .slice A3 n.nums.length c3, .slice A4 n.ops.length c4, .slice A5 n.ents.length c5]) (by have eb_ := hk4; have e0_ := eb_.cellv (i := 0) (v := (.int .i64 n.kind : Value)) rfl; have e1_ := eb_.cellv (i := 1) (v := (.int .i64 n.fr : Value)) rfl; have e2_ := eb_.cellv (i := 2) (v := (.int .i64 n.tw : Value)) rfl; have e3_ := eb_.cellv (i := 3) (v := (.slice A3 n.nums.length c3 : Value)) rfl; have e4_ := eb_.cellv (i := 4) (v := (.slice A4 n.ops.length c4 : Value)) rfl; have e5_ := eb_.cellv (i := 5) (v := (.slice A5 n.ents.length c5 : Value)) rfl; simp [go_sem, sEv, sLook, nbeq, i64_w, -List.getD_eq_getElem?_getD, e0_, e1_, e2_, e3_, e4_, e5_, Try.underlying26]) ?_
 rcases hg_ : goodN n with _ | _
 ·
  refine rcl (check_no w2 n A3 c3 A4 c4 A5 c5 (Kd.C_below hn3 hb3) hc3 (Kd.C_below hn4 hb3) hc4 (Kd.C_below hn5 hb3) hc5 (by omega) (by omega) (by omega) hg_) ?_
  rintro e_ w7 ⟨rfl, hb8⟩
  refine ⟨_, rfl, ?_⟩
  have hs_w7 := hb8.size
  refine rv (errT (some 2)) ?_
  refine rw_end ?_
  refine wsr ?_
  refine rv (errT (some 2)) ?_
  refine rz (.bool ((some 2).isSome)) (run_as (guard_err_neq _ (some 2) _)) ?_
  refine rw_end ?_
  have hq9 : ((some 2).isSome) = true := by rfl
  refine w_cond_t rfl rfl hq9 ?_
  refine wsr ?_
  refine rv (errT (some 2)) ?_
  refine rv (.slice none 0 0) ?_
  refine rv (errT (some 2)) ?_
  refine rw_end ?_
  refine w_ret (post_ret2 rfl rfl rfl ?_)
  rw [(eb_no hg_).1, (eb_no hg_).2]
  exact ⟨_, _, rfl, OwnK.nil _ _ _ _ _, (chain hb3 hb8)⟩
 ·
  refine rcl (check_yes w2 n A3 c3 A4 c4 A5 c5 (Kd.C_below hn3 hb3) hc3 (Kd.C_below hn4 hb3) hc4 (Kd.C_below hn5 hb3) hc5 (by omega) (by omega) (by omega) hg_) ?_
  rintro e_ w10 ⟨rfl, hb11⟩
  refine ⟨_, rfl, ?_⟩
  have hs_w10 := hb11.size
  refine rv .nilIface ?_
  refine rw_end ?_
  refine wsr ?_
  refine rv .nilIface ?_
  refine rz (.bool ((none : Option Int).isSome)) (run_as (guard_err_neq _ (none : Option Int) _)) ?_
  refine rw_end ?_
  have hq12 : ((none : Option Int).isSome) = false := by rfl
  refine w_cond_f rfl rfl hq12 ?_
  refine w_skip ?_
  refine wsr ?_
  refine rz (.agg #[.int .i64 n.kind, .int .i64 n.fr, .int .i64 n.tw, .slice A3 n.nums.length c3, .slice A4 n.ops.length c4, .slice A5 n.ents.length c5]) (by have eb_ := (hk4.on hb11); have e0_ := eb_.cellv (i := 0) (v := (.int .i64 n.kind : Value)) rfl; have e1_ := eb_.cellv (i := 1) (v := (.int .i64 n.fr : Value)) rfl; have e2_ := eb_.cellv (i := 2) (v := (.int .i64 n.tw : Value)) rfl; have e3_ := eb_.cellv (i := 3) (v := (.slice A3 n.nums.length c3 : Value)) rfl; have e4_ := eb_.cellv (i := 4) (v := (.slice A4 n.ops.length c4 : Value)) rfl; have e5_ := eb_.cellv (i := 5) (v := (.slice A5 n.ents.length c5 : Value)) rfl; simp [go_sem, sEv, sLook, nbeq, i64_w, -List.getD_eq_getElem?_getD, e0_, e1_, e2_, e3_, e4_, e5_, Try.underlying26]) ?_
  have hz_ := good_sz hg_
  have hll_ := listN_len n (by omega) (by omega) (by omega)
  refine rcl (notenums_calls w10 n A3 c3 A4 c4 A5 c5 (Kd.C_below hn3 (chain hb3 hb11)) hc3 (Kd.C_below hn4 (chain hb3 hb11)) hc4 (Kd.C_below hn5 (chain hb3 hb11)) hc5 (by omega) (by omega) (by omega)) ?_
  rintro e_ w13 ⟨A15, c16, rfl, hO170, hb14⟩
  refine ⟨_, rfl, ?_⟩
  have hs_w13 := hb14.size
  have hO17 := OwnK.lower (base' := w.heap.size) (d := (Kd.int .i64)) hO170 (by omega)
  refine rcl (fput0 w13 A15 c16 (listN n) (OwnK.C (d := (Kd.int .i64)) hO17) (by have q_ := OwnK.cap (d := (Kd.int .i64)) hO17; omega) hI (by omega)) ?_
  rintro e_ w18 ⟨A20, c21, rfl, hO220, hb19⟩
  refine ⟨_, rfl, ?_⟩
  have hs_w18 := hb19.size
  have hO22 := OwnK.lower (base' := w.heap.size) (d := (Kd.int .u8)) hO220 (by omega)
  refine rw_new (cs := #[.slice A20 ((PB (listN n)).length) c21]) (t := 30) (fun g => .slice (some ⟨g, 0, none⟩) 1 1) rfl rfl rfl rfl (by kernel_rfl) ?_
  intro g23 w24 hg28 hz27 hb25 hk26
  have hs_w24 := hb25.size
  have hpl_ := PB_len (listN n) hI
  refine rcl (fwrap1 w24 _ 1 (PB (listN n)) (rows1 (e := 5) hk26 (by have q_ := OwnK.cap (d := (Kd.int .u8)) (OwnK.on (d := (Kd.int .u8)) hO22 hb25); omega) (OwnK.C (d := (Kd.int .u8)) (OwnK.on (d := (Kd.int .u8)) hO22 hb25))) (by decide) (by omega)) ?_
  rintro e_ w29 ⟨A31, c32, rfl, hO330, hb30⟩
  refine ⟨_, rfl, ?_⟩
  have hs_w29 := hb30.size
  have hO33 := OwnK.lower (base' := w.heap.size) (d := (Kd.int .u8)) hO330 (by omega)
  refine rs (.slice A31 ((frameB (PB (listN n))).length) c32) ?_
  refine rs (errT (frameE (PB (listN n)))) ?_
  refine rv (.slice A31 ((frameB (PB (listN n))).length) c32) ?_
  refine rv (errT (frameE (PB (listN n)))) ?_
  refine rw_end ?_
  refine w_ret (post_ret2 rfl rfl rfl ?_)
  rw [(eb_yes hg_).1, (eb_yes hg_).2]
  exact ⟨_, _, rfl, OwnK.mono (d := (Kd.int .u8)) hO33 (by omega), (chain (chain (chain (chain (chain hb3 hb11) hb14) hb19) hb25) hb30)⟩
end Go.Proofs.Ytbbhdohjhipalaa.Ce
end
section
namespace Go.Proofs.Ytbbhdohjhipalaa.Ce
open Go.RowKit Go.Proofs.YtbbhdohjhipalaaW.PrintWords Go.Proofs.YtbbhdohjhipalaaW.PrintLast Go.Proofs.YtbbhdohjhipalaaW.PrintMore
open Go.Proofs.Ytbbhdohjhipalaa.Flow Go.Proofs.Ytbbhdohjhipalaa.PNoteReads
set_option linter.unusedVariables false
theorem numsP_s : ∀ (K : Nat) (b x r : List Int), Bytes b → numsP K b 4096 x = (r, true) → ∃ ys, r = x ++ ys ∧ PB ys = b ∧ ∀ y ∈ ys, I64 y
  | 0, b, x, r, hb, h => by
    rw [numsP] at h
    cases h
  | K + 1, b, x, r, hb, h => by
    rw [numsP] at h
    by_cases c1 : b.length = 0
    · rw [if_pos c1] at h
      split at h
      · cases h
      · cases h
        exact ⟨[], by simp, by rw [List.length_eq_zero_iff.1 c1]; rfl, by simp⟩
    · rw [if_neg c1] at h
      by_cases c2 : (takeP b).2 = 0
      · rw [if_pos c2] at h
        cases h
      · rw [if_neg c2] at h
        obtain ⟨t1, t2, t3, t4⟩ := take_back b hb c2
        obtain ⟨ys, e1, e2, e3⟩ := numsP_s K _ _ _ (hb.drop _) h
        refine ⟨(takeP b).1 :: ys, by rw [e1]; simp, ?_, ?_⟩
        · rw [PB_cons, e2]
          exact t1
        · intro y hy
          rcases List.mem_cons.1 hy with rfl | hy
          · exact t2
          · exact e3 y hy
theorem numsP_ok : ∀ (ys : List Int) (K : Nat) (x : List Int), (∀ y ∈ ys, I64 y) → ys.length + 1 ≤ K → x.length + ys.length ≤ 4096 → numsP K (PB ys) 4096 x = (x ++ ys, true)
  | [], K, x, hy, hK, hl => by
    obtain ⟨k, rfl⟩ : ∃ k, K = k + 1 := ⟨K - 1, by simp at hK; omega⟩
    rw [numsP, if_pos (show (PB []).length = 0 from rfl), if_neg (by simp at hl; omega), List.append_nil]
  | y :: t, K, x, hy, hK, hl => by
    obtain ⟨k, rfl⟩ : ∃ k, K = k + 1 := ⟨K - 1, by simp at hK; omega⟩
    have h1 := hy y (by simp)
    have hn := numB_len y
    have ht := take_num y h1 (PB t)
    have hd : (numB y ++ PB t).drop (1 + szN (tn y)) = PB t := by rw [← hn, List.drop_left]
    rw [numsP, PB_cons, if_neg (by rw [List.length_append, hn]; omega), ht, if_neg (by simp only; omega)]
    simp only [hd]
    rw [numsP_ok t k (x ++ [y]) (fun z hz => hy z (by simp [hz])) (by simp at hK; omega) (by simp at hl ⊢; omega)]
    simp
theorem NL_ok {ys : List Int} (hy : ∀ y ∈ ys, I64 y) (hl : ys.length ≤ 4096) : NL (PB ys) = ys ∧ NO (PB ys) = true := by
  have hp : ys.length ≤ (PB ys).length := by
    clear hl
    induction ys with
    | nil => exact Nat.le_refl _
    | cons y t ih =>
      have h := ih (fun z hz => hy z (by simp [hz]))
      have hn := numB_len y
      rw [PB_cons, List.length_append, List.length_cons]
      omega
  have h := numsP_ok ys ((PB ys).length + 1) [] hy (by omega) (by simpa using hl)
  unfold NL NO
  rw [h]
  exact ⟨rfl, rfl⟩
theorem NL_s {b : List Int} (hb : Bytes b) (h : NO b = true) : PB (NL b) = b ∧ ∀ y ∈ NL b, I64 y := by
  obtain ⟨ys, e1, e2, e3⟩ := numsP_s (b.length + 1) b [] (NL b) hb (Prod.ext rfl h)
  rw [List.nil_append] at e1
  rw [e1]
  exact ⟨e2, e3⟩
theorem unframe {p : List Int} (hl : p.length ≤ 16376) : wholeP (frameB p) ≠ 0 ∧ UN (frameB p) = p ∧ UR (frameB p) = [] := by
  have h := whole_frame p [] hl
  rw [List.append_nil] at h
  have hf : (frameB p).length = 8 + p.length := by
    unfold frameB
    rw [if_neg (by omega)]
    simp only [List.length_append, lowl_len]
  have h0 : wholeP (frameB p) ≠ 0 := by omega
  refine ⟨h0, ?_, ?_⟩
  · unfold UN
    rw [if_neg h0, h, ← hf, List.take_length]
    unfold frameB
    rw [if_neg (by omega), List.drop_append_of_le_length (by simp only [List.length_append, lowl_len]; omega), List.drop_of_length_le (by simp only [List.length_append, lowl_len]; omega), List.nil_append]
  · unfold UR
    rw [if_neg h0, h, ← hf, List.drop_length]
theorem dec_enc {n : NT} (hg : goodN n = true) (hI : ∀ y ∈ listN n, I64 y) (hl : ∀ x ∈ n.ents, LoOk x.c) (hp : (PB (listN n)).length ≤ 16376) : decN (EB n) = (n, none) := by
  obtain ⟨u1, u2, u3⟩ := unframe hp
  obtain ⟨z1, z2, z3⟩ := good_sz hg
  have hll : (listN n).length ≤ 4096 := by
    have h1 := opsL_len n.ops
    have h2 := entsL_len n.ents
    unfold listN
    simp only [List.length_append, List.length_cons, List.length_nil]
    omega
  obtain ⟨v1, v2⟩ := NL_ok hI hll
  rw [(eb_yes hg).1]
  unfold decN
  rw [u2, u3, v1, v2, note_back (by omega) z2 z3 hl, if_neg (by simp; exact u1), if_neg (by simp), if_neg (by rw [hg]; simp)]
theorem frame_whole {b : List Int} (hb : Bytes b) (h : wholeP b ≠ 0) : frameB ((b.take (wholeP b)).drop 8) = b.take (wholeP b) := by
  have h8 : ¬ b.length < 8 := fun c => h (by unfold wholeP; rw [if_pos c])
  have h16 : ¬ 16376 < valN (b.take 4) := fun c => h (by unfold wholeP; rw [if_neg h8, if_pos c])
  have hl : ¬ b.length < 8 + valN (b.take 4) := fun c => h (by unfold wholeP; rw [if_neg h8, if_neg h16, if_pos c])
  have q := fin_whole b hb _ rfl (by omega) (by omega)
  by_cases c : frameB ((b.take (8 + valN (b.take 4))).drop 8) = b.take (8 + valN (b.take 4))
  · rw [if_pos c] at q
    rw [q]
    exact c
  · rw [if_neg c] at q
    exact absurd q h
theorem enc_dec {b : List Int} {n : NT} (hb : Bytes b) (h : decN b = (n, none)) : goodN n = true ∧ EB n = b := by
  unfold decN at h
  split at h
  · cases h
  · rename_i c1
    split at h
    · cases h
    · rename_i c2
      split at h
      · cases h
      · rename_i c3
        have h1 : wholeP b ≠ 0 := fun e => c1 (.inl e)
        have h2 : (UR b).length = 0 := by
          rcases Nat.eq_zero_or_pos (UR b).length with e | e
          · exact e
          · exact absurd (.inr e) c1
        have h3 : NO (UN b) = true := by simpa using c2
        rcases hn : noteR ⟨NL (UN b), false⟩ with ⟨n9, s9⟩
        rw [hn] at c3 h
        cases h
        have h4 : s9.bad = false := by
          cases e : s9.bad with
          | false => rfl
          | true => exact absurd (.inl e) c3
        have h5 : s9.xs = [] := by
          rcases Nat.eq_zero_or_pos s9.xs.length with e | e
          · exact List.length_eq_zero_iff.1 e
          · exact absurd (.inr (.inl e)) c3
        have h6 : goodN n9 = true := by
          cases e : goodN n9 with
          | true => rfl
          | false => exact absurd (.inr (.inr e)) c3
        obtain ⟨p1, p2⟩ := NL_s (UN_bytes hb) h3
        have h7 := note_sound p2 hn h4 h5
        refine ⟨h6, ?_⟩
        rw [(eb_yes h6).1, h7, p1]
        have hw := frame_whole hb h1
        have hU : UN b = (b.take (wholeP b)).drop 8 := by unfold UN; rw [if_neg h1]
        have hR : (b.drop (wholeP b)).length = 0 := by
          unfold UR at h2
          rw [if_neg h1] at h2
          exact h2
        rw [List.length_drop] at hR
        rw [hU, hw, List.take_of_length_le (by omega)]
end Go.Proofs.Ytbbhdohjhipalaa.Ce
end
section
namespace Go.Proofs.Ytbbhdohjhipalaa.Ce
open Go.RowKit Go.Proofs.YtbbhdohjhipalaaW.PrintWords Go.Proofs.YtbbhdohjhipalaaW.PrintLast Go.Proofs.YtbbhdohjhipalaaW.PrintMore
open Go.Proofs.Ytbbhdohjhipalaa.Flow Go.Proofs.Ytbbhdohjhipalaa.PNoteReads
set_option linter.unusedVariables false
theorem small_sz : ∀ k : Fin 65, szN (tn ((k.val : Nat) : Int)) ≤ 1 := by decide +kernel
theorem small_num (k : Nat) (h : k < 65) : (numB (k : Int)).length ≤ 2 := by
  have h1 := small_sz ⟨k, h⟩
  have h2 := numB_len (k : Int)
  simp only at h1
  omega
theorem PB_app (a b : List Int) : PB (a ++ b) = PB a ++ PB b := by unfold PB; simp
theorem one_len {y : Int} (h : I64 y) : (numB y).length ≤ 9 := by
  have h1 := szN_le (tn_lt h)
  have h2 := numB_len y
  omega
theorem pr_bytes (h : Fin 65 → Int) : ∀ k, k ≤ 65 → (∀ y ∈ flatP (pr h k), I64 y) → (PB (flatP (pr h k))).length ≤ 11 * k
  | 0, _, _ => by simp [pr, flatP, PB]
  | k + 1, hk, hI => by
    rw [pr] at hI ⊢
    split
    · rename_i e
      rw [if_pos e] at hI
      have := pr_bytes h k (by omega) hI
      omega
    · rename_i e
      rw [if_neg e, flatP_append] at hI
      have h1 := pr_bytes h k (by omega) (fun y hy => hI y (List.mem_append_left _ hy))
      have h2 := small_num k (by omega)
      have h3 := one_len (hI (atF h k) (List.mem_append_right _ (by simp [flatP])))
      rw [flatP_append, PB_app, List.length_append]
      have e2 : PB (flatP [(((k : Nat) : Int), atF h k)]) = numB (k : Int) ++ (numB (atF h k) ++ []) := rfl
      rw [e2]
      simp only [List.length_append, List.length_nil]
      omega
theorem entL_bytes (x : EL) (hI : ∀ y ∈ entL x, I64 y) : (PB (entL x)).length ≤ 823 := by
  have e : entL x = ([x.win, x.key] ++ headC x.c ((pr x.c.h 65).length : Int)) ++ flatP (pr x.c.h 65) := by
    unfold entL numsC
    rw [List.append_assoc]
  rw [e] at hI ⊢
  have h1 := PB_len _ (fun y hy => hI y (List.mem_append_left _ hy))
  have h2 := pr_bytes x.c.h 65 (Nat.le_refl _) (fun y hy => hI y (List.mem_append_right _ hy))
  have h3 : ([x.win, x.key] ++ headC x.c ((pr x.c.h 65).length : Int)).length = 12 := rfl
  rw [PB_app, List.length_append]
  omega
theorem entsL_bytes : ∀ l : List EL, (∀ y ∈ entsL l, I64 y) → (PB (entsL l)).length ≤ 823 * l.length
  | [], _ => by simp [entsL, PB]
  | x :: l, hI => by
    have e : entsL (x :: l) = entL x ++ entsL l := rfl
    rw [e] at hI ⊢
    have h1 := entL_bytes x (fun y hy => hI y (List.mem_append_left _ hy))
    have h2 := entsL_bytes l (fun y hy => hI y (List.mem_append_right _ hy))
    rw [PB_app, List.length_append, List.length_cons]
    omega
theorem good_bytes {n : NT} (hg : goodN n = true) (hI : ∀ y ∈ listN n, I64 y) : (PB (listN n)).length ≤ 16376 := by
  have hs : shapeK n.kind ≠ none := fun e => by rw [good_no e] at hg; cases hg
  rcases e : shapeK n.kind with _ | ⟨a, b, c⟩
  · exact absurd e hs
  · obtain ⟨⟨_, _, _, _, _, h6, _, h8, h9, h10, h11⟩, _⟩ := (good_iff e).1 hg
    have hb : b ≤ 39 ∧ (n.kind = 8 → b = 6) := by
      unfold shapeK at e
      repeat' split at e
      all_goals first | (cases e; refine ⟨by omega, fun q => ?_⟩; omega) | cases e
    have eL : listN n = ((((([n.kind, n.fr, n.tw, (n.nums.length : Int)] ++ n.nums) ++ [(n.ops.length : Int)]) ++ opsL n.ops) ++ [(n.ents.length : Int)]) ++ entsL n.ents) := rfl
    rw [eL] at hI ⊢
    have h1 := PB_len _ (fun y hy => hI y (List.mem_append_left _ hy))
    have h2 := entsL_bytes n.ents (fun y hy => hI y (List.mem_append_right _ hy))
    have h3 := opsL_len n.ops
    rw [PB_app, List.length_append]
    simp only [List.length_append, List.length_cons, List.length_nil, h3] at h1
    rcases h11 with h11 | h11
    · omega
    · have hb6 := hb.2 h11
      rcases h9 with h9 | h9
      · omega
      · rw [h11] at h9
        cases h9
end Go.Proofs.Ytbbhdohjhipalaa.Ce
end
section
namespace Go.Proofs.Ytbbhdohjhipalaa.Ce
open Go.RowKit Go.Proofs.YtbbhdohjhipalaaW.PrintWords Go.Proofs.YtbbhdohjhipalaaW.PrintLast Go.Proofs.YtbbhdohjhipalaaW.PrintMore
open Go.Proofs.Ytbbhdohjhipalaa.Flow Go.Proofs.Ytbbhdohjhipalaa.PNoteReads
set_option linter.unusedVariables false
set_option linter.unusedSimpArgs false
def OpI (o : OpL) : Prop := I64 o.1 ∧ I64 o.2.1 ∧ I64 o.2.2.1 ∧ I64 o.2.2.2.1 ∧ I64 o.2.2.2.2
theorem I64_nat {k : Nat} (h : k ≤ 1000000) : I64 ((k : Nat) : Int) := ⟨by omega, by omega⟩
theorem wrap_I (x : Int) : I64 (wrap64 x) := by
  unfold I64 wrap64
  omega
theorem enc_ok {n : NT} (hg : goodN n = true) (hI : ∀ y ∈ listN n, I64 y) : EE n = none ∧ (PB (listN n)).length ≤ 16376 := by
  have h := good_bytes hg hI
  refine ⟨?_, h⟩
  rw [(eb_yes hg).2]
  unfold PNoteReads.frameE
  rw [if_neg (by omega)]
theorem dec_I {b : List Int} {n : NT} (hb : Bytes b) (h : decN b = (n, none)) : ∀ y ∈ listN n, I64 y := by
  unfold decN at h
  split at h
  · cases h
  · split at h
    · cases h
    · rename_i c1 c2
      split at h
      · cases h
      · rename_i c3
        have h3 : NO (UN b) = true := by simpa using c2
        rcases hn : noteR ⟨NL (UN b), false⟩ with ⟨n9, s9⟩
        rw [hn] at c3 h
        cases h
        have h4 : s9.bad = false := by
          cases e : s9.bad with
          | false => rfl
          | true => exact absurd (.inl e) c3
        have h5 : s9.xs = [] := by
          rcases Nat.eq_zero_or_pos s9.xs.length with e | e
          · exact List.length_eq_zero_iff.1 e
          · exact absurd (.inr (.inl e)) c3
        obtain ⟨p1, p2⟩ := NL_s (UN_bytes hb) h3
        rw [note_sound p2 hn h4 h5]
        exact p2
theorem eb_facts {n : NT} (hg : goodN n = true) (hI : ∀ y ∈ listN n, I64 y) : Bytes (EB n) ∧ (EB n).length ≤ 16384 := by
  have h := good_bytes hg hI
  rw [(eb_yes hg).1]
  refine ⟨frameB_bytes _ (PB_bytes _ hI), ?_⟩
  unfold frameB
  rw [if_neg (by omega), List.length_append, List.length_append, lowl_len, lowl_len]
  omega
theorem dec_cases (b : List Int) : decN b = (NT.zero, some 3) ∨ decN b = (NT.zero, some 4) ∨ ∃ m, decN b = (m, none) := by
  unfold decN
  split
  · exact .inl rfl
  · split
    · exact .inr (.inl rfl)
    · split
      · exact .inr (.inl rfl)
      · exact .inr (.inr ⟨_, rfl⟩)
end Go.Proofs.Ytbbhdohjhipalaa.Ce
end
section
namespace Go.Proofs.Ytbbhdohjhipalaa.Ce
open Go.RowKit Go.Proofs.YtbbhdohjhipalaaW.PrintWords Go.Proofs.YtbbhdohjhipalaaW.PrintLast Go.Proofs.YtbbhdohjhipalaaW.PrintMore
open Go.Proofs.Ytbbhdohjhipalaa.Flow
set_option linter.unusedVariables false
set_option linter.unusedSimpArgs false
theorem good_iff2 {n : NT} : goodN n = true ↔ (0 ≤ n.fr ∧ n.fr ≤ 999 ∧ 0 ≤ n.tw ∧ n.tw ≤ 999 ∧ n.ops.length ≤ 16 ∧ (n.ops.length = 0 ∨ n.kind = 7) ∧ n.ents.length ≤ 16 ∧ (n.ents.length = 0 ∨ n.kind = 8)) ∧ fitsN n.kind n.nums.length = true ∧ n.ops.all opOk = true := by
  unfold goodN
  simp only [Bool.and_eq_true, Bool.or_eq_true, decide_eq_true_eq]
  constructor
  · rintro ⟨⟨⟨⟨⟨⟨⟨a1, a2⟩, a3⟩, a4⟩, a5⟩, a8, a9⟩, a10, a11⟩, a12⟩
    exact ⟨⟨a1, a2, a3, a4, a8, a9, a10, a11⟩, a5, a12⟩
  · rintro ⟨⟨a1, a2, a3, a4, a8, a9, a10, a11⟩, a5, a12⟩
    exact ⟨⟨⟨⟨⟨⟨⟨a1, a2⟩, a3⟩, a4⟩, a5⟩, a8, a9⟩, a10, a11⟩, a12⟩
theorem bool_of {n : NT} {b : Bool} (h : goodN n = b) : Value.bool b = Value.bool (goodN n) := by rw [h]
theorem fits_val {k a b c : Int} (h : shapeK k = some (a, b, c)) (n : Nat) : (fitsN k n = true) ↔ (a ≤ (n : Int) ∧ (n : Int) ≤ b ∧ ((n : Int) - a) % c = 0) := by
  unfold fitsN
  rw [h]
  simp only [Bool.and_eq_true, decide_eq_true_eq]
theorem fits_no {k : Int} (h : shapeK k = none) (n : Nat) : fitsN k n = false := by
  unfold fitsN
  rw [h]
theorem op_ok {o : OpL} (h : o.2.1 = 1 ∨ o.2.1 = 2) : opOk o = true := by
  unfold opOk
  rcases h with h | h <;> rw [h] <;> rfl
theorem op_no {o : OpL} (h1 : ¬ o.2.1 = 1) (h2 : ¬ o.2.1 = 2) : opOk o = false := by
  unfold opOk
  rw [beq_eq_false_iff_ne.2 h1, beq_eq_false_iff_ne.2 h2]
  rfl
theorem all_step {l : List OpL} {j : Nat} (h : j < l.length) (hJ : (l.take j).all opOk = true) (ho : opOk (l.getD j (0, 0, 0, 0, 0)) = true) : (l.take (j + 1)).all opOk = true := by
  rw [List.take_succ_eq_append_getElem h, List.all_append, hJ]
  simpa [List.getD_eq_getElem?_getD, List.getElem?_eq_getElem h] using ho
set_option maxHeartbeats 4000000 in
theorem good_calls (w : World) (n : NT) (A3 : Option Addr) (c3 : Nat) (A4 : Option Addr) (c4 : Nat) (A5 : Option Addr) (c5 : Nat) (hn3 : (Kd.int .i64).C w A3 n.nums.length n.nums) (hc3 : n.nums.length ≤ c3) (hn4 : kOp.C w A4 n.ops.length n.ops) (hc4 : n.ops.length ≤ c4) (hn5 : kEntry.C w A5 n.ents.length n.ents) (hc5 : n.ents.length ≤ c5) (hk3 : n.nums.length ≤ 140737488355328) (hk4 : n.ops.length ≤ 140737488355328) (hk5 : n.ents.length ≤ 140737488355328) :
  Calls Try.prog 16 #[.agg #[.int .i64 n.kind, .int .i64 n.fr, .int .i64 n.tw, .slice A3 n.nums.length c3, .slice A4 n.ops.length c4, .slice A5 n.ents.length c5]] w fun e w' => e = .returned (.bool (goodN n)) ∧ Below w.heap.size w w' := by
 refine calls_flow Try.func16 rfl 142 rfl (Nat.le_of_ble_eq_true rfl) [(0, .agg #[.int .i64 n.kind, .int .i64 n.fr, .int .i64 n.tw, .slice A3 n.nums.length c3, .slice A4 n.ops.length c4, .slice A5 n.ents.length c5])] ?_ ?_
 ·
  intro t v h; exact args_look rfl t v h
 refine wsr ?_
 refine rw_new (cs := #[.int .i64 n.kind, .int .i64 n.fr, .int .i64 n.tw, .slice A3 n.nums.length c3, .slice A4 n.ops.length c4, .slice A5 n.ents.length c5]) (t := 26) (fun g => .pointer (some ⟨g, 0, none⟩)) rfl rfl rfl rfl (by simp [go_sem, sEv, sLook, nbeq, i64_w, -List.getD_eq_getElem?_getD]) ?_
 intro g1 w2 hg6 hz5 hb3 hk4
 have hs_w2 := hb3.size
 refine rv (.bool false) ?_
 refine rw_end ?_
 refine w_seq ?_
 refine wsr ?_
 refine ru (.pointer (some ⟨g1, 1, none⟩)) ?_
 refine rl hk4 1 (.int .i64 n.fr) ?_
 refine rs (.bool (decide (n.fr < 0))) ?_
 refine rv (.bool (decide (n.fr < 0))) ?_
 rcases bcase (decide (n.fr < 0)) with c7 | c7
 ·
  have l8 : ¬ (n.fr < 0) := of_decide_eq_false c7
  refine rnk c7 ?_
  refine ru (.pointer (some ⟨g1, 1, none⟩)) ?_
  refine rnk c7 ?_
  refine rl hk4 1 (.int .i64 n.fr) ?_
  refine rnk c7 ?_
  refine rs (.bool (decide (999 < n.fr))) ?_
  refine rp c7 (.bool (decide (999 < n.fr))) ?_
  refine rv (.bool (decide (999 < n.fr))) ?_
  rcases bcase (decide (999 < n.fr)) with c9 | c9
  ·
   have l10 : ¬ (999 < n.fr) := of_decide_eq_false c9
   refine rnk c9 ?_
   refine ru (.pointer (some ⟨g1, 2, none⟩)) ?_
   refine rnk c9 ?_
   refine rl hk4 2 (.int .i64 n.tw) ?_
   refine rnk c9 ?_
   refine rs (.bool (decide (n.tw < 0))) ?_
   refine rp c9 (.bool (decide (n.tw < 0))) ?_
   refine rv (.bool (decide (n.tw < 0))) ?_
   rcases bcase (decide (n.tw < 0)) with c11 | c11
   ·
    have l12 : ¬ (n.tw < 0) := of_decide_eq_false c11
    refine rnk c11 ?_
    refine ru (.pointer (some ⟨g1, 2, none⟩)) ?_
    refine rnk c11 ?_
    refine rl hk4 2 (.int .i64 n.tw) ?_
    refine rnk c11 ?_
    refine rs (.bool (decide (999 < n.tw))) ?_
    refine rp c11 (.bool (decide (999 < n.tw))) ?_
    refine rw_end ?_
    refine w_cond rfl rfl (fun c13 => ?_) (fun c13 => ?_)
    ·
     have l14 : (999 < n.tw) := of_decide_eq_true c13
     refine wsr ?_
     refine rv (.bool false) ?_
     refine rw_end ?_
     refine w_ret (post_ret1 rfl rfl ?_)
     have hg_ : goodN n = false := Bool.eq_false_iff.2 (fun h_ => by obtain ⟨h2_, _, _⟩ := good_iff2.1 h_; omega)
     exact ⟨by rw [bool_of hg_], hb3⟩
    ·
     have l15 : ¬ (999 < n.tw) := of_decide_eq_false c13
     refine w_skip ?_
     refine wsr ?_
     refine ru (.pointer (some ⟨g1, 3, none⟩)) ?_
     refine rl hk4 3 (.slice A3 n.nums.length c3) ?_
     refine rs (.int .i64 ((n.nums.length : Nat) : Int)) ?_
     refine rv (.int .i64 ((n.nums.length : Nat) : Int)) ?_
     refine rw_end ?_
     refine wsr ?_
     refine rv (.bool false) ?_
     refine rw_end ?_
     refine w_seq ?_
     refine wsr ?_
     refine ru (.pointer (some ⟨g1, 0, none⟩)) ?_
     refine rl hk4 0 (.int .i64 n.kind) ?_
     refine rw_end ?_
     refine w_join (fun G W_ => w2 = W_ ∧ G = [(1, .pointer (some ⟨g1, 0, none⟩)), (2, .bool false), (4, .bool (fitsN n.kind n.nums.length))]) ?_ ?_
     ·
      refine w_block ?_
      refine w_seq ?_
      refine wsr ?_
      refine rs (.bool (n.kind == 1)) ?_
      refine rv (.bool (n.kind == 1)) ?_
      refine rw_end ?_
      refine w_cond rfl rfl (fun c16 => ?_) (fun c16 => ?_)
      ·
       have l17 : n.kind = 1 := by simpa using c16
       refine w_skip ?_
       refine w_cond_t rfl rfl c16 ?_
       refine w_region ?_
       refine rv (.int .i64 ((n.nums.length : Nat) : Int)) ?_
       refine rs (.bool (((n.nums.length : Nat) : Int) == 4)) ?_
       refine rv (.bool (((n.nums.length : Nat) : Int) == 4)) ?_
       refine rw_end ?_
       refine w_blk ?_
       have hS_ : shapeK n.kind = some (4, 4, 1) := by rw [show n.kind = 1 by omega]; rfl
       have hF_ := fits_val hS_ n.nums.length
       try simp only [Int.emod_one, and_true] at hF_
       have hj_ : (((n.nums.length : Nat) : Int) == 4) = fitsN n.kind n.nums.length := Bool.eq_iff_iff.2 (by rw [hF_]; simp <;> omega)
       exact w_joined [(1, .pointer (some ⟨g1, 0, none⟩)), (2, .bool false), (4, .bool (fitsN n.kind n.nums.length))] ⟨rfl, rfl, (by rw [← hj_]; rfl), trivial⟩ ⟨rfl, rfl⟩
      ·
       have l18 : ¬ n.kind = 1 := by simpa using c16
       refine wsr ?_
       refine rs (.bool (n.kind == 4)) ?_
       refine rv (.bool (n.kind == 4)) ?_
       refine rw_end ?_
       refine w_cond rfl rfl (fun c19 => ?_) (fun c19 => ?_)
       ·
        have l20 : n.kind = 4 := by simpa using c19
        refine w_skip ?_
        refine w_cond_t rfl rfl c19 ?_
        refine w_region ?_
        refine rv (.int .i64 ((n.nums.length : Nat) : Int)) ?_
        refine rs (.bool (((n.nums.length : Nat) : Int) == 4)) ?_
        refine rv (.bool (((n.nums.length : Nat) : Int) == 4)) ?_
        refine rw_end ?_
        refine w_blk ?_
        have hS_ : shapeK n.kind = some (4, 4, 1) := by rw [show n.kind = 4 by omega]; rfl
        have hF_ := fits_val hS_ n.nums.length
        try simp only [Int.emod_one, and_true] at hF_
        have hj_ : (((n.nums.length : Nat) : Int) == 4) = fitsN n.kind n.nums.length := Bool.eq_iff_iff.2 (by rw [hF_]; simp <;> omega)
        exact w_joined [(1, .pointer (some ⟨g1, 0, none⟩)), (2, .bool false), (4, .bool (fitsN n.kind n.nums.length))] ⟨rfl, rfl, (by rw [← hj_]; rfl), trivial⟩ ⟨rfl, rfl⟩
       ·
        have l21 : ¬ n.kind = 4 := by simpa using c19
        refine w_region ?_
        refine rs (.bool (n.kind == 9)) ?_
        refine rv (.bool (n.kind == 9)) ?_
        refine rw_end ?_
        refine w_cond rfl rfl (fun c22 => ?_) (fun c22 => ?_)
        ·
         have l23 : n.kind = 9 := by simpa using c22
         refine w_region ?_
         refine rv (.int .i64 ((n.nums.length : Nat) : Int)) ?_
         refine rs (.bool (((n.nums.length : Nat) : Int) == 4)) ?_
         refine rv (.bool (((n.nums.length : Nat) : Int) == 4)) ?_
         refine rw_end ?_
         refine w_blk ?_
         have hS_ : shapeK n.kind = some (4, 4, 1) := by rw [show n.kind = 9 by omega]; rfl
         have hF_ := fits_val hS_ n.nums.length
         try simp only [Int.emod_one, and_true] at hF_
         have hj_ : (((n.nums.length : Nat) : Int) == 4) = fitsN n.kind n.nums.length := Bool.eq_iff_iff.2 (by rw [hF_]; simp <;> omega)
         exact w_joined [(1, .pointer (some ⟨g1, 0, none⟩)), (2, .bool false), (4, .bool (fitsN n.kind n.nums.length))] ⟨rfl, rfl, (by rw [← hj_]; rfl), trivial⟩ ⟨rfl, rfl⟩
        ·
         have l24 : ¬ n.kind = 9 := by simpa using c22
         refine wsr ?_
         refine rs (.bool (n.kind == 2)) ?_
         refine rv (.bool (n.kind == 2)) ?_
         refine rw_end ?_
         refine w_cond rfl rfl (fun c25 => ?_) (fun c25 => ?_)
         ·
          have l26 : n.kind = 2 := by simpa using c25
          refine w_region ?_
          refine rv (.int .i64 ((n.nums.length : Nat) : Int)) ?_
          refine rs (.bool (decide (7 ≤ ((n.nums.length : Nat) : Int)))) ?_
          refine rv (.bool (decide (7 ≤ ((n.nums.length : Nat) : Int)))) ?_
          rcases bcase (decide (7 ≤ ((n.nums.length : Nat) : Int))) with c27 | c27
          ·
           have l28 : ¬ (7 ≤ ((n.nums.length : Nat) : Int)) := of_decide_eq_false c27
           refine rok c27 ?_
           refine rok c27 ?_
           refine rp c27 (.bool false) ?_
           refine rv (.bool false) ?_
           refine rw_end ?_
           refine w_blk ?_
           have hS_ : shapeK n.kind = some (7, 39, 1) := by rw [show n.kind = 2 by omega]; rfl
           have hF_ := fits_val hS_ n.nums.length
           try simp only [Int.emod_one, and_true] at hF_
           have hj_ : false = fitsN n.kind n.nums.length := Bool.eq_iff_iff.2 (by rw [hF_]; simp <;> omega)
           exact w_joined [(1, .pointer (some ⟨g1, 0, none⟩)), (2, .bool false), (4, .bool (fitsN n.kind n.nums.length))] ⟨rfl, rfl, (by rw [← hj_]; rfl), trivial⟩ ⟨rfl, rfl⟩
          ·
           have l29 : (7 ≤ ((n.nums.length : Nat) : Int)) := of_decide_eq_true c27
           refine rnk c27 ?_
           refine rv (.int .i64 ((n.nums.length : Nat) : Int)) ?_
           refine rnk c27 ?_
           refine rs (.bool (decide (((n.nums.length : Nat) : Int) ≤ 39))) ?_
           refine rp c27 (.bool (decide (((n.nums.length : Nat) : Int) ≤ 39))) ?_
           refine rv (.bool (decide (((n.nums.length : Nat) : Int) ≤ 39))) ?_
           refine rw_end ?_
           refine w_blk ?_
           have hS_ : shapeK n.kind = some (7, 39, 1) := by rw [show n.kind = 2 by omega]; rfl
           have hF_ := fits_val hS_ n.nums.length
           try simp only [Int.emod_one, and_true] at hF_
           have hj_ : (decide (((n.nums.length : Nat) : Int) ≤ 39)) = fitsN n.kind n.nums.length := Bool.eq_iff_iff.2 (by rw [hF_]; simp <;> omega)
           exact w_joined [(1, .pointer (some ⟨g1, 0, none⟩)), (2, .bool false), (4, .bool (fitsN n.kind n.nums.length))] ⟨rfl, rfl, (by rw [← hj_]; rfl), trivial⟩ ⟨rfl, rfl⟩
         ·
          have l30 : ¬ n.kind = 2 := by simpa using c25
          refine wsr ?_
          refine rs (.bool (n.kind == 3)) ?_
          refine rv (.bool (n.kind == 3)) ?_
          refine rw_end ?_
          refine w_cond rfl rfl (fun c31 => ?_) (fun c31 => ?_)
          ·
           have l32 : n.kind = 3 := by simpa using c31
           refine w_region ?_
           refine rv (.int .i64 ((n.nums.length : Nat) : Int)) ?_
           refine rs (.bool (decide (4 ≤ ((n.nums.length : Nat) : Int)))) ?_
           refine rv (.bool (decide (4 ≤ ((n.nums.length : Nat) : Int)))) ?_
           rcases bcase (decide (4 ≤ ((n.nums.length : Nat) : Int))) with c33 | c33
           ·
            have l34 : ¬ (4 ≤ ((n.nums.length : Nat) : Int)) := of_decide_eq_false c33
            refine rok c33 ?_
            refine rok c33 ?_
            refine rp c33 (.bool false) ?_
            refine rv (.bool false) ?_
            refine rw_end ?_
            refine w_blk ?_
            have hS_ : shapeK n.kind = some (4, 36, 1) := by rw [show n.kind = 3 by omega]; rfl
            have hF_ := fits_val hS_ n.nums.length
            try simp only [Int.emod_one, and_true] at hF_
            have hj_ : false = fitsN n.kind n.nums.length := Bool.eq_iff_iff.2 (by rw [hF_]; simp <;> omega)
            exact w_joined [(1, .pointer (some ⟨g1, 0, none⟩)), (2, .bool false), (4, .bool (fitsN n.kind n.nums.length))] ⟨rfl, rfl, (by rw [← hj_]; rfl), trivial⟩ ⟨rfl, rfl⟩
           ·
            have l35 : (4 ≤ ((n.nums.length : Nat) : Int)) := of_decide_eq_true c33
            refine rnk c33 ?_
            refine rv (.int .i64 ((n.nums.length : Nat) : Int)) ?_
            refine rnk c33 ?_
            refine rs (.bool (decide (((n.nums.length : Nat) : Int) ≤ 36))) ?_
            refine rp c33 (.bool (decide (((n.nums.length : Nat) : Int) ≤ 36))) ?_
            refine rv (.bool (decide (((n.nums.length : Nat) : Int) ≤ 36))) ?_
            refine rw_end ?_
            refine w_blk ?_
            have hS_ : shapeK n.kind = some (4, 36, 1) := by rw [show n.kind = 3 by omega]; rfl
            have hF_ := fits_val hS_ n.nums.length
            try simp only [Int.emod_one, and_true] at hF_
            have hj_ : (decide (((n.nums.length : Nat) : Int) ≤ 36)) = fitsN n.kind n.nums.length := Bool.eq_iff_iff.2 (by rw [hF_]; simp <;> omega)
            exact w_joined [(1, .pointer (some ⟨g1, 0, none⟩)), (2, .bool false), (4, .bool (fitsN n.kind n.nums.length))] ⟨rfl, rfl, (by rw [← hj_]; rfl), trivial⟩ ⟨rfl, rfl⟩
          ·
           have l36 : ¬ n.kind = 3 := by simpa using c31
           refine wsr ?_
           refine rs (.bool (n.kind == 5)) ?_
           refine rv (.bool (n.kind == 5)) ?_
           refine rw_end ?_
           refine w_cond rfl rfl (fun c37 => ?_) (fun c37 => ?_)
           ·
            have l38 : n.kind = 5 := by simpa using c37
            refine w_region ?_
            refine rv (.int .i64 ((n.nums.length : Nat) : Int)) ?_
            refine rs (.bool (((n.nums.length : Nat) : Int) == 7)) ?_
            refine rv (.bool (((n.nums.length : Nat) : Int) == 7)) ?_
            refine rw_end ?_
            refine w_blk ?_
            have hS_ : shapeK n.kind = some (7, 7, 1) := by rw [show n.kind = 5 by omega]; rfl
            have hF_ := fits_val hS_ n.nums.length
            try simp only [Int.emod_one, and_true] at hF_
            have hj_ : (((n.nums.length : Nat) : Int) == 7) = fitsN n.kind n.nums.length := Bool.eq_iff_iff.2 (by rw [hF_]; simp <;> omega)
            exact w_joined [(1, .pointer (some ⟨g1, 0, none⟩)), (2, .bool false), (4, .bool (fitsN n.kind n.nums.length))] ⟨rfl, rfl, (by rw [← hj_]; rfl), trivial⟩ ⟨rfl, rfl⟩
           ·
            have l39 : ¬ n.kind = 5 := by simpa using c37
            refine wsr ?_
            refine rs (.bool (n.kind == 6)) ?_
            refine rv (.bool (n.kind == 6)) ?_
            refine rw_end ?_
            refine w_cond rfl rfl (fun c40 => ?_) (fun c40 => ?_)
            ·
             have l41 : n.kind = 6 := by simpa using c40
             refine w_region ?_
             refine rv (.int .i64 ((n.nums.length : Nat) : Int)) ?_
             refine rs (.bool (decide (1 ≤ ((n.nums.length : Nat) : Int)))) ?_
             refine rv (.bool (decide (1 ≤ ((n.nums.length : Nat) : Int)))) ?_
             rcases bcase (decide (1 ≤ ((n.nums.length : Nat) : Int))) with c42 | c42
             ·
              have l43 : ¬ (1 ≤ ((n.nums.length : Nat) : Int)) := of_decide_eq_false c42
              refine rok c42 ?_
              refine rok c42 ?_
              refine rp c42 (.bool false) ?_
              refine rv (.bool false) ?_
              refine ro false ?_
              refine ro false ?_
              refine ro false ?_
              refine rs (.bool false) ?_
              refine rv (.bool false) ?_
              refine rw_end ?_
              refine w_blk ?_
              have hS_ : shapeK n.kind = some (1, 25, 2) := by rw [show n.kind = 6 by omega]; rfl
              have hF_ := fits_val hS_ n.nums.length
              try simp only [Int.emod_one, and_true] at hF_
              have hj_ : false = fitsN n.kind n.nums.length := Bool.eq_iff_iff.2 (by rw [hF_]; simp <;> omega)
              exact w_joined [(1, .pointer (some ⟨g1, 0, none⟩)), (2, .bool false), (4, .bool (fitsN n.kind n.nums.length))] ⟨rfl, rfl, (by rw [← hj_]; rfl), trivial⟩ ⟨rfl, rfl⟩
             ·
              have l44 : (1 ≤ ((n.nums.length : Nat) : Int)) := of_decide_eq_true c42
              refine rnk c42 ?_
              refine rv (.int .i64 ((n.nums.length : Nat) : Int)) ?_
              refine rnk c42 ?_
              refine rs (.bool (decide (((n.nums.length : Nat) : Int) ≤ 25))) ?_
              refine rp c42 (.bool (decide (((n.nums.length : Nat) : Int) ≤ 25))) ?_
              refine rv (.bool (decide (((n.nums.length : Nat) : Int) ≤ 25))) ?_
              rcases bcase (decide (((n.nums.length : Nat) : Int) ≤ 25)) with c45 | c45
              ·
               have l46 : ¬ (((n.nums.length : Nat) : Int) ≤ 25) := of_decide_eq_false c45
               refine rok c45 ?_
               refine rok c45 ?_
               refine rok c45 ?_
               refine rp c45 (.bool false) ?_
               refine rv (.bool false) ?_
               refine rw_end ?_
               refine w_blk ?_
               have hS_ : shapeK n.kind = some (1, 25, 2) := by rw [show n.kind = 6 by omega]; rfl
               have hF_ := fits_val hS_ n.nums.length
               try simp only [Int.emod_one, and_true] at hF_
               have hj_ : false = fitsN n.kind n.nums.length := Bool.eq_iff_iff.2 (by rw [hF_]; simp <;> omega)
               exact w_joined [(1, .pointer (some ⟨g1, 0, none⟩)), (2, .bool false), (4, .bool (fitsN n.kind n.nums.length))] ⟨rfl, rfl, (by rw [← hj_]; rfl), trivial⟩ ⟨rfl, rfl⟩
              ·
               have l47 : (((n.nums.length : Nat) : Int) ≤ 25) := of_decide_eq_true c45
               refine rnk c45 ?_
               refine rv (.int .i64 ((n.nums.length : Nat) : Int)) ?_
               refine rnk c45 ?_
               refine rz (.int .i64 (((n.nums.length : Nat) : Int) % 2)) (by simp [go_sem, sEv, sLook, nbeq, i64_w, -List.getD_eq_getElem?_getD] <;> (try rw [Int.tmod_eq_emod_of_nonneg (by omega)]) <;> (try unfold wrap64) <;> omega) ?_
               refine rnk c45 ?_
               refine rs (.bool ((((n.nums.length : Nat) : Int) % 2) == 1)) ?_
               refine rp c45 (.bool ((((n.nums.length : Nat) : Int) % 2) == 1)) ?_
               refine rv (.bool ((((n.nums.length : Nat) : Int) % 2) == 1)) ?_
               refine rw_end ?_
               refine w_blk ?_
               have hS_ : shapeK n.kind = some (1, 25, 2) := by rw [show n.kind = 6 by omega]; rfl
               have hF_ := fits_val hS_ n.nums.length
               try simp only [Int.emod_one, and_true] at hF_
               have hj_ : ((((n.nums.length : Nat) : Int) % 2) == 1) = fitsN n.kind n.nums.length := Bool.eq_iff_iff.2 (by rw [hF_]; simp <;> omega)
               exact w_joined [(1, .pointer (some ⟨g1, 0, none⟩)), (2, .bool false), (4, .bool (fitsN n.kind n.nums.length))] ⟨rfl, rfl, (by rw [← hj_]; rfl), trivial⟩ ⟨rfl, rfl⟩
            ·
             have l48 : ¬ n.kind = 6 := by simpa using c40
             refine wsr ?_
             refine rs (.bool (n.kind == 7)) ?_
             refine rv (.bool (n.kind == 7)) ?_
             refine rw_end ?_
             refine w_cond rfl rfl (fun c49 => ?_) (fun c49 => ?_)
             ·
              have l50 : n.kind = 7 := by simpa using c49
              refine w_region ?_
              refine rv (.int .i64 ((n.nums.length : Nat) : Int)) ?_
              refine rs (.bool (decide (2 ≤ ((n.nums.length : Nat) : Int)))) ?_
              refine rv (.bool (decide (2 ≤ ((n.nums.length : Nat) : Int)))) ?_
              rcases bcase (decide (2 ≤ ((n.nums.length : Nat) : Int))) with c51 | c51
              ·
               have l52 : ¬ (2 ≤ ((n.nums.length : Nat) : Int)) := of_decide_eq_false c51
               refine rok c51 ?_
               refine rok c51 ?_
               refine rp c51 (.bool false) ?_
               refine rv (.bool false) ?_
               refine ro false ?_
               refine ro false ?_
               refine ro false ?_
               refine rs (.bool false) ?_
               refine rv (.bool false) ?_
               refine rw_end ?_
               refine w_blk ?_
               have hS_ : shapeK n.kind = some (2, 26, 2) := by rw [show n.kind = 7 by omega]; rfl
               have hF_ := fits_val hS_ n.nums.length
               try simp only [Int.emod_one, and_true] at hF_
               have hj_ : false = fitsN n.kind n.nums.length := Bool.eq_iff_iff.2 (by rw [hF_]; simp <;> omega)
               exact w_joined [(1, .pointer (some ⟨g1, 0, none⟩)), (2, .bool false), (4, .bool (fitsN n.kind n.nums.length))] ⟨rfl, rfl, (by rw [← hj_]; rfl), trivial⟩ ⟨rfl, rfl⟩
              ·
               have l53 : (2 ≤ ((n.nums.length : Nat) : Int)) := of_decide_eq_true c51
               refine rnk c51 ?_
               refine rv (.int .i64 ((n.nums.length : Nat) : Int)) ?_
               refine rnk c51 ?_
               refine rs (.bool (decide (((n.nums.length : Nat) : Int) ≤ 26))) ?_
               refine rp c51 (.bool (decide (((n.nums.length : Nat) : Int) ≤ 26))) ?_
               refine rv (.bool (decide (((n.nums.length : Nat) : Int) ≤ 26))) ?_
               rcases bcase (decide (((n.nums.length : Nat) : Int) ≤ 26)) with c54 | c54
               ·
                have l55 : ¬ (((n.nums.length : Nat) : Int) ≤ 26) := of_decide_eq_false c54
                refine rok c54 ?_
                refine rok c54 ?_
                refine rok c54 ?_
                refine rp c54 (.bool false) ?_
                refine rv (.bool false) ?_
                refine rw_end ?_
                refine w_blk ?_
                have hS_ : shapeK n.kind = some (2, 26, 2) := by rw [show n.kind = 7 by omega]; rfl
                have hF_ := fits_val hS_ n.nums.length
                try simp only [Int.emod_one, and_true] at hF_
                have hj_ : false = fitsN n.kind n.nums.length := Bool.eq_iff_iff.2 (by rw [hF_]; simp <;> omega)
                exact w_joined [(1, .pointer (some ⟨g1, 0, none⟩)), (2, .bool false), (4, .bool (fitsN n.kind n.nums.length))] ⟨rfl, rfl, (by rw [← hj_]; rfl), trivial⟩ ⟨rfl, rfl⟩
               ·
                have l56 : (((n.nums.length : Nat) : Int) ≤ 26) := of_decide_eq_true c54
                refine rnk c54 ?_
                refine rv (.int .i64 ((n.nums.length : Nat) : Int)) ?_
                refine rnk c54 ?_
                refine rz (.int .i64 (((n.nums.length : Nat) : Int) % 2)) (by simp [go_sem, sEv, sLook, nbeq, i64_w, -List.getD_eq_getElem?_getD] <;> (try rw [Int.tmod_eq_emod_of_nonneg (by omega)]) <;> (try unfold wrap64) <;> omega) ?_
                refine rnk c54 ?_
                refine rs (.bool ((((n.nums.length : Nat) : Int) % 2) == 0)) ?_
                refine rp c54 (.bool ((((n.nums.length : Nat) : Int) % 2) == 0)) ?_
                refine rv (.bool ((((n.nums.length : Nat) : Int) % 2) == 0)) ?_
                refine rw_end ?_
                refine w_blk ?_
                have hS_ : shapeK n.kind = some (2, 26, 2) := by rw [show n.kind = 7 by omega]; rfl
                have hF_ := fits_val hS_ n.nums.length
                try simp only [Int.emod_one, and_true] at hF_
                have hj_ : ((((n.nums.length : Nat) : Int) % 2) == 0) = fitsN n.kind n.nums.length := Bool.eq_iff_iff.2 (by rw [hF_]; simp <;> omega)
                exact w_joined [(1, .pointer (some ⟨g1, 0, none⟩)), (2, .bool false), (4, .bool (fitsN n.kind n.nums.length))] ⟨rfl, rfl, (by rw [← hj_]; rfl), trivial⟩ ⟨rfl, rfl⟩
             ·
              have l57 : ¬ n.kind = 7 := by simpa using c49
              refine wsr ?_
              refine rs (.bool (n.kind == 8)) ?_
              refine rv (.bool (n.kind == 8)) ?_
              refine rw_end ?_
              refine w_cond rfl rfl (fun c58 => ?_) (fun c58 => ?_)
              ·
               have l59 : n.kind = 8 := by simpa using c58
               refine w_region ?_
               refine rv (.int .i64 ((n.nums.length : Nat) : Int)) ?_
               refine rs (.bool (((n.nums.length : Nat) : Int) == 6)) ?_
               refine rv (.bool (((n.nums.length : Nat) : Int) == 6)) ?_
               refine rw_end ?_
               refine w_blk ?_
               have hS_ : shapeK n.kind = some (6, 6, 1) := by rw [show n.kind = 8 by omega]; rfl
               have hF_ := fits_val hS_ n.nums.length
               try simp only [Int.emod_one, and_true] at hF_
               have hj_ : (((n.nums.length : Nat) : Int) == 6) = fitsN n.kind n.nums.length := Bool.eq_iff_iff.2 (by rw [hF_]; simp <;> omega)
               exact w_joined [(1, .pointer (some ⟨g1, 0, none⟩)), (2, .bool false), (4, .bool (fitsN n.kind n.nums.length))] ⟨rfl, rfl, (by rw [← hj_]; rfl), trivial⟩ ⟨rfl, rfl⟩
              ·
               have l60 : ¬ n.kind = 8 := by simpa using c58
               refine w_skip ?_
               refine w_blk ?_
               have hj_ : false = fitsN n.kind n.nums.length := by rw [fits_no (by unfold shapeK; rw [if_neg (by omega), if_neg (by omega), if_neg (by omega), if_neg (by omega), if_neg (by omega), if_neg (by omega), if_neg (by omega)]) n.nums.length]
               exact w_joined [(1, .pointer (some ⟨g1, 0, none⟩)), (2, .bool false), (4, .bool (fitsN n.kind n.nums.length))] ⟨rfl, rfl, (by rw [← hj_]; rfl), trivial⟩ ⟨rfl, rfl⟩
     ·
      rintro _ _ ⟨rfl, rfl⟩
      refine w_seq ?_
      refine wsr ?_
      refine rv (.bool (fitsN n.kind n.nums.length)) ?_
      refine rs (.bool (!(fitsN n.kind n.nums.length))) ?_
      refine rw_end ?_
      refine w_cond rfl rfl (fun cF => ?_) (fun cF => ?_)
      ·
       refine wsr ?_
       refine rv (.bool false) ?_
       refine rw_end ?_
       refine w_ret (post_ret1 rfl rfl ?_)
       have hg_ : goodN n = false := Bool.eq_false_iff.2 (fun h_ => by have h2_ := (good_iff2.1 h_).2.1; rw [h2_] at cF; simp at cF)
       exact ⟨by rw [bool_of hg_], hb3⟩
      ·
       refine w_skip ?_
       refine w_seq ?_
       refine wsr ?_
       refine ru (.pointer (some ⟨g1, 0, none⟩)) ?_
       refine rl hk4 0 (.int .i64 n.kind) ?_
       refine rs (.bool (n.kind != 7)) ?_
       refine rv (.bool (n.kind != 7)) ?_
       rcases bcase (n.kind != 7) with c61 | c61
       ·
        have l62 : n.kind = 7 := by simpa using c61
        refine rok c61 ?_
        refine rok c61 ?_
        refine rok c61 ?_
        refine rok c61 ?_
        refine rp c61 (.bool false) ?_
        refine rv (.bool false) ?_
        refine rn false ?_
        refine ru (.pointer (some ⟨g1, 0, none⟩)) ?_
        refine rn false ?_
        refine rl hk4 0 (.int .i64 n.kind) ?_
        refine rn false ?_
        refine rs (.bool (n.kind != 8)) ?_
        refine rn false ?_
        refine rv (.bool (n.kind != 8)) ?_
        rcases bcase (n.kind != 8) with c63 | c63
        ·
         have l64 : n.kind = 8 := by simpa using c63
         refine rok c63 ?_
         refine rok c63 ?_
         refine rok c63 ?_
         refine rok c63 ?_
         refine rn false ?_
         refine rp c63 (.bool false) ?_
         refine rs (.bool false) ?_
         refine rv (.bool false) ?_
         refine rn false ?_
         refine ru (.pointer (some ⟨g1, 4, none⟩)) ?_
         refine rn false ?_
         refine rl hk4 4 (.slice A4 n.ops.length c4) ?_
         refine rn false ?_
         refine rs (.int .i64 ((n.ops.length : Nat) : Int)) ?_
         refine rn false ?_
         refine rs (.bool (decide (16 < ((n.ops.length : Nat) : Int)))) ?_
         refine rs (.bool (decide (16 < ((n.ops.length : Nat) : Int)))) ?_
         refine rv (.bool (decide (16 < ((n.ops.length : Nat) : Int)))) ?_
         rcases bcase (decide (16 < ((n.ops.length : Nat) : Int))) with c65 | c65
         ·
          have l66 : ¬ (16 < ((n.ops.length : Nat) : Int)) := of_decide_eq_false c65
          refine rnk c65 ?_
          refine ru (.pointer (some ⟨g1, 5, none⟩)) ?_
          refine rnk c65 ?_
          refine rl hk4 5 (.slice A5 n.ents.length c5) ?_
          refine rnk c65 ?_
          refine rs (.int .i64 ((n.ents.length : Nat) : Int)) ?_
          refine rnk c65 ?_
          refine rs (.bool (decide (16 < ((n.ents.length : Nat) : Int)))) ?_
          refine rp c65 (.bool (decide (16 < ((n.ents.length : Nat) : Int)))) ?_
          refine rw_end ?_
          refine w_cond rfl rfl (fun c67 => ?_) (fun c67 => ?_)
          ·
           have l68 : (16 < ((n.ents.length : Nat) : Int)) := of_decide_eq_true c67
           refine wsr ?_
           refine rv (.bool false) ?_
           refine rw_end ?_
           refine w_ret (post_ret1 rfl rfl ?_)
           have hg_ : goodN n = false := Bool.eq_false_iff.2 (fun h_ => by obtain ⟨h2_, _, _⟩ := good_iff2.1 h_; omega)
           exact ⟨by rw [bool_of hg_], hb3⟩
          ·
           have l69 : ¬ (16 < ((n.ents.length : Nat) : Int)) := of_decide_eq_false c67
           refine w_skip ?_
           refine w_seq ?_
           refine wsr ?_
           refine rv (.int .i64 0) ?_
           refine rw_end ?_
           refine w_block ?_
           refine w_loop (fun m_ G W_ => ∃ (j : Nat), j + m_ = n.ops.length ∧ Below w.heap.size w W_ ∧ (Blk W_ g1 26 #[.int .i64 n.kind, .int .i64 n.fr, .int .i64 n.tw, .slice A3 n.nums.length c3, .slice A4 n.ops.length c4, .slice A5 n.ents.length c5]) ∧ ((n.ops.take j).all opOk = true) ∧ G = [(1, .pointer (some ⟨g1, 0, none⟩)), (5, .int .i64 ((j : Nat) : Int))]) n.ops.length [(1, .pointer (some ⟨g1, 0, none⟩)), (5, .int .i64 0)] ⟨0, by omega, hb3, hk4, (by simp), rfl⟩ ⟨rfl, rfl, trivial⟩ ?_
           rintro m_ G w_L70 ⟨j, hp71, hB_L70, hf72, hf73, rfl⟩
           have hs_w_L70 := hB_L70.size
           have hltb_ := hf72.lt
           have hJ_ := hf73
           refine w_seq ?_
           refine wsr ?_
           refine rv (.int .i64 ((j : Nat) : Int)) ?_
           refine ru (.pointer (some ⟨g1, 4, none⟩)) ?_
           refine rl hf72 4 (.slice A4 n.ops.length c4) ?_
           refine rs (.int .i64 ((n.ops.length : Nat) : Int)) ?_
           refine rs (.bool (decide (((j : Nat) : Int) < ((n.ops.length : Nat) : Int)))) ?_
           refine rw_end ?_
           refine w_cond rfl rfl (fun c74 => ?_) (fun c74 => ?_)
           ·
            have l75 : (((j : Nat) : Int) < ((n.ops.length : Nat) : Int)) := of_decide_eq_true c74
            refine w_skip ?_
            refine w_seq ?_
            refine w_block ?_
            refine wsr ?_
            refine ru (.pointer (some ⟨g1, 4, none⟩)) ?_
            refine rl hf72 4 (.slice A4 n.ops.length c4) ?_
            refine rv (.int .i64 ((j : Nat) : Int)) ?_
            obtain ⟨ad76, hA77, hc78⟩ := flat_at (Kd.C_below hn4 hB_L70) (0, 0, 0, 0, 0) j (by first | omega | decide)
            subst hA77
            have he79 : w_L70.cell? (ad76.add (j * 5)) = some (.int .i64 ((n.ops.getD j (0, 0, 0, 0, 0)).1)) := cell_0 (hc78 0 _ rfl)
            have he80 : w_L70.cell? ⟨(ad76.add (j * 5)).block, (ad76.add (j * 5)).off + 1, none⟩ = some (.int .i64 ((n.ops.getD j (0, 0, 0, 0, 0)).2.1)) := cell_j (hc78 1 _ rfl)
            have he81 : w_L70.cell? ⟨(ad76.add (j * 5)).block, (ad76.add (j * 5)).off + 2, none⟩ = some (.int .i64 ((n.ops.getD j (0, 0, 0, 0, 0)).2.2.1)) := cell_j (hc78 2 _ rfl)
            have he82 : w_L70.cell? ⟨(ad76.add (j * 5)).block, (ad76.add (j * 5)).off + 3, none⟩ = some (.int .i64 ((n.ops.getD j (0, 0, 0, 0, 0)).2.2.2.1)) := cell_j (hc78 3 _ rfl)
            have he83 : w_L70.cell? ⟨(ad76.add (j * 5)).block, (ad76.add (j * 5)).off + 4, none⟩ = some (.int .i64 ((n.ops.getD j (0, 0, 0, 0, 0)).2.2.2.2)) := cell_j (hc78 4 _ rfl)
            refine rz (.pointer (some (ad76.add (j * 5)))) (run_as (run_at_k (P := Try.prog) (e := 73) (sz := 5) (by kernel_rfl) (by kernel_rfl) j (by first | omega | decide) _)) ?_
            refine ru (.pointer (some ⟨(ad76.add (j * 5)).block, (ad76.add (j * 5)).off + 1, none⟩)) ?_
            refine rz (.int .i64 ((n.ops.getD j (0, 0, 0, 0, 0)).2.1)) (by have e0_ := cellOn he80 (Below.refl _ _); simp [go_sem, sEv, sLook, nbeq, i64_w, -List.getD_eq_getElem?_getD, e0_]) ?_
            refine rs (.bool (((n.ops.getD j (0, 0, 0, 0, 0)).2.1) != 1)) ?_
            refine rv (.bool (((n.ops.getD j (0, 0, 0, 0, 0)).2.1) != 1)) ?_
            rcases bcase (((n.ops.getD j (0, 0, 0, 0, 0)).2.1) != 1) with c84 | c84
            ·
             have l85 : ((n.ops.getD j (0, 0, 0, 0, 0)).2.1) = 1 := by simpa using c84
             refine rok c84 ?_
             refine rok c84 ?_
             refine rok c84 ?_
             refine rok c84 ?_
             refine rok c84 ?_
             refine rok c84 ?_
             refine rok c84 ?_
             refine rp c84 (.bool false) ?_
             refine rw_end ?_
             refine w_cond_f rfl rfl rfl ?_
             refine w_skip ?_
             refine w_blk ?_
             refine w_region ?_
             refine rv (.int .i64 ((j : Nat) : Int)) ?_
             refine rw1 (.int .i64 ((j + 1 : Nat) : Int)) ?_
             refine rv (.int .i64 ((j + 1 : Nat) : Int)) ?_
             refine rw_end ?_
             exact w_back (m_ - 1) [(1, .pointer (some ⟨g1, 0, none⟩)), (5, .int .i64 ((j + 1 : Nat) : Int))] (by omega) ⟨rfl, rfl, trivial⟩ ⟨(j + 1), by omega, hB_L70, hf72, (all_step (by omega) hJ_ (op_ok (by omega))), rfl⟩
            ·
             have l86 : ¬ ((n.ops.getD j (0, 0, 0, 0, 0)).2.1) = 1 := by simpa using c84
             refine rnk c84 ?_
             refine ru (.pointer (some ⟨g1, 4, none⟩)) ?_
             refine rnk c84 ?_
             refine rl hf72 4 (.slice (some ad76) n.ops.length c4) ?_
             refine rnk c84 ?_
             refine rv (.int .i64 ((j : Nat) : Int)) ?_
             refine rnk c84 ?_
             obtain ⟨ad87, hA88, hc89⟩ := flat_at (Kd.C_below hn4 hB_L70) (0, 0, 0, 0, 0) j (by first | omega | decide)
             obtain rfl := Option.some.inj hA88
             have he90 : w_L70.cell? (ad76.add (j * 5)) = some (.int .i64 ((n.ops.getD j (0, 0, 0, 0, 0)).1)) := cell_0 (hc89 0 _ rfl)
             have he91 : w_L70.cell? ⟨(ad76.add (j * 5)).block, (ad76.add (j * 5)).off + 1, none⟩ = some (.int .i64 ((n.ops.getD j (0, 0, 0, 0, 0)).2.1)) := cell_j (hc89 1 _ rfl)
             have he92 : w_L70.cell? ⟨(ad76.add (j * 5)).block, (ad76.add (j * 5)).off + 2, none⟩ = some (.int .i64 ((n.ops.getD j (0, 0, 0, 0, 0)).2.2.1)) := cell_j (hc89 2 _ rfl)
             have he93 : w_L70.cell? ⟨(ad76.add (j * 5)).block, (ad76.add (j * 5)).off + 3, none⟩ = some (.int .i64 ((n.ops.getD j (0, 0, 0, 0, 0)).2.2.2.1)) := cell_j (hc89 3 _ rfl)
             have he94 : w_L70.cell? ⟨(ad76.add (j * 5)).block, (ad76.add (j * 5)).off + 4, none⟩ = some (.int .i64 ((n.ops.getD j (0, 0, 0, 0, 0)).2.2.2.2)) := cell_j (hc89 4 _ rfl)
             refine rz (.pointer (some (ad76.add (j * 5)))) (run_as (run_at_k (P := Try.prog) (e := 73) (sz := 5) (by kernel_rfl) (by kernel_rfl) j (by first | omega | decide) _)) ?_
             refine rnk c84 ?_
             refine ru (.pointer (some ⟨(ad76.add (j * 5)).block, (ad76.add (j * 5)).off + 1, none⟩)) ?_
             refine rnk c84 ?_
             refine rz (.int .i64 ((n.ops.getD j (0, 0, 0, 0, 0)).2.1)) (by have e0_ := cellOn he91 (Below.refl _ _); simp [go_sem, sEv, sLook, nbeq, i64_w, -List.getD_eq_getElem?_getD, e0_]) ?_
             refine rnk c84 ?_
             refine rs (.bool (((n.ops.getD j (0, 0, 0, 0, 0)).2.1) != 2)) ?_
             refine rp c84 (.bool (((n.ops.getD j (0, 0, 0, 0, 0)).2.1) != 2)) ?_
             refine rw_end ?_
             refine w_cond rfl rfl (fun c95 => ?_) (fun c95 => ?_)
             ·
              have l96 : ¬ ((n.ops.getD j (0, 0, 0, 0, 0)).2.1) = 2 := by simpa using c95
              refine wsr ?_
              refine rv (.bool false) ?_
              refine rw_end ?_
              refine w_ret (post_ret1 rfl rfl ?_)
              have hg_ : goodN n = false := Bool.eq_false_iff.2 (fun h_ => by have h2_ := (good_iff2.1 h_).2.2; rw [all_no (show j < n.ops.length by omega) (op_no (by omega) (by omega))] at h2_; cases h2_)
              exact ⟨by rw [bool_of hg_], hB_L70⟩
             ·
              have l97 : ((n.ops.getD j (0, 0, 0, 0, 0)).2.1) = 2 := by simpa using c95
              refine w_skip ?_
              refine w_blk ?_
              refine w_region ?_
              refine rv (.int .i64 ((j : Nat) : Int)) ?_
              refine rw1 (.int .i64 ((j + 1 : Nat) : Int)) ?_
              refine rv (.int .i64 ((j + 1 : Nat) : Int)) ?_
              refine rw_end ?_
              exact w_back (m_ - 1) [(1, .pointer (some ⟨g1, 0, none⟩)), (5, .int .i64 ((j + 1 : Nat) : Int))] (by omega) ⟨rfl, rfl, trivial⟩ ⟨(j + 1), by omega, hB_L70, hf72, (all_step (by omega) hJ_ (op_ok (by omega))), rfl⟩
           ·
            have l98 : ¬ (((j : Nat) : Int) < ((n.ops.length : Nat) : Int)) := of_decide_eq_false c74
            refine w_exit rfl ?_
            refine wsr ?_
            refine rv (.bool true) ?_
            refine rw_end ?_
            refine w_ret (post_ret1 rfl rfl ?_)
            have hg_ : goodN n = true := good_iff2.2 ⟨⟨by omega, by omega, by omega, by omega, by omega, by omega, by omega, by omega⟩, by simpa using cF, by have h_ := hJ_; rwa [List.take_of_length_le (by omega)] at h_⟩
            exact ⟨by rw [bool_of hg_], hB_L70⟩
         ·
          have l99 : (16 < ((n.ops.length : Nat) : Int)) := of_decide_eq_true c65
          refine rok c65 ?_
          refine rok c65 ?_
          refine rok c65 ?_
          refine rok c65 ?_
          refine rp c65 (.bool true) ?_
          refine rw_end ?_
          refine w_cond_t rfl rfl rfl ?_
          refine wsr ?_
          refine rv (.bool false) ?_
          refine rw_end ?_
          refine w_ret (post_ret1 rfl rfl ?_)
          have hg_ : goodN n = false := Bool.eq_false_iff.2 (fun h_ => by obtain ⟨h2_, _, _⟩ := good_iff2.1 h_; omega)
          exact ⟨by rw [bool_of hg_], hb3⟩
        ·
         have l100 : ¬ n.kind = 8 := by simpa using c63
         refine rnk c63 ?_
         refine ru (.pointer (some ⟨g1, 5, none⟩)) ?_
         refine rnk c63 ?_
         refine rl hk4 5 (.slice A5 n.ents.length c5) ?_
         refine rnk c63 ?_
         refine rs (.int .i64 ((n.ents.length : Nat) : Int)) ?_
         refine rnk c63 ?_
         refine rs (.bool (decide (0 < ((n.ents.length : Nat) : Int)))) ?_
         refine rn false ?_
         refine rp c63 (.bool (decide (0 < ((n.ents.length : Nat) : Int)))) ?_
         refine rs (.bool (decide (0 < ((n.ents.length : Nat) : Int)))) ?_
         refine rv (.bool (decide (0 < ((n.ents.length : Nat) : Int)))) ?_
         rcases bcase (decide (0 < ((n.ents.length : Nat) : Int))) with c101 | c101
         ·
          have l102 : ¬ (0 < ((n.ents.length : Nat) : Int)) := of_decide_eq_false c101
          refine rnk c101 ?_
          refine ru (.pointer (some ⟨g1, 4, none⟩)) ?_
          refine rnk c101 ?_
          refine rl hk4 4 (.slice A4 n.ops.length c4) ?_
          refine rnk c101 ?_
          refine rs (.int .i64 ((n.ops.length : Nat) : Int)) ?_
          refine rnk c101 ?_
          refine rs (.bool (decide (16 < ((n.ops.length : Nat) : Int)))) ?_
          refine rp c101 (.bool (decide (16 < ((n.ops.length : Nat) : Int)))) ?_
          refine rv (.bool (decide (16 < ((n.ops.length : Nat) : Int)))) ?_
          rcases bcase (decide (16 < ((n.ops.length : Nat) : Int))) with c103 | c103
          ·
           have l104 : ¬ (16 < ((n.ops.length : Nat) : Int)) := of_decide_eq_false c103
           refine rnk c103 ?_
           refine ru (.pointer (some ⟨g1, 5, none⟩)) ?_
           refine rnk c103 ?_
           refine rl hk4 5 (.slice A5 n.ents.length c5) ?_
           refine rnk c103 ?_
           refine rs (.int .i64 ((n.ents.length : Nat) : Int)) ?_
           refine rnk c103 ?_
           refine rs (.bool (decide (16 < ((n.ents.length : Nat) : Int)))) ?_
           refine rp c103 (.bool (decide (16 < ((n.ents.length : Nat) : Int)))) ?_
           refine rw_end ?_
           refine w_cond rfl rfl (fun c105 => ?_) (fun c105 => ?_)
           ·
            have l106 : (16 < ((n.ents.length : Nat) : Int)) := of_decide_eq_true c105
            refine wsr ?_
            refine rv (.bool false) ?_
            refine rw_end ?_
            refine w_ret (post_ret1 rfl rfl ?_)
            have hg_ : goodN n = false := Bool.eq_false_iff.2 (fun h_ => by obtain ⟨h2_, _, _⟩ := good_iff2.1 h_; omega)
            exact ⟨by rw [bool_of hg_], hb3⟩
           ·
            have l107 : ¬ (16 < ((n.ents.length : Nat) : Int)) := of_decide_eq_false c105
            refine w_skip ?_
            refine w_seq ?_
            refine wsr ?_
            refine rv (.int .i64 0) ?_
            refine rw_end ?_
            refine w_block ?_
            refine w_loop (fun m_ G W_ => ∃ (j : Nat), j + m_ = n.ops.length ∧ Below w.heap.size w W_ ∧ (Blk W_ g1 26 #[.int .i64 n.kind, .int .i64 n.fr, .int .i64 n.tw, .slice A3 n.nums.length c3, .slice A4 n.ops.length c4, .slice A5 n.ents.length c5]) ∧ ((n.ops.take j).all opOk = true) ∧ G = [(1, .pointer (some ⟨g1, 0, none⟩)), (5, .int .i64 ((j : Nat) : Int))]) n.ops.length [(1, .pointer (some ⟨g1, 0, none⟩)), (5, .int .i64 0)] ⟨0, by omega, hb3, hk4, (by simp), rfl⟩ ⟨rfl, rfl, trivial⟩ ?_
            rintro m_ G w_L108 ⟨j, hp109, hB_L108, hf110, hf111, rfl⟩
            have hs_w_L108 := hB_L108.size
            have hltb_ := hf110.lt
            have hJ_ := hf111
            refine w_seq ?_
            refine wsr ?_
            refine rv (.int .i64 ((j : Nat) : Int)) ?_
            refine ru (.pointer (some ⟨g1, 4, none⟩)) ?_
            refine rl hf110 4 (.slice A4 n.ops.length c4) ?_
            refine rs (.int .i64 ((n.ops.length : Nat) : Int)) ?_
            refine rs (.bool (decide (((j : Nat) : Int) < ((n.ops.length : Nat) : Int)))) ?_
            refine rw_end ?_
            refine w_cond rfl rfl (fun c112 => ?_) (fun c112 => ?_)
            ·
             have l113 : (((j : Nat) : Int) < ((n.ops.length : Nat) : Int)) := of_decide_eq_true c112
             refine w_skip ?_
             refine w_seq ?_
             refine w_block ?_
             refine wsr ?_
             refine ru (.pointer (some ⟨g1, 4, none⟩)) ?_
             refine rl hf110 4 (.slice A4 n.ops.length c4) ?_
             refine rv (.int .i64 ((j : Nat) : Int)) ?_
             obtain ⟨ad114, hA115, hc116⟩ := flat_at (Kd.C_below hn4 hB_L108) (0, 0, 0, 0, 0) j (by first | omega | decide)
             subst hA115
             have he117 : w_L108.cell? (ad114.add (j * 5)) = some (.int .i64 ((n.ops.getD j (0, 0, 0, 0, 0)).1)) := cell_0 (hc116 0 _ rfl)
             have he118 : w_L108.cell? ⟨(ad114.add (j * 5)).block, (ad114.add (j * 5)).off + 1, none⟩ = some (.int .i64 ((n.ops.getD j (0, 0, 0, 0, 0)).2.1)) := cell_j (hc116 1 _ rfl)
             have he119 : w_L108.cell? ⟨(ad114.add (j * 5)).block, (ad114.add (j * 5)).off + 2, none⟩ = some (.int .i64 ((n.ops.getD j (0, 0, 0, 0, 0)).2.2.1)) := cell_j (hc116 2 _ rfl)
             have he120 : w_L108.cell? ⟨(ad114.add (j * 5)).block, (ad114.add (j * 5)).off + 3, none⟩ = some (.int .i64 ((n.ops.getD j (0, 0, 0, 0, 0)).2.2.2.1)) := cell_j (hc116 3 _ rfl)
             have he121 : w_L108.cell? ⟨(ad114.add (j * 5)).block, (ad114.add (j * 5)).off + 4, none⟩ = some (.int .i64 ((n.ops.getD j (0, 0, 0, 0, 0)).2.2.2.2)) := cell_j (hc116 4 _ rfl)
             refine rz (.pointer (some (ad114.add (j * 5)))) (run_as (run_at_k (P := Try.prog) (e := 73) (sz := 5) (by kernel_rfl) (by kernel_rfl) j (by first | omega | decide) _)) ?_
             refine ru (.pointer (some ⟨(ad114.add (j * 5)).block, (ad114.add (j * 5)).off + 1, none⟩)) ?_
             refine rz (.int .i64 ((n.ops.getD j (0, 0, 0, 0, 0)).2.1)) (by have e0_ := cellOn he118 (Below.refl _ _); simp [go_sem, sEv, sLook, nbeq, i64_w, -List.getD_eq_getElem?_getD, e0_]) ?_
             refine rs (.bool (((n.ops.getD j (0, 0, 0, 0, 0)).2.1) != 1)) ?_
             refine rv (.bool (((n.ops.getD j (0, 0, 0, 0, 0)).2.1) != 1)) ?_
             rcases bcase (((n.ops.getD j (0, 0, 0, 0, 0)).2.1) != 1) with c122 | c122
             ·
              have l123 : ((n.ops.getD j (0, 0, 0, 0, 0)).2.1) = 1 := by simpa using c122
              refine rok c122 ?_
              refine rok c122 ?_
              refine rok c122 ?_
              refine rok c122 ?_
              refine rok c122 ?_
              refine rok c122 ?_
              refine rok c122 ?_
              refine rp c122 (.bool false) ?_
              refine rw_end ?_
              refine w_cond_f rfl rfl rfl ?_
              refine w_skip ?_
              refine w_blk ?_
              refine w_region ?_
              refine rv (.int .i64 ((j : Nat) : Int)) ?_
              refine rw1 (.int .i64 ((j + 1 : Nat) : Int)) ?_
              refine rv (.int .i64 ((j + 1 : Nat) : Int)) ?_
              refine rw_end ?_
              exact w_back (m_ - 1) [(1, .pointer (some ⟨g1, 0, none⟩)), (5, .int .i64 ((j + 1 : Nat) : Int))] (by omega) ⟨rfl, rfl, trivial⟩ ⟨(j + 1), by omega, hB_L108, hf110, (all_step (by omega) hJ_ (op_ok (by omega))), rfl⟩
             ·
              have l124 : ¬ ((n.ops.getD j (0, 0, 0, 0, 0)).2.1) = 1 := by simpa using c122
              refine rnk c122 ?_
              refine ru (.pointer (some ⟨g1, 4, none⟩)) ?_
              refine rnk c122 ?_
              refine rl hf110 4 (.slice (some ad114) n.ops.length c4) ?_
              refine rnk c122 ?_
              refine rv (.int .i64 ((j : Nat) : Int)) ?_
              refine rnk c122 ?_
              obtain ⟨ad125, hA126, hc127⟩ := flat_at (Kd.C_below hn4 hB_L108) (0, 0, 0, 0, 0) j (by first | omega | decide)
              obtain rfl := Option.some.inj hA126
              have he128 : w_L108.cell? (ad114.add (j * 5)) = some (.int .i64 ((n.ops.getD j (0, 0, 0, 0, 0)).1)) := cell_0 (hc127 0 _ rfl)
              have he129 : w_L108.cell? ⟨(ad114.add (j * 5)).block, (ad114.add (j * 5)).off + 1, none⟩ = some (.int .i64 ((n.ops.getD j (0, 0, 0, 0, 0)).2.1)) := cell_j (hc127 1 _ rfl)
              have he130 : w_L108.cell? ⟨(ad114.add (j * 5)).block, (ad114.add (j * 5)).off + 2, none⟩ = some (.int .i64 ((n.ops.getD j (0, 0, 0, 0, 0)).2.2.1)) := cell_j (hc127 2 _ rfl)
              have he131 : w_L108.cell? ⟨(ad114.add (j * 5)).block, (ad114.add (j * 5)).off + 3, none⟩ = some (.int .i64 ((n.ops.getD j (0, 0, 0, 0, 0)).2.2.2.1)) := cell_j (hc127 3 _ rfl)
              have he132 : w_L108.cell? ⟨(ad114.add (j * 5)).block, (ad114.add (j * 5)).off + 4, none⟩ = some (.int .i64 ((n.ops.getD j (0, 0, 0, 0, 0)).2.2.2.2)) := cell_j (hc127 4 _ rfl)
              refine rz (.pointer (some (ad114.add (j * 5)))) (run_as (run_at_k (P := Try.prog) (e := 73) (sz := 5) (by kernel_rfl) (by kernel_rfl) j (by first | omega | decide) _)) ?_
              refine rnk c122 ?_
              refine ru (.pointer (some ⟨(ad114.add (j * 5)).block, (ad114.add (j * 5)).off + 1, none⟩)) ?_
              refine rnk c122 ?_
              refine rz (.int .i64 ((n.ops.getD j (0, 0, 0, 0, 0)).2.1)) (by have e0_ := cellOn he129 (Below.refl _ _); simp [go_sem, sEv, sLook, nbeq, i64_w, -List.getD_eq_getElem?_getD, e0_]) ?_
              refine rnk c122 ?_
              refine rs (.bool (((n.ops.getD j (0, 0, 0, 0, 0)).2.1) != 2)) ?_
              refine rp c122 (.bool (((n.ops.getD j (0, 0, 0, 0, 0)).2.1) != 2)) ?_
              refine rw_end ?_
              refine w_cond rfl rfl (fun c133 => ?_) (fun c133 => ?_)
              ·
               have l134 : ¬ ((n.ops.getD j (0, 0, 0, 0, 0)).2.1) = 2 := by simpa using c133
               refine wsr ?_
               refine rv (.bool false) ?_
               refine rw_end ?_
               refine w_ret (post_ret1 rfl rfl ?_)
               have hg_ : goodN n = false := Bool.eq_false_iff.2 (fun h_ => by have h2_ := (good_iff2.1 h_).2.2; rw [all_no (show j < n.ops.length by omega) (op_no (by omega) (by omega))] at h2_; cases h2_)
               exact ⟨by rw [bool_of hg_], hB_L108⟩
              ·
               have l135 : ((n.ops.getD j (0, 0, 0, 0, 0)).2.1) = 2 := by simpa using c133
               refine w_skip ?_
               refine w_blk ?_
               refine w_region ?_
               refine rv (.int .i64 ((j : Nat) : Int)) ?_
               refine rw1 (.int .i64 ((j + 1 : Nat) : Int)) ?_
               refine rv (.int .i64 ((j + 1 : Nat) : Int)) ?_
               refine rw_end ?_
               exact w_back (m_ - 1) [(1, .pointer (some ⟨g1, 0, none⟩)), (5, .int .i64 ((j + 1 : Nat) : Int))] (by omega) ⟨rfl, rfl, trivial⟩ ⟨(j + 1), by omega, hB_L108, hf110, (all_step (by omega) hJ_ (op_ok (by omega))), rfl⟩
            ·
             have l136 : ¬ (((j : Nat) : Int) < ((n.ops.length : Nat) : Int)) := of_decide_eq_false c112
             refine w_exit rfl ?_
             refine wsr ?_
             refine rv (.bool true) ?_
             refine rw_end ?_
             refine w_ret (post_ret1 rfl rfl ?_)
             have hg_ : goodN n = true := good_iff2.2 ⟨⟨by omega, by omega, by omega, by omega, by omega, by omega, by omega, by omega⟩, by simpa using cF, by have h_ := hJ_; rwa [List.take_of_length_le (by omega)] at h_⟩
             exact ⟨by rw [bool_of hg_], hB_L108⟩
          ·
           have l137 : (16 < ((n.ops.length : Nat) : Int)) := of_decide_eq_true c103
           refine rok c103 ?_
           refine rok c103 ?_
           refine rok c103 ?_
           refine rok c103 ?_
           refine rp c103 (.bool true) ?_
           refine rw_end ?_
           refine w_cond_t rfl rfl rfl ?_
           refine wsr ?_
           refine rv (.bool false) ?_
           refine rw_end ?_
           refine w_ret (post_ret1 rfl rfl ?_)
           have hg_ : goodN n = false := Bool.eq_false_iff.2 (fun h_ => by obtain ⟨h2_, _, _⟩ := good_iff2.1 h_; omega)
           exact ⟨by rw [bool_of hg_], hb3⟩
         ·
          have l138 : (0 < ((n.ents.length : Nat) : Int)) := of_decide_eq_true c101
          refine rok c101 ?_
          refine rok c101 ?_
          refine rok c101 ?_
          refine rok c101 ?_
          refine rp c101 (.bool true) ?_
          refine rv (.bool true) ?_
          refine ro true ?_
          refine ro true ?_
          refine ro true ?_
          refine ro true ?_
          refine rs (.bool true) ?_
          refine rw_end ?_
          refine w_cond_t rfl rfl rfl ?_
          refine wsr ?_
          refine rv (.bool false) ?_
          refine rw_end ?_
          refine w_ret (post_ret1 rfl rfl ?_)
          have hg_ : goodN n = false := Bool.eq_false_iff.2 (fun h_ => by obtain ⟨h2_, _, _⟩ := good_iff2.1 h_; omega)
          exact ⟨by rw [bool_of hg_], hb3⟩
       ·
        have l139 : ¬ n.kind = 7 := by simpa using c61
        refine rnk c61 ?_
        refine ru (.pointer (some ⟨g1, 4, none⟩)) ?_
        refine rnk c61 ?_
        refine rl hk4 4 (.slice A4 n.ops.length c4) ?_
        refine rnk c61 ?_
        refine rs (.int .i64 ((n.ops.length : Nat) : Int)) ?_
        refine rnk c61 ?_
        refine rs (.bool (decide (0 < ((n.ops.length : Nat) : Int)))) ?_
        refine rp c61 (.bool (decide (0 < ((n.ops.length : Nat) : Int)))) ?_
        refine rv (.bool (decide (0 < ((n.ops.length : Nat) : Int)))) ?_
        rcases bcase (decide (0 < ((n.ops.length : Nat) : Int))) with c140 | c140
        ·
         have l141 : ¬ (0 < ((n.ops.length : Nat) : Int)) := of_decide_eq_false c140
         refine rnk c140 ?_
         refine ru (.pointer (some ⟨g1, 0, none⟩)) ?_
         refine rnk c140 ?_
         refine rl hk4 0 (.int .i64 n.kind) ?_
         refine rnk c140 ?_
         refine rs (.bool (n.kind != 8)) ?_
         refine rnk c140 ?_
         refine rv (.bool (n.kind != 8)) ?_
         rcases bcase (n.kind != 8) with c142 | c142
         ·
          have l143 : n.kind = 8 := by simpa using c142
          refine rok c142 ?_
          refine rok c142 ?_
          refine rok c142 ?_
          refine rok c142 ?_
          refine rnk c140 ?_
          refine rp c142 (.bool false) ?_
          refine rp c140 (.bool false) ?_
          refine rv (.bool false) ?_
          refine rn false ?_
          refine ru (.pointer (some ⟨g1, 4, none⟩)) ?_
          refine rn false ?_
          refine rl hk4 4 (.slice A4 n.ops.length c4) ?_
          refine rn false ?_
          refine rs (.int .i64 ((n.ops.length : Nat) : Int)) ?_
          refine rn false ?_
          refine rs (.bool (decide (16 < ((n.ops.length : Nat) : Int)))) ?_
          refine rs (.bool (decide (16 < ((n.ops.length : Nat) : Int)))) ?_
          refine rv (.bool (decide (16 < ((n.ops.length : Nat) : Int)))) ?_
          rcases bcase (decide (16 < ((n.ops.length : Nat) : Int))) with c144 | c144
          ·
           have l145 : ¬ (16 < ((n.ops.length : Nat) : Int)) := of_decide_eq_false c144
           refine rnk c144 ?_
           refine ru (.pointer (some ⟨g1, 5, none⟩)) ?_
           refine rnk c144 ?_
           refine rl hk4 5 (.slice A5 n.ents.length c5) ?_
           refine rnk c144 ?_
           refine rs (.int .i64 ((n.ents.length : Nat) : Int)) ?_
           refine rnk c144 ?_
           refine rs (.bool (decide (16 < ((n.ents.length : Nat) : Int)))) ?_
           refine rp c144 (.bool (decide (16 < ((n.ents.length : Nat) : Int)))) ?_
           refine rw_end ?_
           refine w_cond rfl rfl (fun c146 => ?_) (fun c146 => ?_)
           ·
            have l147 : (16 < ((n.ents.length : Nat) : Int)) := of_decide_eq_true c146
            refine wsr ?_
            refine rv (.bool false) ?_
            refine rw_end ?_
            refine w_ret (post_ret1 rfl rfl ?_)
            have hg_ : goodN n = false := Bool.eq_false_iff.2 (fun h_ => by obtain ⟨h2_, _, _⟩ := good_iff2.1 h_; omega)
            exact ⟨by rw [bool_of hg_], hb3⟩
           ·
            have l148 : ¬ (16 < ((n.ents.length : Nat) : Int)) := of_decide_eq_false c146
            refine w_skip ?_
            refine w_seq ?_
            refine wsr ?_
            refine rv (.int .i64 0) ?_
            refine rw_end ?_
            refine w_block ?_
            refine w_loop (fun m_ G W_ => ∃ (j : Nat), j + m_ = n.ops.length ∧ Below w.heap.size w W_ ∧ (Blk W_ g1 26 #[.int .i64 n.kind, .int .i64 n.fr, .int .i64 n.tw, .slice A3 n.nums.length c3, .slice A4 n.ops.length c4, .slice A5 n.ents.length c5]) ∧ ((n.ops.take j).all opOk = true) ∧ G = [(1, .pointer (some ⟨g1, 0, none⟩)), (5, .int .i64 ((j : Nat) : Int))]) n.ops.length [(1, .pointer (some ⟨g1, 0, none⟩)), (5, .int .i64 0)] ⟨0, by omega, hb3, hk4, (by simp), rfl⟩ ⟨rfl, rfl, trivial⟩ ?_
            rintro m_ G w_L149 ⟨j, hp150, hB_L149, hf151, hf152, rfl⟩
            have hs_w_L149 := hB_L149.size
            have hltb_ := hf151.lt
            have hJ_ := hf152
            refine w_seq ?_
            refine wsr ?_
            refine rv (.int .i64 ((j : Nat) : Int)) ?_
            refine ru (.pointer (some ⟨g1, 4, none⟩)) ?_
            refine rl hf151 4 (.slice A4 n.ops.length c4) ?_
            refine rs (.int .i64 ((n.ops.length : Nat) : Int)) ?_
            refine rs (.bool (decide (((j : Nat) : Int) < ((n.ops.length : Nat) : Int)))) ?_
            refine rw_end ?_
            refine w_cond rfl rfl (fun c153 => ?_) (fun c153 => ?_)
            ·
             have l154 : (((j : Nat) : Int) < ((n.ops.length : Nat) : Int)) := of_decide_eq_true c153
             refine w_skip ?_
             refine w_seq ?_
             refine w_block ?_
             refine wsr ?_
             refine ru (.pointer (some ⟨g1, 4, none⟩)) ?_
             refine rl hf151 4 (.slice A4 n.ops.length c4) ?_
             refine rv (.int .i64 ((j : Nat) : Int)) ?_
             obtain ⟨ad155, hA156, hc157⟩ := flat_at (Kd.C_below hn4 hB_L149) (0, 0, 0, 0, 0) j (by first | omega | decide)
             subst hA156
             have he158 : w_L149.cell? (ad155.add (j * 5)) = some (.int .i64 ((n.ops.getD j (0, 0, 0, 0, 0)).1)) := cell_0 (hc157 0 _ rfl)
             have he159 : w_L149.cell? ⟨(ad155.add (j * 5)).block, (ad155.add (j * 5)).off + 1, none⟩ = some (.int .i64 ((n.ops.getD j (0, 0, 0, 0, 0)).2.1)) := cell_j (hc157 1 _ rfl)
             have he160 : w_L149.cell? ⟨(ad155.add (j * 5)).block, (ad155.add (j * 5)).off + 2, none⟩ = some (.int .i64 ((n.ops.getD j (0, 0, 0, 0, 0)).2.2.1)) := cell_j (hc157 2 _ rfl)
             have he161 : w_L149.cell? ⟨(ad155.add (j * 5)).block, (ad155.add (j * 5)).off + 3, none⟩ = some (.int .i64 ((n.ops.getD j (0, 0, 0, 0, 0)).2.2.2.1)) := cell_j (hc157 3 _ rfl)
             have he162 : w_L149.cell? ⟨(ad155.add (j * 5)).block, (ad155.add (j * 5)).off + 4, none⟩ = some (.int .i64 ((n.ops.getD j (0, 0, 0, 0, 0)).2.2.2.2)) := cell_j (hc157 4 _ rfl)
             refine rz (.pointer (some (ad155.add (j * 5)))) (run_as (run_at_k (P := Try.prog) (e := 73) (sz := 5) (by kernel_rfl) (by kernel_rfl) j (by first | omega | decide) _)) ?_
             refine ru (.pointer (some ⟨(ad155.add (j * 5)).block, (ad155.add (j * 5)).off + 1, none⟩)) ?_
             refine rz (.int .i64 ((n.ops.getD j (0, 0, 0, 0, 0)).2.1)) (by have e0_ := cellOn he159 (Below.refl _ _); simp [go_sem, sEv, sLook, nbeq, i64_w, -List.getD_eq_getElem?_getD, e0_]) ?_
             refine rs (.bool (((n.ops.getD j (0, 0, 0, 0, 0)).2.1) != 1)) ?_
             refine rv (.bool (((n.ops.getD j (0, 0, 0, 0, 0)).2.1) != 1)) ?_
             rcases bcase (((n.ops.getD j (0, 0, 0, 0, 0)).2.1) != 1) with c163 | c163
             ·
              have l164 : ((n.ops.getD j (0, 0, 0, 0, 0)).2.1) = 1 := by simpa using c163
              refine rok c163 ?_
              refine rok c163 ?_
              refine rok c163 ?_
              refine rok c163 ?_
              refine rok c163 ?_
              refine rok c163 ?_
              refine rok c163 ?_
              refine rp c163 (.bool false) ?_
              refine rw_end ?_
              refine w_cond_f rfl rfl rfl ?_
              refine w_skip ?_
              refine w_blk ?_
              refine w_region ?_
              refine rv (.int .i64 ((j : Nat) : Int)) ?_
              refine rw1 (.int .i64 ((j + 1 : Nat) : Int)) ?_
              refine rv (.int .i64 ((j + 1 : Nat) : Int)) ?_
              refine rw_end ?_
              exact w_back (m_ - 1) [(1, .pointer (some ⟨g1, 0, none⟩)), (5, .int .i64 ((j + 1 : Nat) : Int))] (by omega) ⟨rfl, rfl, trivial⟩ ⟨(j + 1), by omega, hB_L149, hf151, (all_step (by omega) hJ_ (op_ok (by omega))), rfl⟩
             ·
              have l165 : ¬ ((n.ops.getD j (0, 0, 0, 0, 0)).2.1) = 1 := by simpa using c163
              refine rnk c163 ?_
              refine ru (.pointer (some ⟨g1, 4, none⟩)) ?_
              refine rnk c163 ?_
              refine rl hf151 4 (.slice (some ad155) n.ops.length c4) ?_
              refine rnk c163 ?_
              refine rv (.int .i64 ((j : Nat) : Int)) ?_
              refine rnk c163 ?_
              obtain ⟨ad166, hA167, hc168⟩ := flat_at (Kd.C_below hn4 hB_L149) (0, 0, 0, 0, 0) j (by first | omega | decide)
              obtain rfl := Option.some.inj hA167
              have he169 : w_L149.cell? (ad155.add (j * 5)) = some (.int .i64 ((n.ops.getD j (0, 0, 0, 0, 0)).1)) := cell_0 (hc168 0 _ rfl)
              have he170 : w_L149.cell? ⟨(ad155.add (j * 5)).block, (ad155.add (j * 5)).off + 1, none⟩ = some (.int .i64 ((n.ops.getD j (0, 0, 0, 0, 0)).2.1)) := cell_j (hc168 1 _ rfl)
              have he171 : w_L149.cell? ⟨(ad155.add (j * 5)).block, (ad155.add (j * 5)).off + 2, none⟩ = some (.int .i64 ((n.ops.getD j (0, 0, 0, 0, 0)).2.2.1)) := cell_j (hc168 2 _ rfl)
              have he172 : w_L149.cell? ⟨(ad155.add (j * 5)).block, (ad155.add (j * 5)).off + 3, none⟩ = some (.int .i64 ((n.ops.getD j (0, 0, 0, 0, 0)).2.2.2.1)) := cell_j (hc168 3 _ rfl)
              have he173 : w_L149.cell? ⟨(ad155.add (j * 5)).block, (ad155.add (j * 5)).off + 4, none⟩ = some (.int .i64 ((n.ops.getD j (0, 0, 0, 0, 0)).2.2.2.2)) := cell_j (hc168 4 _ rfl)
              refine rz (.pointer (some (ad155.add (j * 5)))) (run_as (run_at_k (P := Try.prog) (e := 73) (sz := 5) (by kernel_rfl) (by kernel_rfl) j (by first | omega | decide) _)) ?_
              refine rnk c163 ?_
              refine ru (.pointer (some ⟨(ad155.add (j * 5)).block, (ad155.add (j * 5)).off + 1, none⟩)) ?_
              refine rnk c163 ?_
              refine rz (.int .i64 ((n.ops.getD j (0, 0, 0, 0, 0)).2.1)) (by have e0_ := cellOn he170 (Below.refl _ _); simp [go_sem, sEv, sLook, nbeq, i64_w, -List.getD_eq_getElem?_getD, e0_]) ?_
              refine rnk c163 ?_
              refine rs (.bool (((n.ops.getD j (0, 0, 0, 0, 0)).2.1) != 2)) ?_
              refine rp c163 (.bool (((n.ops.getD j (0, 0, 0, 0, 0)).2.1) != 2)) ?_
              refine rw_end ?_
              refine w_cond rfl rfl (fun c174 => ?_) (fun c174 => ?_)
              ·
               have l175 : ¬ ((n.ops.getD j (0, 0, 0, 0, 0)).2.1) = 2 := by simpa using c174
               refine wsr ?_
               refine rv (.bool false) ?_
               refine rw_end ?_
               refine w_ret (post_ret1 rfl rfl ?_)
               have hg_ : goodN n = false := Bool.eq_false_iff.2 (fun h_ => by have h2_ := (good_iff2.1 h_).2.2; rw [all_no (show j < n.ops.length by omega) (op_no (by omega) (by omega))] at h2_; cases h2_)
               exact ⟨by rw [bool_of hg_], hB_L149⟩
              ·
               have l176 : ((n.ops.getD j (0, 0, 0, 0, 0)).2.1) = 2 := by simpa using c174
               refine w_skip ?_
               refine w_blk ?_
               refine w_region ?_
               refine rv (.int .i64 ((j : Nat) : Int)) ?_
               refine rw1 (.int .i64 ((j + 1 : Nat) : Int)) ?_
               refine rv (.int .i64 ((j + 1 : Nat) : Int)) ?_
               refine rw_end ?_
               exact w_back (m_ - 1) [(1, .pointer (some ⟨g1, 0, none⟩)), (5, .int .i64 ((j + 1 : Nat) : Int))] (by omega) ⟨rfl, rfl, trivial⟩ ⟨(j + 1), by omega, hB_L149, hf151, (all_step (by omega) hJ_ (op_ok (by omega))), rfl⟩
            ·
             have l177 : ¬ (((j : Nat) : Int) < ((n.ops.length : Nat) : Int)) := of_decide_eq_false c153
             refine w_exit rfl ?_
             refine wsr ?_
             refine rv (.bool true) ?_
             refine rw_end ?_
             refine w_ret (post_ret1 rfl rfl ?_)
             have hg_ : goodN n = true := good_iff2.2 ⟨⟨by omega, by omega, by omega, by omega, by omega, by omega, by omega, by omega⟩, by simpa using cF, by have h_ := hJ_; rwa [List.take_of_length_le (by omega)] at h_⟩
             exact ⟨by rw [bool_of hg_], hB_L149⟩
          ·
           have l178 : (16 < ((n.ops.length : Nat) : Int)) := of_decide_eq_true c144
           refine rok c144 ?_
           refine rok c144 ?_
           refine rok c144 ?_
           refine rok c144 ?_
           refine rp c144 (.bool true) ?_
           refine rw_end ?_
           refine w_cond_t rfl rfl rfl ?_
           refine wsr ?_
           refine rv (.bool false) ?_
           refine rw_end ?_
           refine w_ret (post_ret1 rfl rfl ?_)
           have hg_ : goodN n = false := Bool.eq_false_iff.2 (fun h_ => by obtain ⟨h2_, _, _⟩ := good_iff2.1 h_; omega)
           exact ⟨by rw [bool_of hg_], hb3⟩
         ·
          have l179 : ¬ n.kind = 8 := by simpa using c142
          refine rnk c142 ?_
          refine ru (.pointer (some ⟨g1, 5, none⟩)) ?_
          refine rnk c142 ?_
          refine rl hk4 5 (.slice A5 n.ents.length c5) ?_
          refine rnk c142 ?_
          refine rs (.int .i64 ((n.ents.length : Nat) : Int)) ?_
          refine rnk c142 ?_
          refine rs (.bool (decide (0 < ((n.ents.length : Nat) : Int)))) ?_
          refine rnk c140 ?_
          refine rp c142 (.bool (decide (0 < ((n.ents.length : Nat) : Int)))) ?_
          refine rp c140 (.bool (decide (0 < ((n.ents.length : Nat) : Int)))) ?_
          refine rv (.bool (decide (0 < ((n.ents.length : Nat) : Int)))) ?_
          rcases bcase (decide (0 < ((n.ents.length : Nat) : Int))) with c180 | c180
          ·
           have l181 : ¬ (0 < ((n.ents.length : Nat) : Int)) := of_decide_eq_false c180
           refine rnk c180 ?_
           refine ru (.pointer (some ⟨g1, 4, none⟩)) ?_
           refine rnk c180 ?_
           refine rl hk4 4 (.slice A4 n.ops.length c4) ?_
           refine rnk c180 ?_
           refine rs (.int .i64 ((n.ops.length : Nat) : Int)) ?_
           refine rnk c180 ?_
           refine rs (.bool (decide (16 < ((n.ops.length : Nat) : Int)))) ?_
           refine rp c180 (.bool (decide (16 < ((n.ops.length : Nat) : Int)))) ?_
           refine rv (.bool (decide (16 < ((n.ops.length : Nat) : Int)))) ?_
           rcases bcase (decide (16 < ((n.ops.length : Nat) : Int))) with c182 | c182
           ·
            have l183 : ¬ (16 < ((n.ops.length : Nat) : Int)) := of_decide_eq_false c182
            refine rnk c182 ?_
            refine ru (.pointer (some ⟨g1, 5, none⟩)) ?_
            refine rnk c182 ?_
            refine rl hk4 5 (.slice A5 n.ents.length c5) ?_
            refine rnk c182 ?_
            refine rs (.int .i64 ((n.ents.length : Nat) : Int)) ?_
            refine rnk c182 ?_
            refine rs (.bool (decide (16 < ((n.ents.length : Nat) : Int)))) ?_
            refine rp c182 (.bool (decide (16 < ((n.ents.length : Nat) : Int)))) ?_
            refine rw_end ?_
            refine w_cond rfl rfl (fun c184 => ?_) (fun c184 => ?_)
            ·
             have l185 : (16 < ((n.ents.length : Nat) : Int)) := of_decide_eq_true c184
             refine wsr ?_
             refine rv (.bool false) ?_
             refine rw_end ?_
             refine w_ret (post_ret1 rfl rfl ?_)
             have hg_ : goodN n = false := Bool.eq_false_iff.2 (fun h_ => by obtain ⟨h2_, _, _⟩ := good_iff2.1 h_; omega)
             exact ⟨by rw [bool_of hg_], hb3⟩
            ·
             have l186 : ¬ (16 < ((n.ents.length : Nat) : Int)) := of_decide_eq_false c184
             refine w_skip ?_
             refine w_seq ?_
             refine wsr ?_
             refine rv (.int .i64 0) ?_
             refine rw_end ?_
             refine w_block ?_
             refine w_loop (fun m_ G W_ => ∃ (j : Nat), j + m_ = n.ops.length ∧ Below w.heap.size w W_ ∧ (Blk W_ g1 26 #[.int .i64 n.kind, .int .i64 n.fr, .int .i64 n.tw, .slice A3 n.nums.length c3, .slice A4 n.ops.length c4, .slice A5 n.ents.length c5]) ∧ ((n.ops.take j).all opOk = true) ∧ G = [(1, .pointer (some ⟨g1, 0, none⟩)), (5, .int .i64 ((j : Nat) : Int))]) n.ops.length [(1, .pointer (some ⟨g1, 0, none⟩)), (5, .int .i64 0)] ⟨0, by omega, hb3, hk4, (by simp), rfl⟩ ⟨rfl, rfl, trivial⟩ ?_
             rintro m_ G w_L187 ⟨j, hp188, hB_L187, hf189, hf190, rfl⟩
             have hs_w_L187 := hB_L187.size
             have hltb_ := hf189.lt
             have hJ_ := hf190
             refine w_seq ?_
             refine wsr ?_
             refine rv (.int .i64 ((j : Nat) : Int)) ?_
             refine ru (.pointer (some ⟨g1, 4, none⟩)) ?_
             refine rl hf189 4 (.slice A4 n.ops.length c4) ?_
             refine rs (.int .i64 ((n.ops.length : Nat) : Int)) ?_
             refine rs (.bool (decide (((j : Nat) : Int) < ((n.ops.length : Nat) : Int)))) ?_
             refine rw_end ?_
             refine w_cond rfl rfl (fun c191 => ?_) (fun c191 => ?_)
             ·
              have l192 : (((j : Nat) : Int) < ((n.ops.length : Nat) : Int)) := of_decide_eq_true c191
              refine w_skip ?_
              refine w_seq ?_
              refine w_block ?_
              refine wsr ?_
              refine ru (.pointer (some ⟨g1, 4, none⟩)) ?_
              refine rl hf189 4 (.slice A4 n.ops.length c4) ?_
              refine rv (.int .i64 ((j : Nat) : Int)) ?_
              obtain ⟨ad193, hA194, hc195⟩ := flat_at (Kd.C_below hn4 hB_L187) (0, 0, 0, 0, 0) j (by first | omega | decide)
              subst hA194
              have he196 : w_L187.cell? (ad193.add (j * 5)) = some (.int .i64 ((n.ops.getD j (0, 0, 0, 0, 0)).1)) := cell_0 (hc195 0 _ rfl)
              have he197 : w_L187.cell? ⟨(ad193.add (j * 5)).block, (ad193.add (j * 5)).off + 1, none⟩ = some (.int .i64 ((n.ops.getD j (0, 0, 0, 0, 0)).2.1)) := cell_j (hc195 1 _ rfl)
              have he198 : w_L187.cell? ⟨(ad193.add (j * 5)).block, (ad193.add (j * 5)).off + 2, none⟩ = some (.int .i64 ((n.ops.getD j (0, 0, 0, 0, 0)).2.2.1)) := cell_j (hc195 2 _ rfl)
              have he199 : w_L187.cell? ⟨(ad193.add (j * 5)).block, (ad193.add (j * 5)).off + 3, none⟩ = some (.int .i64 ((n.ops.getD j (0, 0, 0, 0, 0)).2.2.2.1)) := cell_j (hc195 3 _ rfl)
              have he200 : w_L187.cell? ⟨(ad193.add (j * 5)).block, (ad193.add (j * 5)).off + 4, none⟩ = some (.int .i64 ((n.ops.getD j (0, 0, 0, 0, 0)).2.2.2.2)) := cell_j (hc195 4 _ rfl)
              refine rz (.pointer (some (ad193.add (j * 5)))) (run_as (run_at_k (P := Try.prog) (e := 73) (sz := 5) (by kernel_rfl) (by kernel_rfl) j (by first | omega | decide) _)) ?_
              refine ru (.pointer (some ⟨(ad193.add (j * 5)).block, (ad193.add (j * 5)).off + 1, none⟩)) ?_
              refine rz (.int .i64 ((n.ops.getD j (0, 0, 0, 0, 0)).2.1)) (by have e0_ := cellOn he197 (Below.refl _ _); simp [go_sem, sEv, sLook, nbeq, i64_w, -List.getD_eq_getElem?_getD, e0_]) ?_
              refine rs (.bool (((n.ops.getD j (0, 0, 0, 0, 0)).2.1) != 1)) ?_
              refine rv (.bool (((n.ops.getD j (0, 0, 0, 0, 0)).2.1) != 1)) ?_
              rcases bcase (((n.ops.getD j (0, 0, 0, 0, 0)).2.1) != 1) with c201 | c201
              ·
               have l202 : ((n.ops.getD j (0, 0, 0, 0, 0)).2.1) = 1 := by simpa using c201
               refine rok c201 ?_
               refine rok c201 ?_
               refine rok c201 ?_
               refine rok c201 ?_
               refine rok c201 ?_
               refine rok c201 ?_
               refine rok c201 ?_
               refine rp c201 (.bool false) ?_
               refine rw_end ?_
               refine w_cond_f rfl rfl rfl ?_
               refine w_skip ?_
               refine w_blk ?_
               refine w_region ?_
               refine rv (.int .i64 ((j : Nat) : Int)) ?_
               refine rw1 (.int .i64 ((j + 1 : Nat) : Int)) ?_
               refine rv (.int .i64 ((j + 1 : Nat) : Int)) ?_
               refine rw_end ?_
               exact w_back (m_ - 1) [(1, .pointer (some ⟨g1, 0, none⟩)), (5, .int .i64 ((j + 1 : Nat) : Int))] (by omega) ⟨rfl, rfl, trivial⟩ ⟨(j + 1), by omega, hB_L187, hf189, (all_step (by omega) hJ_ (op_ok (by omega))), rfl⟩
              ·
               have l203 : ¬ ((n.ops.getD j (0, 0, 0, 0, 0)).2.1) = 1 := by simpa using c201
               refine rnk c201 ?_
               refine ru (.pointer (some ⟨g1, 4, none⟩)) ?_
               refine rnk c201 ?_
               refine rl hf189 4 (.slice (some ad193) n.ops.length c4) ?_
               refine rnk c201 ?_
               refine rv (.int .i64 ((j : Nat) : Int)) ?_
               refine rnk c201 ?_
               obtain ⟨ad204, hA205, hc206⟩ := flat_at (Kd.C_below hn4 hB_L187) (0, 0, 0, 0, 0) j (by first | omega | decide)
               obtain rfl := Option.some.inj hA205
               have he207 : w_L187.cell? (ad193.add (j * 5)) = some (.int .i64 ((n.ops.getD j (0, 0, 0, 0, 0)).1)) := cell_0 (hc206 0 _ rfl)
               have he208 : w_L187.cell? ⟨(ad193.add (j * 5)).block, (ad193.add (j * 5)).off + 1, none⟩ = some (.int .i64 ((n.ops.getD j (0, 0, 0, 0, 0)).2.1)) := cell_j (hc206 1 _ rfl)
               have he209 : w_L187.cell? ⟨(ad193.add (j * 5)).block, (ad193.add (j * 5)).off + 2, none⟩ = some (.int .i64 ((n.ops.getD j (0, 0, 0, 0, 0)).2.2.1)) := cell_j (hc206 2 _ rfl)
               have he210 : w_L187.cell? ⟨(ad193.add (j * 5)).block, (ad193.add (j * 5)).off + 3, none⟩ = some (.int .i64 ((n.ops.getD j (0, 0, 0, 0, 0)).2.2.2.1)) := cell_j (hc206 3 _ rfl)
               have he211 : w_L187.cell? ⟨(ad193.add (j * 5)).block, (ad193.add (j * 5)).off + 4, none⟩ = some (.int .i64 ((n.ops.getD j (0, 0, 0, 0, 0)).2.2.2.2)) := cell_j (hc206 4 _ rfl)
               refine rz (.pointer (some (ad193.add (j * 5)))) (run_as (run_at_k (P := Try.prog) (e := 73) (sz := 5) (by kernel_rfl) (by kernel_rfl) j (by first | omega | decide) _)) ?_
               refine rnk c201 ?_
               refine ru (.pointer (some ⟨(ad193.add (j * 5)).block, (ad193.add (j * 5)).off + 1, none⟩)) ?_
               refine rnk c201 ?_
               refine rz (.int .i64 ((n.ops.getD j (0, 0, 0, 0, 0)).2.1)) (by have e0_ := cellOn he208 (Below.refl _ _); simp [go_sem, sEv, sLook, nbeq, i64_w, -List.getD_eq_getElem?_getD, e0_]) ?_
               refine rnk c201 ?_
               refine rs (.bool (((n.ops.getD j (0, 0, 0, 0, 0)).2.1) != 2)) ?_
               refine rp c201 (.bool (((n.ops.getD j (0, 0, 0, 0, 0)).2.1) != 2)) ?_
               refine rw_end ?_
               refine w_cond rfl rfl (fun c212 => ?_) (fun c212 => ?_)
               ·
                have l213 : ¬ ((n.ops.getD j (0, 0, 0, 0, 0)).2.1) = 2 := by simpa using c212
                refine wsr ?_
                refine rv (.bool false) ?_
                refine rw_end ?_
                refine w_ret (post_ret1 rfl rfl ?_)
                have hg_ : goodN n = false := Bool.eq_false_iff.2 (fun h_ => by have h2_ := (good_iff2.1 h_).2.2; rw [all_no (show j < n.ops.length by omega) (op_no (by omega) (by omega))] at h2_; cases h2_)
                exact ⟨by rw [bool_of hg_], hB_L187⟩
               ·
                have l214 : ((n.ops.getD j (0, 0, 0, 0, 0)).2.1) = 2 := by simpa using c212
                refine w_skip ?_
                refine w_blk ?_
                refine w_region ?_
                refine rv (.int .i64 ((j : Nat) : Int)) ?_
                refine rw1 (.int .i64 ((j + 1 : Nat) : Int)) ?_
                refine rv (.int .i64 ((j + 1 : Nat) : Int)) ?_
                refine rw_end ?_
                exact w_back (m_ - 1) [(1, .pointer (some ⟨g1, 0, none⟩)), (5, .int .i64 ((j + 1 : Nat) : Int))] (by omega) ⟨rfl, rfl, trivial⟩ ⟨(j + 1), by omega, hB_L187, hf189, (all_step (by omega) hJ_ (op_ok (by omega))), rfl⟩
             ·
              have l215 : ¬ (((j : Nat) : Int) < ((n.ops.length : Nat) : Int)) := of_decide_eq_false c191
              refine w_exit rfl ?_
              refine wsr ?_
              refine rv (.bool true) ?_
              refine rw_end ?_
              refine w_ret (post_ret1 rfl rfl ?_)
              have hg_ : goodN n = true := good_iff2.2 ⟨⟨by omega, by omega, by omega, by omega, by omega, by omega, by omega, by omega⟩, by simpa using cF, by have h_ := hJ_; rwa [List.take_of_length_le (by omega)] at h_⟩
              exact ⟨by rw [bool_of hg_], hB_L187⟩
           ·
            have l216 : (16 < ((n.ops.length : Nat) : Int)) := of_decide_eq_true c182
            refine rok c182 ?_
            refine rok c182 ?_
            refine rok c182 ?_
            refine rok c182 ?_
            refine rp c182 (.bool true) ?_
            refine rw_end ?_
            refine w_cond_t rfl rfl rfl ?_
            refine wsr ?_
            refine rv (.bool false) ?_
            refine rw_end ?_
            refine w_ret (post_ret1 rfl rfl ?_)
            have hg_ : goodN n = false := Bool.eq_false_iff.2 (fun h_ => by obtain ⟨h2_, _, _⟩ := good_iff2.1 h_; omega)
            exact ⟨by rw [bool_of hg_], hb3⟩
          ·
           have l217 : (0 < ((n.ents.length : Nat) : Int)) := of_decide_eq_true c180
           refine rok c180 ?_
           refine rok c180 ?_
           refine rok c180 ?_
           refine rok c180 ?_
           refine rp c180 (.bool true) ?_
           refine rv (.bool true) ?_
           refine ro true ?_
           refine ro true ?_
           refine ro true ?_
           refine ro true ?_
           refine rs (.bool true) ?_
           refine rw_end ?_
           refine w_cond_t rfl rfl rfl ?_
           refine wsr ?_
           refine rv (.bool false) ?_
           refine rw_end ?_
           refine w_ret (post_ret1 rfl rfl ?_)
           have hg_ : goodN n = false := Bool.eq_false_iff.2 (fun h_ => by obtain ⟨h2_, _, _⟩ := good_iff2.1 h_; omega)
           exact ⟨by rw [bool_of hg_], hb3⟩
        ·
         have l218 : (0 < ((n.ops.length : Nat) : Int)) := of_decide_eq_true c140
         refine rok c140 ?_
         refine rok c140 ?_
         refine rok c140 ?_
         refine rok c140 ?_
         refine rw_offu rfl rfl rfl rfl rfl ?_
         refine rw_offu rfl rfl rfl rfl rfl ?_
         refine rw_offu rfl rfl rfl rfl rfl ?_
         refine rw_offu rfl rfl rfl rfl rfl ?_
         refine rok c140 ?_
         refine rp c140 (.bool true) ?_
         refine rv (.bool true) ?_
         refine ro true ?_
         refine ro true ?_
         refine ro true ?_
         refine ro true ?_
         refine rs (.bool true) ?_
         refine rv (.bool true) ?_
         refine ro true ?_
         refine ro true ?_
         refine ro true ?_
         refine ro true ?_
         refine rs (.bool true) ?_
         refine rw_end ?_
         refine w_cond_t rfl rfl rfl ?_
         refine wsr ?_
         refine rv (.bool false) ?_
         refine rw_end ?_
         refine w_ret (post_ret1 rfl rfl ?_)
         have hg_ : goodN n = false := Bool.eq_false_iff.2 (fun h_ => by obtain ⟨h2_, _, _⟩ := good_iff2.1 h_; omega)
         exact ⟨by rw [bool_of hg_], hb3⟩
   ·
    have l219 : (n.tw < 0) := of_decide_eq_true c11
    refine rok c11 ?_
    refine rok c11 ?_
    refine rok c11 ?_
    refine rp c11 (.bool true) ?_
    refine rw_end ?_
    refine w_cond_t rfl rfl rfl ?_
    refine wsr ?_
    refine rv (.bool false) ?_
    refine rw_end ?_
    refine w_ret (post_ret1 rfl rfl ?_)
    have hg_ : goodN n = false := Bool.eq_false_iff.2 (fun h_ => by obtain ⟨h2_, _, _⟩ := good_iff2.1 h_; omega)
    exact ⟨by rw [bool_of hg_], hb3⟩
  ·
   have l220 : (999 < n.fr) := of_decide_eq_true c9
   refine rok c9 ?_
   refine rok c9 ?_
   refine rok c9 ?_
   refine rp c9 (.bool true) ?_
   refine rv (.bool true) ?_
   refine ro true ?_
   refine ro true ?_
   refine ro true ?_
   refine rs (.bool true) ?_
   refine rw_end ?_
   refine w_cond_t rfl rfl rfl ?_
   refine wsr ?_
   refine rv (.bool false) ?_
   refine rw_end ?_
   refine w_ret (post_ret1 rfl rfl ?_)
   have hg_ : goodN n = false := Bool.eq_false_iff.2 (fun h_ => by obtain ⟨h2_, _, _⟩ := good_iff2.1 h_; omega)
   exact ⟨by rw [bool_of hg_], hb3⟩
 ·
  have l221 : (n.fr < 0) := of_decide_eq_true c7
  refine rok c7 ?_
  refine rok c7 ?_
  refine rok c7 ?_
  refine rp c7 (.bool true) ?_
  refine rv (.bool true) ?_
  refine ro true ?_
  refine ro true ?_
  refine ro true ?_
  refine rs (.bool true) ?_
  refine rv (.bool true) ?_
  refine ro true ?_
  refine ro true ?_
  refine ro true ?_
  refine rs (.bool true) ?_
  refine rw_end ?_
  refine w_cond_t rfl rfl rfl ?_
  refine wsr ?_
  refine rv (.bool false) ?_
  refine rw_end ?_
  refine w_ret (post_ret1 rfl rfl ?_)
  have hg_ : goodN n = false := Bool.eq_false_iff.2 (fun h_ => by obtain ⟨h2_, _, _⟩ := good_iff2.1 h_; omega)
  exact ⟨by rw [bool_of hg_], hb3⟩
end Go.Proofs.Ytbbhdohjhipalaa.Ce
end
section
namespace Go.Proofs.Ytbbhdohjhipalaa.Ce
open Go.RowKit Go.Proofs.YtbbhdohjhipalaaW.PrintWords Go.Proofs.YtbbhdohjhipalaaW.PrintLast Go.Proofs.YtbbhdohjhipalaaW.PrintMore
open Go.Proofs.Ytbbhdohjhipalaa.Flow
set_option linter.unusedVariables false
set_option linter.unusedSimpArgs false
set_option maxHeartbeats 4000000 in
theorem reflist_calls (w : World) (n : NT) (A3 : Option Addr) (c3 : Nat) (A4 : Option Addr) (c4 : Nat) (A5 : Option Addr) (c5 : Nat) (hn3 : (Kd.int .i64).C w A3 n.nums.length n.nums) (hc3 : n.nums.length ≤ c3) (hn4 : kOp.C w A4 n.ops.length n.ops) (hc4 : n.ops.length ≤ c4) (hn5 : kEntry.C w A5 n.ents.length n.ents) (hc5 : n.ents.length ≤ c5) (hk3 : n.nums.length ≤ 1000) (hk4 : n.ops.length ≤ 1000) (hk5 : n.ents.length ≤ 1000) :
  Calls Try.prog 32 #[.agg #[.int .i64 n.kind, .int .i64 n.fr, .int .i64 n.tw, .slice A3 n.nums.length c3, .slice A4 n.ops.length c4, .slice A5 n.ents.length c5]] w fun e w' => ∃ A' c', e = .returned (.slice A' (listN n).length c') ∧ OwnK (Kd.int .i64) 3 w' w.heap.size w.heap.size A' (listN n).length c' (listN n) ∧ Below w.heap.size w w' := by
 have hko_ : ∀ j, (opsL (n.ops.take j)).length ≤ 5000 := fun j => by rw [opsL_len, List.length_take]; omega
 have hke_ : ∀ j, (entsL (n.ents.take j)).length ≤ 142000 := fun j => by have q_ := entsL_len (n.ents.take j); rw [List.length_take] at q_; omega
 refine calls_flow Try.func32 rfl 92 rfl (Nat.le_of_ble_eq_true rfl) [(0, .agg #[.int .i64 n.kind, .int .i64 n.fr, .int .i64 n.tw, .slice A3 n.nums.length c3, .slice A4 n.ops.length c4, .slice A5 n.ents.length c5])] ?_ ?_
 ·
  intro t v h; exact args_look rfl t v h
 refine wsr ?_
 refine rw_new (cs := #[.int .i64 n.kind, .int .i64 n.fr, .int .i64 n.tw, .slice A3 n.nums.length c3, .slice A4 n.ops.length c4, .slice A5 n.ents.length c5]) (t := 26) (fun g => .pointer (some ⟨g, 0, none⟩)) rfl rfl rfl rfl (by simp [go_sem, sEv, sLook, nbeq, i64_w, -List.getD_eq_getElem?_getD]) ?_
 intro g1 w2 hg6 hz5 hb3 hk4
 have hs_w2 := hb3.size
 refine rv (.slice none 0 0) ?_
 refine rw_end ?_
 refine wsr ?_
 refine ru (.pointer (some ⟨g1, 0, none⟩)) ?_
 refine rl hk4 0 (.int .i64 n.kind) ?_
 refine ru (.pointer (some ⟨g1, 1, none⟩)) ?_
 refine rl hk4 1 (.int .i64 n.fr) ?_
 refine ru (.pointer (some ⟨g1, 2, none⟩)) ?_
 refine rl hk4 2 (.int .i64 n.tw) ?_
 refine ru (.pointer (some ⟨g1, 3, none⟩)) ?_
 refine rl hk4 3 (.slice A3 n.nums.length c3) ?_
 refine rs (.int .i64 ((n.nums.length : Nat) : Int)) ?_
 refine rw_new (cs := #[.int .i64 n.kind, .int .i64 n.fr, .int .i64 n.tw, .int .i64 ((n.nums.length : Nat) : Int)]) (t := 3) (fun g => .slice (some ⟨g, 0, none⟩) 4 4) rfl rfl rfl rfl (by kernel_rfl) ?_
 intro g7 w8 hg12 hz11 hb9 hk10
 have hs_w8 := hb9.size
 have hk10r : OwnK (Kd.int .i64) 3 w8 w.heap.size g7 (some ⟨g7, 0, none⟩) 4 4 ([n.kind, n.fr, n.tw, ((n.nums.length : Nat) : Int)] : List Int) := scal_own w.heap.size hk10 (by omega) rfl rfl (by simp)
 refine rv (.slice (some ⟨g7, 0, none⟩) 4 4) ?_
 refine rw_end ?_
 refine wsr ?_
 refine rv (.slice (some ⟨g7, 0, none⟩) 4 4) ?_
 refine ru (.pointer (some ⟨g1, 3, none⟩)) ?_
 refine rl (hk4.on hb9) 3 (.slice A3 n.nums.length c3) ?_
 have oA19 : OwnK (Kd.int .i64) 3 w8 w.heap.size g7 (some ⟨g7, 0, none⟩) 4 4 ([n.kind, n.fr, n.tw, ((n.nums.length : Nat) : Int)] : List Int) := hk10r
 refine rw_append_kd (d := (Kd.int .i64)) w.heap.size rfl rfl rfl (.tmp 17) (.tmp 19) rfl rfl 22 3 (.int .i64 0) 8 rfl (by kernel_rfl) (by kernel_rfl) rfl (show 0 < 1 by decide) (by decide) (fun _ _ h => h) (b := g7) rfl rfl (by omega) oA19 (Kd.C_below hn3 (chain hb3 hb9)) (chain hb3 hb9) (by omega) (by have q1_ := hko_ n.ops.length; have q2_ := hke_ n.ents.length; simp only [List.take_length] at q1_ q2_; simp only [List.length_append, List.length_cons, List.length_nil]; first | omega | (have q3_ := hko_ j; omega) | (have q4_ := hke_ i; have q5_ := nums_len (n.ents.getD i EL.zero).c; have q6_ := pr_len (n.ents.getD i EL.zero).c.h 65; omega)) ?_
 intro A13 c14 w15 hO16 hB17 hG18
 have hs_w15 := hB17.size
 have hgs_w15 := hG18.size
 have hk20 := OwnK.blk_grown (hk4.on hb9) oA19 (.inr (by decide)) hG18
 refine rv (.slice A13 ((([n.kind, n.fr, n.tw, ((n.nums.length : Nat) : Int)] : List Int) ++ n.nums).length) c14) ?_
 refine rw_end ?_
 refine wsr ?_
 refine rv (.slice A13 ((([n.kind, n.fr, n.tw, ((n.nums.length : Nat) : Int)] : List Int) ++ n.nums).length) c14) ?_
 refine ru (.pointer (some ⟨g1, 4, none⟩)) ?_
 refine rl hk20 4 (.slice A4 n.ops.length c4) ?_
 refine rs (.int .i64 ((n.ops.length : Nat) : Int)) ?_
 refine rw_new (cs := #[.int .i64 ((n.ops.length : Nat) : Int)]) (t := 3) (fun g => .slice (some ⟨g, 0, none⟩) 1 1) rfl rfl rfl rfl (by kernel_rfl) ?_
 intro g21 w22 hg26 hz25 hb23 hk24
 have hs_w22 := hb23.size
 have hk24r : OwnK (Kd.int .i64) 3 w22 w.heap.size g21 (some ⟨g21, 0, none⟩) 1 1 ([((n.ops.length : Nat) : Int)] : List Int) := scal_own w.heap.size hk24 (by omega) rfl rfl (by simp)
 have oA33 : OwnK (Kd.int .i64) 3 w22 w.heap.size g7 A13 ((([n.kind, n.fr, n.tw, ((n.nums.length : Nat) : Int)] : List Int) ++ n.nums).length) c14 (([n.kind, n.fr, n.tw, ((n.nums.length : Nat) : Int)] : List Int) ++ n.nums) := (OwnK.on (d := (Kd.int .i64)) hO16 hb23)
 refine rw_append_kd (d := (Kd.int .i64)) w.heap.size rfl rfl rfl (.tmp 21) (.tmp 25) rfl rfl 22 3 (.int .i64 0) 8 rfl (by kernel_rfl) (by kernel_rfl) rfl (show 0 < 1 by decide) (by decide) (fun _ _ h => h) (b := g7) rfl rfl (by omega) oA33 (OwnK.Cn (d := (Kd.int .i64)) hk24r) (chain hB17 hb23) (by omega) (by have q1_ := hko_ n.ops.length; have q2_ := hke_ n.ents.length; simp only [List.take_length] at q1_ q2_; simp only [List.length_append, List.length_cons, List.length_nil]; first | omega | (have q3_ := hko_ j; omega) | (have q4_ := hke_ i; have q5_ := nums_len (n.ents.getD i EL.zero).c; have q6_ := pr_len (n.ents.getD i EL.zero).c.h 65; omega)) ?_
 intro A27 c28 w29 hO30 hB31 hG32
 have hs_w29 := hB31.size
 have hgs_w29 := hG32.size
 have hk35 := OwnK.blk_grown (hk20.on hb23) oA33 (.inr (by decide)) hG32
 refine rv (.slice A27 (((([n.kind, n.fr, n.tw, ((n.nums.length : Nat) : Int)] : List Int) ++ n.nums) ++ ([((n.ops.length : Nat) : Int)] : List Int)).length) c28) ?_
 refine rw_end ?_
 refine w_seq ?_
 refine wsr ?_
 refine rv (.int .i64 0) ?_
 refine rw_end ?_
 refine w_block ?_
 have e36 : ((([n.kind, n.fr, n.tw, ((n.nums.length : Nat) : Int)] : List Int) ++ n.nums) ++ ([((n.ops.length : Nat) : Int)] : List Int)) = ((([n.kind, n.fr, n.tw, (n.nums.length : Int)] ++ n.nums) ++ [(n.ops.length : Int)]) ++ opsL (n.ops.take 0)) := by (unfold opsL; simp)
 have hO37 : OwnK (Kd.int .i64) 3 w29 w.heap.size g7 A27 ((([n.kind, n.fr, n.tw, (n.nums.length : Int)] ++ n.nums) ++ [(n.ops.length : Int)]) ++ opsL (n.ops.take 0)).length c28 ((([n.kind, n.fr, n.tw, (n.nums.length : Int)] ++ n.nums) ++ [(n.ops.length : Int)]) ++ opsL (n.ops.take 0)) := by rw [← e36]; exact OwnK.full hO30
 have en38 : ((([n.kind, n.fr, n.tw, ((n.nums.length : Nat) : Int)] : List Int) ++ n.nums) ++ ([((n.ops.length : Nat) : Int)] : List Int)).length = ((([n.kind, n.fr, n.tw, (n.nums.length : Int)] ++ n.nums) ++ [(n.ops.length : Int)]) ++ opsL (n.ops.take 0)).length := by rw [← e36] <;> exact OwnK.len (d := (Kd.int .i64)) hO30
 refine w_loop (fun m_ G W_ => ∃ (j : Nat) (A3_ : Option Addr) (c3_ : Nat), j + m_ = n.ops.length ∧ Below w.heap.size w W_ ∧ OwnK (Kd.int .i64) 3 W_ w.heap.size w.heap.size A3_ ((([n.kind, n.fr, n.tw, (n.nums.length : Int)] ++ n.nums) ++ [(n.ops.length : Int)]) ++ opsL (n.ops.take j)).length c3_ ((([n.kind, n.fr, n.tw, (n.nums.length : Int)] ++ n.nums) ++ [(n.ops.length : Int)]) ++ opsL (n.ops.take j)) ∧ (Blk W_ g1 26 #[.int .i64 n.kind, .int .i64 n.fr, .int .i64 n.tw, .slice A3 n.nums.length c3, .slice A4 n.ops.length c4, .slice A5 n.ents.length c5]) ∧ G = [(1, .pointer (some ⟨g1, 0, none⟩)), (3, .slice A3_ (((([n.kind, n.fr, n.tw, (n.nums.length : Int)] ++ n.nums) ++ [(n.ops.length : Int)]) ++ opsL (n.ops.take j)).length) c3_), (4, .int .i64 ((j : Nat) : Int))]) n.ops.length [(1, .pointer (some ⟨g1, 0, none⟩)), (3, .slice A27 (((([n.kind, n.fr, n.tw, (n.nums.length : Int)] ++ n.nums) ++ [(n.ops.length : Int)]) ++ opsL (n.ops.take 0)).length) c28), (4, .int .i64 0)] ⟨0, A27, c28, by omega, hB31, (OwnK.mono (d := (Kd.int .i64)) hO37 (by omega)), hk35, rfl⟩ ⟨rfl, (by first | rfl | (rw [← en38]; rfl)), rfl, trivial⟩ ?_
 rintro m_ G w_L39 ⟨j, A3_, c3_, hp40, hB_L39, hO3_, hf41, rfl⟩
 have hs_w_L39 := hB_L39.size
 have hltb_ := hf41.lt
 refine w_seq ?_
 refine wsr ?_
 refine rv (.int .i64 ((j : Nat) : Int)) ?_
 refine ru (.pointer (some ⟨g1, 4, none⟩)) ?_
 refine rl hf41 4 (.slice A4 n.ops.length c4) ?_
 refine rs (.int .i64 ((n.ops.length : Nat) : Int)) ?_
 refine rs (.bool (decide (((j : Nat) : Int) < ((n.ops.length : Nat) : Int)))) ?_
 refine rw_end ?_
 refine w_cond rfl rfl (fun cJ => ?_) (fun cJ => ?_)
 ·
  have l42 : (((j : Nat) : Int) < ((n.ops.length : Nat) : Int)) := of_decide_eq_true cJ
  refine w_skip ?_
  refine w_seq ?_
  refine w_block ?_
  refine wsr ?_
  refine ru (.pointer (some ⟨g1, 4, none⟩)) ?_
  refine rl hf41 4 (.slice A4 n.ops.length c4) ?_
  refine rv (.int .i64 ((j : Nat) : Int)) ?_
  obtain ⟨ad43, hA44, hc45⟩ := flat_at (Kd.C_below hn4 hB_L39) (0, 0, 0, 0, 0) j (by first | omega | decide)
  subst hA44
  have he46 : w_L39.cell? (ad43.add (j * 5)) = some (.int .i64 ((n.ops.getD j (0, 0, 0, 0, 0)).1)) := cell_0 (hc45 0 _ rfl)
  have he47 : w_L39.cell? ⟨(ad43.add (j * 5)).block, (ad43.add (j * 5)).off + 1, none⟩ = some (.int .i64 ((n.ops.getD j (0, 0, 0, 0, 0)).2.1)) := cell_j (hc45 1 _ rfl)
  have he48 : w_L39.cell? ⟨(ad43.add (j * 5)).block, (ad43.add (j * 5)).off + 2, none⟩ = some (.int .i64 ((n.ops.getD j (0, 0, 0, 0, 0)).2.2.1)) := cell_j (hc45 2 _ rfl)
  have he49 : w_L39.cell? ⟨(ad43.add (j * 5)).block, (ad43.add (j * 5)).off + 3, none⟩ = some (.int .i64 ((n.ops.getD j (0, 0, 0, 0, 0)).2.2.2.1)) := cell_j (hc45 3 _ rfl)
  have he50 : w_L39.cell? ⟨(ad43.add (j * 5)).block, (ad43.add (j * 5)).off + 4, none⟩ = some (.int .i64 ((n.ops.getD j (0, 0, 0, 0, 0)).2.2.2.2)) := cell_j (hc45 4 _ rfl)
  refine rz (.pointer (some (ad43.add (j * 5)))) (run_as (run_at_k (P := Try.prog) (e := 73) (sz := 5) (by kernel_rfl) (by kernel_rfl) j (by first | omega | decide) _)) ?_
  refine rz (.agg #[.int .i64 ((n.ops.getD j (0, 0, 0, 0, 0)).1), .int .i64 ((n.ops.getD j (0, 0, 0, 0, 0)).2.1), .int .i64 ((n.ops.getD j (0, 0, 0, 0, 0)).2.2.1), .int .i64 ((n.ops.getD j (0, 0, 0, 0, 0)).2.2.2.1), .int .i64 ((n.ops.getD j (0, 0, 0, 0, 0)).2.2.2.2)]) (by have e0_ := cellOn he46 (Below.refl _ _); have e1_ := cellOn he47 (Below.refl _ _); have e2_ := cellOn he48 (Below.refl _ _); have e3_ := cellOn he49 (Below.refl _ _); have e4_ := cellOn he50 (Below.refl _ _); simp [go_sem, sEv, sLook, nbeq, i64_w, -List.getD_eq_getElem?_getD, e0_, e1_, e2_, e3_, e4_, Try.underlying73]) ?_
  refine rw_new (cs := #[.int .i64 0, .int .i64 0, .int .i64 0, .int .i64 0, .int .i64 0]) (t := 73) (fun g => .pointer (some ⟨g, 0, none⟩)) rfl rfl rfl rfl (by kernel_rfl) ?_
  intro g51 w52 hg56 hz55 hb53 hk54
  have hs_w52 := hb53.size
  have hb60 := hk54
  refine rsa hb60 [.int .i64 ((n.ops.getD j (0, 0, 0, 0, 0)).1), .int .i64 ((n.ops.getD j (0, 0, 0, 0, 0)).2.1), .int .i64 ((n.ops.getD j (0, 0, 0, 0, 0)).2.2.1), .int .i64 ((n.ops.getD j (0, 0, 0, 0, 0)).2.2.2.1), .int .i64 ((n.ops.getD j (0, 0, 0, 0, 0)).2.2.2.2)] ?_
  intro w57 hk58 hk59
  have hs_w57 := hk58.size
  refine rw_end ?_
  refine w_region ?_
  refine rv (.slice A3_ (((([n.kind, n.fr, n.tw, (n.nums.length : Int)] ++ n.nums) ++ [(n.ops.length : Int)]) ++ opsL (n.ops.take j)).length) c3_) ?_
  refine ru (.pointer (some ⟨g51, 0, none⟩)) ?_
  refine rl hk59 0 (.int .i64 ((n.ops.getD j (0, 0, 0, 0, 0)).1)) ?_
  refine ru (.pointer (some ⟨g51, 1, none⟩)) ?_
  refine rl hk59 1 (.int .i64 ((n.ops.getD j (0, 0, 0, 0, 0)).2.1)) ?_
  refine ru (.pointer (some ⟨g51, 2, none⟩)) ?_
  refine rl hk59 2 (.int .i64 ((n.ops.getD j (0, 0, 0, 0, 0)).2.2.1)) ?_
  refine ru (.pointer (some ⟨g51, 3, none⟩)) ?_
  refine rl hk59 3 (.int .i64 ((n.ops.getD j (0, 0, 0, 0, 0)).2.2.2.1)) ?_
  refine ru (.pointer (some ⟨g51, 4, none⟩)) ?_
  refine rl hk59 4 (.int .i64 ((n.ops.getD j (0, 0, 0, 0, 0)).2.2.2.2)) ?_
  refine rw_new (cs := #[.int .i64 ((n.ops.getD j (0, 0, 0, 0, 0)).1), .int .i64 ((n.ops.getD j (0, 0, 0, 0, 0)).2.1), .int .i64 ((n.ops.getD j (0, 0, 0, 0, 0)).2.2.1), .int .i64 ((n.ops.getD j (0, 0, 0, 0, 0)).2.2.2.1), .int .i64 ((n.ops.getD j (0, 0, 0, 0, 0)).2.2.2.2)]) (t := 3) (fun g => .slice (some ⟨g, 0, none⟩) 5 5) rfl rfl rfl rfl (by kernel_rfl) ?_
  intro g61 w62 hg66 hz65 hb63 hk64
  have hs_w62 := hb63.size
  have hk64r : OwnK (Kd.int .i64) 3 w62 w.heap.size g61 (some ⟨g61, 0, none⟩) 5 5 ([(n.ops.getD j (0, 0, 0, 0, 0)).1, (n.ops.getD j (0, 0, 0, 0, 0)).2.1, (n.ops.getD j (0, 0, 0, 0, 0)).2.2.1, (n.ops.getD j (0, 0, 0, 0, 0)).2.2.2.1, (n.ops.getD j (0, 0, 0, 0, 0)).2.2.2.2] : List Int) := scal_own w.heap.size hk64 (by omega) rfl rfl (by simp)
  have oA73 : OwnK (Kd.int .i64) 3 w62 w.heap.size w.heap.size A3_ (((([n.kind, n.fr, n.tw, (n.nums.length : Int)] ++ n.nums) ++ [(n.ops.length : Int)]) ++ opsL (n.ops.take j)).length) c3_ ((([n.kind, n.fr, n.tw, (n.nums.length : Int)] ++ n.nums) ++ [(n.ops.length : Int)]) ++ opsL (n.ops.take j)) := (OwnK.on (d := (Kd.int .i64)) (own_keep (d := (Kd.int .i64)) (OwnK.on (d := (Kd.int .i64)) hO3_ hb53) hk54 (by decide) hk58) hb63)
  refine rw_append_kd (d := (Kd.int .i64)) w.heap.size rfl rfl rfl (.tmp 39) (.tmp 50) rfl rfl 22 3 (.int .i64 0) 8 rfl (by kernel_rfl) (by kernel_rfl) rfl (show 0 < 1 by decide) (by decide) (fun _ _ h => h) (b := w.heap.size) rfl rfl (by omega) oA73 (OwnK.Cn (d := (Kd.int .i64)) hk64r) (chain (hk58.below (by omega) (chain hB_L39 hb53)) hb63) (by omega) (by have q1_ := hko_ n.ops.length; have q2_ := hke_ n.ents.length; simp only [List.take_length] at q1_ q2_; simp only [List.length_append, List.length_cons, List.length_nil]; first | omega | (have q3_ := hko_ j; omega) | (have q4_ := hke_ i; have q5_ := nums_len (n.ents.getD i EL.zero).c; have q6_ := pr_len (n.ents.getD i EL.zero).c.h 65; omega)) ?_
  intro A67 c68 w69 hO70 hB71 hG72
  have hs_w69 := hB71.size
  have hgs_w69 := hG72.size
  have hk75 := OwnK.blk_grown (((hf41.on hb53).keep hk58 (by omega)).on hb63) oA73 (.inr (by decide)) hG72
  have hk76 := OwnK.blk_grown (hk59.on hb63) oA73 (.inr (by decide)) hG72
  refine rv (.slice A67 ((((([n.kind, n.fr, n.tw, (n.nums.length : Int)] ++ n.nums) ++ [(n.ops.length : Int)]) ++ opsL (n.ops.take j)) ++ ([(n.ops.getD j (0, 0, 0, 0, 0)).1, (n.ops.getD j (0, 0, 0, 0, 0)).2.1, (n.ops.getD j (0, 0, 0, 0, 0)).2.2.1, (n.ops.getD j (0, 0, 0, 0, 0)).2.2.2.1, (n.ops.getD j (0, 0, 0, 0, 0)).2.2.2.2] : List Int)).length) c68) ?_
  refine rw_end ?_
  refine w_blk ?_
  refine w_region ?_
  refine rv (.int .i64 ((j : Nat) : Int)) ?_
  refine rw1 (.int .i64 ((j + 1 : Nat) : Int)) ?_
  refine rv (.int .i64 ((j + 1 : Nat) : Int)) ?_
  refine rw_end ?_
  have e77 : (((([n.kind, n.fr, n.tw, (n.nums.length : Int)] ++ n.nums) ++ [(n.ops.length : Int)]) ++ opsL (n.ops.take j)) ++ ([(n.ops.getD j (0, 0, 0, 0, 0)).1, (n.ops.getD j (0, 0, 0, 0, 0)).2.1, (n.ops.getD j (0, 0, 0, 0, 0)).2.2.1, (n.ops.getD j (0, 0, 0, 0, 0)).2.2.2.1, (n.ops.getD j (0, 0, 0, 0, 0)).2.2.2.2] : List Int)) = ((([n.kind, n.fr, n.tw, (n.nums.length : Int)] ++ n.nums) ++ [(n.ops.length : Int)]) ++ opsL (n.ops.take (j + 1))) := by (unfold opsL; rw [flat_snoc opL n.ops j (0, 0, 0, 0, 0) (by omega)]; simp only [List.append_assoc]; rfl)
  have hO78 : OwnK (Kd.int .i64) 3 w69 w.heap.size w.heap.size A67 ((([n.kind, n.fr, n.tw, (n.nums.length : Int)] ++ n.nums) ++ [(n.ops.length : Int)]) ++ opsL (n.ops.take (j + 1))).length c68 ((([n.kind, n.fr, n.tw, (n.nums.length : Int)] ++ n.nums) ++ [(n.ops.length : Int)]) ++ opsL (n.ops.take (j + 1))) := by rw [← e77]; exact OwnK.full hO70
  have en79 : (((([n.kind, n.fr, n.tw, (n.nums.length : Int)] ++ n.nums) ++ [(n.ops.length : Int)]) ++ opsL (n.ops.take j)) ++ ([(n.ops.getD j (0, 0, 0, 0, 0)).1, (n.ops.getD j (0, 0, 0, 0, 0)).2.1, (n.ops.getD j (0, 0, 0, 0, 0)).2.2.1, (n.ops.getD j (0, 0, 0, 0, 0)).2.2.2.1, (n.ops.getD j (0, 0, 0, 0, 0)).2.2.2.2] : List Int)).length = ((([n.kind, n.fr, n.tw, (n.nums.length : Int)] ++ n.nums) ++ [(n.ops.length : Int)]) ++ opsL (n.ops.take (j + 1))).length := by rw [← e77] <;> exact OwnK.len (d := (Kd.int .i64)) hO70
  exact w_back (m_ - 1) [(1, .pointer (some ⟨g1, 0, none⟩)), (3, .slice A67 (((([n.kind, n.fr, n.tw, (n.nums.length : Int)] ++ n.nums) ++ [(n.ops.length : Int)]) ++ opsL (n.ops.take (j + 1))).length) c68), (4, .int .i64 ((j + 1 : Nat) : Int))] (by omega) ⟨rfl, (by first | rfl | (rw [← en79]; rfl)), rfl, trivial⟩ ⟨(j + 1), A67, c68, by omega, hB71, (OwnK.mono (d := (Kd.int .i64)) hO78 (by omega)), hk75, rfl⟩
 ·
  have l80 : ¬ (((j : Nat) : Int) < ((n.ops.length : Nat) : Int)) := of_decide_eq_false cJ
  refine w_exit rfl ?_
  refine wsr ?_
  refine rv (.slice A3_ (((([n.kind, n.fr, n.tw, (n.nums.length : Int)] ++ n.nums) ++ [(n.ops.length : Int)]) ++ opsL (n.ops.take j)).length) c3_) ?_
  refine ru (.pointer (some ⟨g1, 5, none⟩)) ?_
  refine rl hf41 5 (.slice A5 n.ents.length c5) ?_
  refine rs (.int .i64 ((n.ents.length : Nat) : Int)) ?_
  refine rw_new (cs := #[.int .i64 ((n.ents.length : Nat) : Int)]) (t := 3) (fun g => .slice (some ⟨g, 0, none⟩) 1 1) rfl rfl rfl rfl (by kernel_rfl) ?_
  intro g81 w82 hg86 hz85 hb83 hk84
  have hs_w82 := hb83.size
  have hk84r : OwnK (Kd.int .i64) 3 w82 w.heap.size g81 (some ⟨g81, 0, none⟩) 1 1 ([((n.ents.length : Nat) : Int)] : List Int) := scal_own w.heap.size hk84 (by omega) rfl rfl (by simp)
  have oA93 : OwnK (Kd.int .i64) 3 w82 w.heap.size w.heap.size A3_ (((([n.kind, n.fr, n.tw, (n.nums.length : Int)] ++ n.nums) ++ [(n.ops.length : Int)]) ++ opsL (n.ops.take j)).length) c3_ ((([n.kind, n.fr, n.tw, (n.nums.length : Int)] ++ n.nums) ++ [(n.ops.length : Int)]) ++ opsL (n.ops.take j)) := (OwnK.on (d := (Kd.int .i64)) hO3_ hb83)
  refine rw_append_kd (d := (Kd.int .i64)) w.heap.size rfl rfl rfl (.tmp 52) (.tmp 56) rfl rfl 22 3 (.int .i64 0) 8 rfl (by kernel_rfl) (by kernel_rfl) rfl (show 0 < 1 by decide) (by decide) (fun _ _ h => h) (b := w.heap.size) rfl rfl (by omega) oA93 (OwnK.Cn (d := (Kd.int .i64)) hk84r) (chain hB_L39 hb83) (by omega) (by have q1_ := hko_ n.ops.length; have q2_ := hke_ n.ents.length; simp only [List.take_length] at q1_ q2_; simp only [List.length_append, List.length_cons, List.length_nil]; first | omega | (have q3_ := hko_ j; omega) | (have q4_ := hke_ i; have q5_ := nums_len (n.ents.getD i EL.zero).c; have q6_ := pr_len (n.ents.getD i EL.zero).c.h 65; omega)) ?_
  intro A87 c88 w89 hO90 hB91 hG92
  have hs_w89 := hB91.size
  have hgs_w89 := hG92.size
  have hk95 := OwnK.blk_grown (hf41.on hb83) oA93 (.inr (by decide)) hG92
  refine rv (.slice A87 ((((([n.kind, n.fr, n.tw, (n.nums.length : Int)] ++ n.nums) ++ [(n.ops.length : Int)]) ++ opsL (n.ops.take j)) ++ ([((n.ents.length : Nat) : Int)] : List Int)).length) c88) ?_
  refine rw_end ?_
  refine w_seq ?_
  refine wsr ?_
  refine rv (.int .i64 0) ?_
  refine rw_end ?_
  refine w_block ?_
  have e96 : (((([n.kind, n.fr, n.tw, (n.nums.length : Int)] ++ n.nums) ++ [(n.ops.length : Int)]) ++ opsL (n.ops.take j)) ++ ([((n.ents.length : Nat) : Int)] : List Int)) = ((((([n.kind, n.fr, n.tw, (n.nums.length : Int)] ++ n.nums) ++ [(n.ops.length : Int)]) ++ opsL n.ops) ++ [(n.ents.length : Int)]) ++ entsL (n.ents.take 0)) := by (unfold entsL; rw [List.take_of_length_le (by omega)]; simp)
  have hO97 : OwnK (Kd.int .i64) 3 w89 w.heap.size w.heap.size A87 ((((([n.kind, n.fr, n.tw, (n.nums.length : Int)] ++ n.nums) ++ [(n.ops.length : Int)]) ++ opsL n.ops) ++ [(n.ents.length : Int)]) ++ entsL (n.ents.take 0)).length c88 ((((([n.kind, n.fr, n.tw, (n.nums.length : Int)] ++ n.nums) ++ [(n.ops.length : Int)]) ++ opsL n.ops) ++ [(n.ents.length : Int)]) ++ entsL (n.ents.take 0)) := by rw [← e96]; exact OwnK.full hO90
  have en98 : (((([n.kind, n.fr, n.tw, (n.nums.length : Int)] ++ n.nums) ++ [(n.ops.length : Int)]) ++ opsL (n.ops.take j)) ++ ([((n.ents.length : Nat) : Int)] : List Int)).length = ((((([n.kind, n.fr, n.tw, (n.nums.length : Int)] ++ n.nums) ++ [(n.ops.length : Int)]) ++ opsL n.ops) ++ [(n.ents.length : Int)]) ++ entsL (n.ents.take 0)).length := by rw [← e96] <;> exact OwnK.len (d := (Kd.int .i64)) hO90
  refine w_loop (fun m_ G W_ => ∃ (i : Nat) (A3_ : Option Addr) (c3_ : Nat), i + m_ = n.ents.length ∧ Below w.heap.size w W_ ∧ OwnK (Kd.int .i64) 3 W_ w.heap.size w.heap.size A3_ ((((([n.kind, n.fr, n.tw, (n.nums.length : Int)] ++ n.nums) ++ [(n.ops.length : Int)]) ++ opsL n.ops) ++ [(n.ents.length : Int)]) ++ entsL (n.ents.take i)).length c3_ ((((([n.kind, n.fr, n.tw, (n.nums.length : Int)] ++ n.nums) ++ [(n.ops.length : Int)]) ++ opsL n.ops) ++ [(n.ents.length : Int)]) ++ entsL (n.ents.take i)) ∧ (Blk W_ g1 26 #[.int .i64 n.kind, .int .i64 n.fr, .int .i64 n.tw, .slice A3 n.nums.length c3, .slice A4 n.ops.length c4, .slice A5 n.ents.length c5]) ∧ G = [(1, .pointer (some ⟨g1, 0, none⟩)), (3, .slice A3_ (((((([n.kind, n.fr, n.tw, (n.nums.length : Int)] ++ n.nums) ++ [(n.ops.length : Int)]) ++ opsL n.ops) ++ [(n.ents.length : Int)]) ++ entsL (n.ents.take i)).length) c3_), (6, .int .i64 ((i : Nat) : Int))]) n.ents.length [(1, .pointer (some ⟨g1, 0, none⟩)), (3, .slice A87 (((((([n.kind, n.fr, n.tw, (n.nums.length : Int)] ++ n.nums) ++ [(n.ops.length : Int)]) ++ opsL n.ops) ++ [(n.ents.length : Int)]) ++ entsL (n.ents.take 0)).length) c88), (6, .int .i64 0)] ⟨0, A87, c88, by omega, hB91, (OwnK.mono (d := (Kd.int .i64)) hO97 (by omega)), hk95, rfl⟩ ⟨rfl, (by first | rfl | (rw [← en98]; rfl)), rfl, trivial⟩ ?_
  rintro m_ G w_L99 ⟨i, A3_, c3_, hp100, hB_L99, hO3_, hf101, rfl⟩
  have hs_w_L99 := hB_L99.size
  have hltb_ := hf101.lt
  refine w_seq ?_
  refine wsr ?_
  refine rv (.int .i64 ((i : Nat) : Int)) ?_
  refine ru (.pointer (some ⟨g1, 5, none⟩)) ?_
  refine rl hf101 5 (.slice A5 n.ents.length c5) ?_
  refine rs (.int .i64 ((n.ents.length : Nat) : Int)) ?_
  refine rs (.bool (decide (((i : Nat) : Int) < ((n.ents.length : Nat) : Int)))) ?_
  refine rw_end ?_
  refine w_cond rfl rfl (fun cI => ?_) (fun cI => ?_)
  ·
   have l102 : (((i : Nat) : Int) < ((n.ents.length : Nat) : Int)) := of_decide_eq_true cI
   refine w_skip ?_
   refine w_seq ?_
   refine w_block ?_
   refine w_seq ?_
   obtain ⟨ad103, hA104, hc105⟩ := flat_at (Kd.C_below hn5 hB_L99) EL.zero i (by first | omega | decide)
   subst hA104
   obtain ⟨ad106, hA107, hc108⟩ := flat_at (Kd.C_below hn5 hB_L99) EL.zero i (by first | omega | decide)
   obtain rfl := Option.some.inj hA107
   refine w_drawk (M := [0, 0, 2, 0, 14, 30, 62, 126, 0, 256, 0, 1792, 3840, 7936, 16128, 32766, 65535, 131071]) (ss := [Is (.slice A3_ (((((([n.kind, n.fr, n.tw, (n.nums.length : Int)] ++ n.nums) ++ [(n.ops.length : Int)]) ++ opsL n.ops) ++ [(n.ents.length : Int)]) ++ entsL (n.ents.take i)).length) c3_), Is (.pointer (some ⟨g1, 5, none⟩)), Is (.slice (some ad103) n.ents.length c5), Is (.int .i64 ((i : Nat) : Int)), Is (.pointer (some (ad103.add (i * 76)))), Is (.pointer (some (ad103.add (i * 76)))), Is (.pointer (some (ad103.add (i * 76)))), Is (.int .i64 ((n.ents.getD i EL.zero).win)), Is (.pointer (some ⟨g1, 5, none⟩)), Is (.slice (some ad103) n.ents.length c5), Is (.int .i64 ((i : Nat) : Int)), Is (.pointer (some (ad103.add (i * 76)))), Is (.pointer (some (ad103.add (i * 76)))), Is (.pointer (some ⟨(ad103.add (i * 76)).block, (ad103.add (i * 76)).off + 1, none⟩)), Is (.int .i64 ((n.ents.getD i EL.zero).key)), SlcSpec w_L99.heap.size 3 #[.int .i64 ((n.ents.getD i EL.zero).win), .int .i64 ((n.ents.getD i EL.zero).key)] 2]) 16 rfl (by decide +kernel) ?_
   refine tr (.slice A3_ (((((([n.kind, n.fr, n.tw, (n.nums.length : Int)] ++ n.nums) ++ [(n.ops.length : Int)]) ++ opsL n.ops) ++ [(n.ents.length : Int)]) ++ entsL (n.ents.take i)).length) c3_) ?_
   refine t_is (.pointer (some ⟨g1, 5, none⟩)) rfl rfl rfl rfl (fun W_ hW_ F_ => by simp [go_sem, sEv, sLook, nbeq, i64_w, -List.getD_eq_getElem?_getD, Try.underlying26]) ?_
   refine t_is (.slice (some ad103) n.ents.length c5) rfl rfl rfl rfl (fun W_ hW_ F_ => by have eb_ := (hf101.on (below_of_drew hW_)); have e0_ := eb_.cellv (i := 5) (v := (.slice (some ad103) n.ents.length c5 : Value)) rfl; simp [go_sem, sEv, sLook, nbeq, i64_w, -List.getD_eq_getElem?_getD, e0_, Try.underlying24]) ?_
   refine tr (.int .i64 ((i : Nat) : Int)) ?_
   refine t_is (.pointer (some (ad103.add (i * 76)))) rfl rfl rfl rfl (fun W_ hW_ F_ => (run_as (run_at_k (P := Try.prog) (e := 83) (sz := 76) (by kernel_rfl) (by kernel_rfl) i (by first | omega | decide) _))) ?_
   refine t_is (.pointer (some (ad103.add (i * 76)))) rfl rfl rfl rfl (fun W_ hW_ F_ => by simp [go_sem, sEv, sLook, nbeq, i64_w, -List.getD_eq_getElem?_getD, Try.underlying83]) ?_
   refine t_is (.pointer (some (ad103.add (i * 76)))) rfl rfl rfl rfl (fun W_ hW_ F_ => by simp [go_sem, sEv, sLook, nbeq, i64_w, -List.getD_eq_getElem?_getD, Try.underlying55]) ?_
   refine t_is (.int .i64 ((n.ents.getD i EL.zero).win)) rfl rfl rfl rfl (fun W_ hW_ F_ => (by have e0_ := cellOn (cell_0 (hc105 0 _ rfl)) (chain (Below.refl _ _) (below_of_drew hW_)); simp [go_sem, sEv, sLook, nbeq, i64_w, -List.getD_eq_getElem?_getD, e0_])) ?_
   refine t_is (.pointer (some ⟨g1, 5, none⟩)) rfl rfl rfl rfl (fun W_ hW_ F_ => by simp [go_sem, sEv, sLook, nbeq, i64_w, -List.getD_eq_getElem?_getD, Try.underlying26]) ?_
   refine t_is (.slice (some ad103) n.ents.length c5) rfl rfl rfl rfl (fun W_ hW_ F_ => by have eb_ := (hf101.on (below_of_drew hW_)); have e0_ := eb_.cellv (i := 5) (v := (.slice (some ad103) n.ents.length c5 : Value)) rfl; simp [go_sem, sEv, sLook, nbeq, i64_w, -List.getD_eq_getElem?_getD, e0_, Try.underlying24]) ?_
   refine tr (.int .i64 ((i : Nat) : Int)) ?_
   refine t_is (.pointer (some (ad103.add (i * 76)))) rfl rfl rfl rfl (fun W_ hW_ F_ => (run_as (run_at_k (P := Try.prog) (e := 83) (sz := 76) (by kernel_rfl) (by kernel_rfl) i (by first | omega | decide) _))) ?_
   refine t_is (.pointer (some (ad103.add (i * 76)))) rfl rfl rfl rfl (fun W_ hW_ F_ => by simp [go_sem, sEv, sLook, nbeq, i64_w, -List.getD_eq_getElem?_getD, Try.underlying83]) ?_
   refine t_is (.pointer (some ⟨(ad103.add (i * 76)).block, (ad103.add (i * 76)).off + 1, none⟩)) rfl rfl rfl rfl (fun W_ hW_ F_ => by simp [go_sem, sEv, sLook, nbeq, i64_w, -List.getD_eq_getElem?_getD, Try.underlying55]) ?_
   refine t_is (.int .i64 ((n.ents.getD i EL.zero).key)) rfl rfl rfl rfl (fun W_ hW_ F_ => (by have e0_ := cellOn (cell_j (hc108 1 _ rfl)) (chain (Below.refl _ _) (below_of_drew hW_)); simp [go_sem, sEv, sLook, nbeq, i64_w, -List.getD_eq_getElem?_getD, e0_])) ?_
   refine t_val (SlcSpec w_L99.heap.size 3 #[.int .i64 ((n.ents.getD i EL.zero).win), .int .i64 ((n.ents.getD i EL.zero).key)] 2) rfl rfl rfl rfl (fun W_ hW_ F_ => slc_gives _ _ _ _ (below_of_drew hW_).size (by kernel_rfl)) ?_
   rintro _ ⟨g109, rfl⟩
   refine t_tail ?_
   intro w112 hb113_ F114
   have hb113 := below_of_drew hb113_
   have hs_w112 := hb113.size
   obtain ⟨hge111, hk110⟩ := slc_fact (F114 15 _ _ rfl)
   have hlt_g109 := hk110.lt
   clear F114
   have hk110r : OwnK (Kd.int .i64) 3 w112 w.heap.size g109 (some ⟨g109, 0, none⟩) 2 2 ([(n.ents.getD i EL.zero).win, (n.ents.getD i EL.zero).key] : List Int) := scal_own w.heap.size hk110 (by omega) rfl rfl (by simp)
   have oA121 : OwnK (Kd.int .i64) 3 w112 w.heap.size w.heap.size A3_ (((((([n.kind, n.fr, n.tw, (n.nums.length : Int)] ++ n.nums) ++ [(n.ops.length : Int)]) ++ opsL n.ops) ++ [(n.ents.length : Int)]) ++ entsL (n.ents.take i)).length) c3_ ((((([n.kind, n.fr, n.tw, (n.nums.length : Int)] ++ n.nums) ++ [(n.ops.length : Int)]) ++ opsL n.ops) ++ [(n.ents.length : Int)]) ++ entsL (n.ents.take i)) := (OwnK.on (d := (Kd.int .i64)) hO3_ hb113)
   refine rw_append_kd (d := (Kd.int .i64)) w.heap.size rfl rfl rfl (.tmp 65) (.tmp 80) rfl rfl 22 3 (.int .i64 0) 8 rfl (by kernel_rfl) (by kernel_rfl) rfl (show 0 < 1 by decide) (by decide) (fun _ _ h => h) (b := w.heap.size) rfl rfl (by omega) oA121 (OwnK.Cn (d := (Kd.int .i64)) hk110r) (chain hB_L99 hb113) (by omega) (by have q1_ := hko_ n.ops.length; have q2_ := hke_ n.ents.length; simp only [List.take_length] at q1_ q2_; simp only [List.length_append, List.length_cons, List.length_nil]; first | omega | (have q3_ := hko_ j; omega) | (have q4_ := hke_ i; have q5_ := nums_len (n.ents.getD i EL.zero).c; have q6_ := pr_len (n.ents.getD i EL.zero).c.h 65; omega)) ?_
   intro A115 c116 w117 hO118 hB119 hG120
   have hs_w117 := hB119.size
   have hgs_w117 := hG120.size
   have hk123 := OwnK.blk_grown (hf101.on hb113) oA121 (.inr (by decide)) hG120
   refine rv (.slice A115 ((((((([n.kind, n.fr, n.tw, (n.nums.length : Int)] ++ n.nums) ++ [(n.ops.length : Int)]) ++ opsL n.ops) ++ [(n.ents.length : Int)]) ++ entsL (n.ents.take i)) ++ ([(n.ents.getD i EL.zero).win, (n.ents.getD i EL.zero).key] : List Int)).length) c116) ?_
   refine rw_end ?_
   refine w_region ?_
   refine rv (.slice A115 ((((((([n.kind, n.fr, n.tw, (n.nums.length : Int)] ++ n.nums) ++ [(n.ops.length : Int)]) ++ opsL n.ops) ++ [(n.ents.length : Int)]) ++ entsL (n.ents.take i)) ++ ([(n.ents.getD i EL.zero).win, (n.ents.getD i EL.zero).key] : List Int)).length) c116) ?_
   refine ru (.pointer (some ⟨g1, 5, none⟩)) ?_
   refine rl hk123 5 (.slice (some ad103) n.ents.length c5) ?_
   refine rv (.int .i64 ((i : Nat) : Int)) ?_
   obtain ⟨ad124, hA125, hc126⟩ := flat_at (Kd.C_below hn5 hB119) EL.zero i (by first | omega | decide)
   obtain rfl := Option.some.inj hA125
   refine rz (.pointer (some (ad103.add (i * 76)))) (run_as (run_at_k (P := Try.prog) (e := 83) (sz := 76) (by kernel_rfl) (by kernel_rfl) i (by first | omega | decide) _)) ?_
   refine ru (.pointer (some ⟨(ad103.add (i * 76)).block, (ad103.add (i * 76)).off + 2, none⟩)) ?_
   refine rz (.agg (carr ((n.ents.getD i EL.zero).c))) (run_as (load_eelc (x := (n.ents.getD i EL.zero)) (fun j u hj => cellOn (hc126 j u hj) (Below.refl _ _)))) ?_
   refine rcl ((rnums_calls w117 ((n.ents.getD i EL.zero).c))) ?_
   rintro e_ w129 ⟨A127, c128, rfl, hO130, hB131⟩
   refine ⟨_, rfl, ?_⟩
   have hs_w129 := hB131.size
   have hL132 : OwnK (Kd.int .i64) 3 w129 w.heap.size w117.heap.size A127 (numsC ((n.ents.getD i EL.zero).c)).length c128 (numsC ((n.ents.getD i EL.zero).c)) := OwnK.lower hO130 (by omega)
   have oA139 : OwnK (Kd.int .i64) 3 w129 w.heap.size w.heap.size A115 ((((((([n.kind, n.fr, n.tw, (n.nums.length : Int)] ++ n.nums) ++ [(n.ops.length : Int)]) ++ opsL n.ops) ++ [(n.ents.length : Int)]) ++ entsL (n.ents.take i)) ++ ([(n.ents.getD i EL.zero).win, (n.ents.getD i EL.zero).key] : List Int)).length) c116 (((((([n.kind, n.fr, n.tw, (n.nums.length : Int)] ++ n.nums) ++ [(n.ops.length : Int)]) ++ opsL n.ops) ++ [(n.ents.length : Int)]) ++ entsL (n.ents.take i)) ++ ([(n.ents.getD i EL.zero).win, (n.ents.getD i EL.zero).key] : List Int)) := (OwnK.on (d := (Kd.int .i64)) hO118 hB131)
   refine rw_append_kd (d := (Kd.int .i64)) w.heap.size rfl rfl rfl (.tmp 82) (.tmp 89) rfl rfl 22 3 (.int .i64 0) 8 rfl (by kernel_rfl) (by kernel_rfl) rfl (show 0 < 1 by decide) (by decide) (fun _ _ h => h) (b := w.heap.size) rfl rfl (by omega) oA139 (OwnK.Cn (d := (Kd.int .i64)) hL132) (chain hB119 hB131) (by omega) (by have q1_ := hko_ n.ops.length; have q2_ := hke_ n.ents.length; simp only [List.take_length] at q1_ q2_; simp only [List.length_append, List.length_cons, List.length_nil]; first | omega | (have q3_ := hko_ j; omega) | (have q4_ := hke_ i; have q5_ := nums_len (n.ents.getD i EL.zero).c; have q6_ := pr_len (n.ents.getD i EL.zero).c.h 65; omega)) ?_
   intro A133 c134 w135 hO136 hB137 hG138
   have hs_w135 := hB137.size
   have hgs_w135 := hG138.size
   have hk141 := OwnK.blk_grown (hk123.on hB131) oA139 (.inr (by decide)) hG138
   refine rv (.slice A133 (((((((([n.kind, n.fr, n.tw, (n.nums.length : Int)] ++ n.nums) ++ [(n.ops.length : Int)]) ++ opsL n.ops) ++ [(n.ents.length : Int)]) ++ entsL (n.ents.take i)) ++ ([(n.ents.getD i EL.zero).win, (n.ents.getD i EL.zero).key] : List Int)) ++ (numsC ((n.ents.getD i EL.zero).c))).length) c134) ?_
   refine rw_end ?_
   refine w_blk ?_
   refine w_region ?_
   refine rv (.int .i64 ((i : Nat) : Int)) ?_
   refine rw1 (.int .i64 ((i + 1 : Nat) : Int)) ?_
   refine rv (.int .i64 ((i + 1 : Nat) : Int)) ?_
   refine rw_end ?_
   have e142 : ((((((([n.kind, n.fr, n.tw, (n.nums.length : Int)] ++ n.nums) ++ [(n.ops.length : Int)]) ++ opsL n.ops) ++ [(n.ents.length : Int)]) ++ entsL (n.ents.take i)) ++ ([(n.ents.getD i EL.zero).win, (n.ents.getD i EL.zero).key] : List Int)) ++ (numsC ((n.ents.getD i EL.zero).c))) = ((((([n.kind, n.fr, n.tw, (n.nums.length : Int)] ++ n.nums) ++ [(n.ops.length : Int)]) ++ opsL n.ops) ++ [(n.ents.length : Int)]) ++ entsL (n.ents.take (i + 1))) := by (unfold entsL; rw [flat_snoc entL n.ents i EL.zero (by omega)]; unfold entL; simp only [List.append_assoc])
   have hO143 : OwnK (Kd.int .i64) 3 w135 w.heap.size w.heap.size A133 ((((([n.kind, n.fr, n.tw, (n.nums.length : Int)] ++ n.nums) ++ [(n.ops.length : Int)]) ++ opsL n.ops) ++ [(n.ents.length : Int)]) ++ entsL (n.ents.take (i + 1))).length c134 ((((([n.kind, n.fr, n.tw, (n.nums.length : Int)] ++ n.nums) ++ [(n.ops.length : Int)]) ++ opsL n.ops) ++ [(n.ents.length : Int)]) ++ entsL (n.ents.take (i + 1))) := by rw [← e142]; exact OwnK.full hO136
   have en144 : ((((((([n.kind, n.fr, n.tw, (n.nums.length : Int)] ++ n.nums) ++ [(n.ops.length : Int)]) ++ opsL n.ops) ++ [(n.ents.length : Int)]) ++ entsL (n.ents.take i)) ++ ([(n.ents.getD i EL.zero).win, (n.ents.getD i EL.zero).key] : List Int)) ++ (numsC ((n.ents.getD i EL.zero).c))).length = ((((([n.kind, n.fr, n.tw, (n.nums.length : Int)] ++ n.nums) ++ [(n.ops.length : Int)]) ++ opsL n.ops) ++ [(n.ents.length : Int)]) ++ entsL (n.ents.take (i + 1))).length := by rw [← e142] <;> exact OwnK.len (d := (Kd.int .i64)) hO136
   exact w_back (m_ - 1) [(1, .pointer (some ⟨g1, 0, none⟩)), (3, .slice A133 (((((([n.kind, n.fr, n.tw, (n.nums.length : Int)] ++ n.nums) ++ [(n.ops.length : Int)]) ++ opsL n.ops) ++ [(n.ents.length : Int)]) ++ entsL (n.ents.take (i + 1))).length) c134), (6, .int .i64 ((i + 1 : Nat) : Int))] (by omega) ⟨rfl, (by first | rfl | (rw [← en144]; rfl)), rfl, trivial⟩ ⟨(i + 1), A133, c134, by omega, hB137, (OwnK.mono (d := (Kd.int .i64)) hO143 (by omega)), hk141, rfl⟩
  ·
   have l145 : ¬ (((i : Nat) : Int) < ((n.ents.length : Nat) : Int)) := of_decide_eq_false cI
   refine w_exit rfl ?_
   refine wsr ?_
   refine rv (.slice A3_ (((((([n.kind, n.fr, n.tw, (n.nums.length : Int)] ++ n.nums) ++ [(n.ops.length : Int)]) ++ opsL n.ops) ++ [(n.ents.length : Int)]) ++ entsL (n.ents.take i)).length) c3_) ?_
   refine rv (.slice A3_ (((((([n.kind, n.fr, n.tw, (n.nums.length : Int)] ++ n.nums) ++ [(n.ops.length : Int)]) ++ opsL n.ops) ++ [(n.ents.length : Int)]) ++ entsL (n.ents.take i)).length) c3_) ?_
   refine rw_end ?_
   refine w_ret (post_ret1 rfl rfl ?_)
   have eX_ : ((((([n.kind, n.fr, n.tw, (n.nums.length : Int)] ++ n.nums) ++ [(n.ops.length : Int)]) ++ opsL n.ops) ++ [(n.ents.length : Int)]) ++ entsL (n.ents.take i)) = listN n := by rw [List.take_of_length_le (by omega)]; unfold listN; rfl
   have hf_ := hO3_
   rw [eX_] at hf_
   rw [eX_]
   exact ⟨_, _, rfl, OwnK.mono (d := (Kd.int .i64)) hf_ (by omega), hB_L99⟩
end Go.Proofs.Ytbbhdohjhipalaa.Ce
end
section
namespace Go.Proofs.Ytbbhdohjhipalaa.Ce
open Go.RowKit Go.Proofs.YtbbhdohjhipalaaW.PrintWords Go.Proofs.YtbbhdohjhipalaaW.PrintLast Go.Proofs.YtbbhdohjhipalaaW.PrintMore
open Go.Proofs.Ytbbhdohjhipalaa.Flow
open Go.Proofs.Ytbbhdohjhipalaa.PNoteReads
set_option linter.unusedVariables false
set_option linter.unusedSimpArgs false
def EN (n : NT) : Int := if goodN n = true then errN (PB (listN n)) else 2
theorem en_no {n : NT} (h : goodN n = false) : EB n = [] ∧ EN n = 2 := ⟨(eb_no h).1, by unfold EN; rw [h]; rfl⟩
theorem en_yes {n : NT} (h : goodN n = true) : EB n = frameB (PB (listN n)) ∧ EN n = errN (PB (listN n)) := ⟨(eb_yes h).1, by unfold EN; rw [h]; rfl⟩
theorem listN_good {n : NT} (h : goodN n = true) : (listN n).length ≤ 2500 := by
  obtain ⟨z1, z2, z3⟩ := good_sz h
  unfold listN
  have h1 := opsL_len n.ops
  have h2 := entsL_len n.ents
  simp only [List.length_append, List.length_cons, List.length_nil]
  omega
theorem rput0 (w : World) (DA : Option Addr) (dc : Nat) (ys : List Int) (hC1 : (Kd.int .i64).C w DA ys.length ys) (hc1 : ys.length ≤ dc) (hy : ∀ y ∈ ys, I64 y) (hl : ys.length ≤ 1000000) : Calls Try.prog 31 #[.slice none 0 0, .slice DA ys.length dc] w fun e w' => ∃ A' c', e = .returned (.slice A' (PB ys).length c') ∧ OwnK (Kd.int .u8) 5 w' w.heap.size w.heap.size A' (PB ys).length c' (PB ys) ∧ Below w.heap.size w w' := by
  refine (refput_calls w none 0 [] DA dc ys ⟨rfl, by simp, fun h => absurd h (by decide)⟩ (Nat.le_refl _) hC1 hc1 hy hl (by simp)).mono ?_
  rintro e w' ⟨A', n', c', rfl, h1, h2⟩
  have e1 := OwnK.len (d := Kd.int .u8) h1
  rw [List.nil_append] at h1 e1
  subst e1
  exact ⟨A', c', rfl, h1, h2⟩
theorem rwrap1 (w : World) (A0 : Option Addr) (c0 : Nat) (b : List Int) (hC : (Kd.int .u8).C w A0 b.length b) (hc : b.length ≤ c0) (hb : Bytes b) (hl : b.length ≤ 1000000) : Calls Try.prog 30 #[.slice A0 b.length c0] w fun e w' => ∃ A' c', e = .returned (.tuple #[.slice A' (frameB b).length c', .int .i64 (errN b)]) ∧ OwnK (Kd.int .u8) 5 w' w.heap.size w.heap.size A' (frameB b).length c' (frameB b) ∧ Below w.heap.size w w' := by
  refine (refwrap_calls w A0 c0 b hC hc hb hl).mono ?_
  rintro e w' ⟨A', n', c', rfl, h1, h2⟩
  have e1 := OwnK.len (d := Kd.int .u8) h1
  subst e1
  exact ⟨A', c', rfl, h1, h2⟩
set_option maxHeartbeats 4000000 in
theorem renc_calls (w : World) (n : NT) (A3 : Option Addr) (c3 : Nat) (A4 : Option Addr) (c4 : Nat) (A5 : Option Addr) (c5 : Nat) (hn3 : (Kd.int .i64).C w A3 n.nums.length n.nums) (hc3 : n.nums.length ≤ c3) (hn4 : kOp.C w A4 n.ops.length n.ops) (hc4 : n.ops.length ≤ c4) (hn5 : kEntry.C w A5 n.ents.length n.ents) (hc5 : n.ents.length ≤ c5) (hk3 : n.nums.length ≤ 140737488355328) (hk4 : n.ops.length ≤ 140737488355328) (hk5 : n.ents.length ≤ 140737488355328) (hI : ∀ y ∈ listN n, I64 y) :
  Calls Try.prog 13 #[.agg #[.int .i64 n.kind, .int .i64 n.fr, .int .i64 n.tw, .slice A3 n.nums.length c3, .slice A4 n.ops.length c4, .slice A5 n.ents.length c5]] w fun e w' => ∃ A' c', e = .returned (.tuple #[.slice A' (EB n).length c', .int .i64 (EN n)]) ∧ OwnK (Kd.int .u8) 5 w' w.heap.size w.heap.size A' (EB n).length c' (EB n) ∧ Below w.heap.size w w' := by
 refine calls_flow Try.func13 rfl 13 rfl (Nat.le_of_ble_eq_true rfl) [(0, .agg #[.int .i64 n.kind, .int .i64 n.fr, .int .i64 n.tw, .slice A3 n.nums.length c3, .slice A4 n.ops.length c4, .slice A5 n.ents.length c5])] ?_ ?_
 ·
  intro t v h; exact args_look rfl t v h
 refine wsr ?_
 refine rw_new (cs := #[.int .i64 n.kind, .int .i64 n.fr, .int .i64 n.tw, .slice A3 n.nums.length c3, .slice A4 n.ops.length c4, .slice A5 n.ents.length c5]) (t := 26) (fun g => .pointer (some ⟨g, 0, none⟩)) rfl rfl rfl rfl (by simp [go_sem, sEv, sLook, nbeq, i64_w, -List.getD_eq_getElem?_getD]) ?_
 intro g1 w2 hg6 hz5 hb3 hk4
 have hs_w2 := hb3.size
 refine rv (.slice none 0 0) ?_
 refine rv (.int .i64 0) ?_
 refine rw_end ?_
 refine w_seq ?_
 refine wsr ?_
 refine rz (.agg #[.int .i64 n.kind, .int .i64 n.fr, .int .i64 n.tw, .slice A3 n.nums.length c3, .slice A4 n.ops.length c4, .slice A5 n.ents.length c5]) (by have eb_ := hk4; have e0_ := eb_.cellv (i := 0) (v := (.int .i64 n.kind : Value)) rfl; have e1_ := eb_.cellv (i := 1) (v := (.int .i64 n.fr : Value)) rfl; have e2_ := eb_.cellv (i := 2) (v := (.int .i64 n.tw : Value)) rfl; have e3_ := eb_.cellv (i := 3) (v := (.slice A3 n.nums.length c3 : Value)) rfl; have e4_ := eb_.cellv (i := 4) (v := (.slice A4 n.ops.length c4 : Value)) rfl; have e5_ := eb_.cellv (i := 5) (v := (.slice A5 n.ents.length c5 : Value)) rfl; simp [go_sem, sEv, sLook, nbeq, i64_w, -List.getD_eq_getElem?_getD, e0_, e1_, e2_, e3_, e4_, e5_, Try.underlying26]) ?_
 refine rcl (good_calls w2 n A3 c3 A4 c4 A5 c5 (Kd.C_below hn3 hb3) hc3 (Kd.C_below hn4 hb3) hc4 (Kd.C_below hn5 hb3) hc5 (by omega) (by omega) (by omega)) ?_
 rintro e_ w7 ⟨rfl, hb8⟩
 refine ⟨_, rfl, ?_⟩
 have hs_w7 := hb8.size
 refine rs (.bool (!(goodN n))) ?_
 refine rw_end ?_
 refine w_cond rfl rfl (fun cG => ?_) (fun cG => ?_)
 ·
  refine wsr ?_
  refine rv (.slice none 0 0) ?_
  refine rv (.int .i64 2) ?_
  refine rw_end ?_
  refine w_ret (post_ret2 rfl rfl rfl ?_)
  rw [(en_no (by simpa using cG)).1, (en_no (by simpa using cG)).2]
  exact ⟨_, _, rfl, OwnK.nil _ _ _ _ _, (chain hb3 hb8)⟩
 ·
  refine w_skip ?_
  refine wsr ?_
  refine rz (.agg #[.int .i64 n.kind, .int .i64 n.fr, .int .i64 n.tw, .slice A3 n.nums.length c3, .slice A4 n.ops.length c4, .slice A5 n.ents.length c5]) (by have eb_ := (hk4.on hb8); have e0_ := eb_.cellv (i := 0) (v := (.int .i64 n.kind : Value)) rfl; have e1_ := eb_.cellv (i := 1) (v := (.int .i64 n.fr : Value)) rfl; have e2_ := eb_.cellv (i := 2) (v := (.int .i64 n.tw : Value)) rfl; have e3_ := eb_.cellv (i := 3) (v := (.slice A3 n.nums.length c3 : Value)) rfl; have e4_ := eb_.cellv (i := 4) (v := (.slice A4 n.ops.length c4 : Value)) rfl; have e5_ := eb_.cellv (i := 5) (v := (.slice A5 n.ents.length c5 : Value)) rfl; simp [go_sem, sEv, sLook, nbeq, i64_w, -List.getD_eq_getElem?_getD, e0_, e1_, e2_, e3_, e4_, e5_, Try.underlying26]) ?_
  have hz_ := good_sz (by simpa using cG)
  have hll_ := listN_good (by simpa using cG)
  refine rcl (reflist_calls w7 n A3 c3 A4 c4 A5 c5 (Kd.C_below hn3 (chain hb3 hb8)) hc3 (Kd.C_below hn4 (chain hb3 hb8)) hc4 (Kd.C_below hn5 (chain hb3 hb8)) hc5 (by omega) (by omega) (by omega)) ?_
  rintro e_ w9 ⟨A11, c12, rfl, hO130, hb10⟩
  refine ⟨_, rfl, ?_⟩
  have hs_w9 := hb10.size
  have hO13 := OwnK.lower (base' := w.heap.size) (d := (Kd.int .i64)) hO130 (by omega)
  refine rcl (rput0 w9 A11 c12 (listN n) (OwnK.C (d := (Kd.int .i64)) hO13) (by have q_ := OwnK.cap (d := (Kd.int .i64)) hO13; omega) hI (by omega)) ?_
  rintro e_ w14 ⟨A16, c17, rfl, hO180, hb15⟩
  refine ⟨_, rfl, ?_⟩
  have hs_w14 := hb15.size
  have hO18 := OwnK.lower (base' := w.heap.size) (d := (Kd.int .u8)) hO180 (by omega)
  have hpl_ := PB_len (listN n) hI
  refine rcl (rwrap1 w14 A16 c17 (PB (listN n)) (OwnK.C (d := (Kd.int .u8)) hO18) (by have q_ := OwnK.cap (d := (Kd.int .u8)) hO18; omega) (PB_bytes _ hI) (by omega)) ?_
  rintro e_ w19 ⟨A21, c22, rfl, hO230, hb20⟩
  refine ⟨_, rfl, ?_⟩
  have hs_w19 := hb20.size
  have hO23 := OwnK.lower (base' := w.heap.size) (d := (Kd.int .u8)) hO230 (by omega)
  refine rs (.slice A21 ((frameB (PB (listN n))).length) c22) ?_
  refine rs (.int .i64 (errN (PB (listN n)))) ?_
  refine rv (.slice A21 ((frameB (PB (listN n))).length) c22) ?_
  refine rv (.int .i64 (errN (PB (listN n)))) ?_
  refine rw_end ?_
  refine w_ret (post_ret2 rfl rfl rfl ?_)
  rw [(en_yes (by simpa using cG)).1, (en_yes (by simpa using cG)).2]
  exact ⟨_, _, rfl, OwnK.mono (d := (Kd.int .u8)) hO23 (by omega), (chain (chain (chain (chain hb3 hb8) hb10) hb15) hb20)⟩
end Go.Proofs.Ytbbhdohjhipalaa.Ce
end
section
namespace Go.Proofs.Ytbbhdohjhipalaa.Ce
open Go.RowKit Go.Proofs.YtbbhdohjhipalaaW.PrintWords Go.Proofs.YtbbhdohjhipalaaW.PrintLast Go.Proofs.YtbbhdohjhipalaaW.PrintMore
open Go.Proofs.Ytbbhdohjhipalaa.Flow Go.Proofs.Ytbbhdohjhipalaa.PNoteReads
set_option linter.unusedVariables false
set_option linter.unusedSimpArgs false
def cntL (x : Int) : Nat := min x.toNat 100
def carNums (l : List Int) (i : Nat) : Nat → List Int
  | 0 => []
  | k + 1 => carNums l i k ++ [l.getD (i + k) 0]
def carOp (l : List Int) (i : Nat) : OpL := (l.getD i 0, l.getD (i + 1) 0, l.getD (i + 2) 0, l.getD (i + 3) 0, l.getD (i + 4) 0)
def carOps (l : List Int) (i : Nat) : Nat → List OpL
  | 0 => []
  | k + 1 => carOps l i k ++ [carOp l (i + 5 * k)]
def carEnts (l : List Int) (i : Nat) : Nat → Option (List EL × Nat)
  | 0 => some ([], i)
  | k + 1 => match carEnts l i k with
    | none => none
    | some (es, j) => if l.length < j + 2 then none else match takeC (l.drop (j + 2)) with
      | none => none
      | some (c, _) => some (es ++ [⟨l.getD j 0, l.getD (j + 1) 0, c⟩], j + 2 + (10 + 2 * nC (l.drop (j + 2))))
def carI1 (l : List Int) : Nat := 4 + cntL (l.getD 3 0)
def carI2 (l : List Int) : Nat := carI1 l + 1 + 5 * cntL (l.getD (carI1 l) 0)
def carN (l : List Int) : Option NT := match carEnts l (carI2 l + 1) (cntL (l.getD (carI2 l) 0)) with
  | none => none
  | some (es, _) => some ⟨l.getD 0 0, l.getD 1 0, l.getD 2 0, carNums l 4 (cntL (l.getD 3 0)), carOps l (carI1 l + 1) (cntL (l.getD (carI1 l) 0)), es⟩
def RNL (b : List Int) : List Int := (numsP (b.length + 1) b ((b.length : Int) + 1) []).1
def RNO (b : List Int) : Bool := (numsP (b.length + 1) b ((b.length : Int) + 1) []).2
def rdecN (b : List Int) : NT × Int :=
  if wholeP b = 0 ∨ wholeP b ≠ b.length then (NT.zero, 3)
  else if RNO (UN b) = false then (NT.zero, 4)
  else match carN (RNL (UN b)) with
    | none => (NT.zero, 4)
    | some n => if EN n ≠ 0 ∨ EB n ≠ b then (NT.zero, 4) else (n, 0)
theorem carNums_len (l : List Int) (i : Nat) : ∀ k, (carNums l i k).length = k
  | 0 => rfl
  | k + 1 => by rw [carNums, List.length_append, carNums_len l i k]; rfl
theorem carOps_len (l : List Int) (i : Nat) : ∀ k, (carOps l i k).length = k
  | 0 => rfl
  | k + 1 => by rw [carOps, List.length_append, carOps_len l i k]; rfl
theorem carEnts_len (l : List Int) (i : Nat) : ∀ k es j, carEnts l i k = some (es, j) → es.length = k
  | 0, es, j, h => by simp only [carEnts, Option.some.injEq, Prod.mk.injEq] at h; rw [← h.1]; rfl
  | k + 1, es, j, h => by
    simp only [carEnts] at h
    cases e : carEnts l i k with
    | none => rw [e] at h; cases h
    | some p =>
      obtain ⟨es2, j2⟩ := p
      rw [e] at h
      simp only at h
      split at h
      · cases h
      · cases e2 : takeC (l.drop (j2 + 2)) with
        | none => rw [e2] at h; cases h
        | some q =>
          obtain ⟨c, r⟩ := q
          rw [e2] at h
          simp only [Option.some.injEq, Prod.mk.injEq] at h
          rw [← h.1, List.length_append, carEnts_len l i k es2 j2 e]
          rfl
theorem cntL_le (x : Int) : cntL x ≤ 100 := Nat.min_le_right _ _
theorem getD_I {l : List Int} (h : ∀ y ∈ l, I64 y) (i : Nat) : I64 (l.getD i 0) := by
  rw [List.getD_eq_getElem?_getD]
  cases e : l[i]? with
  | none => exact ⟨by decide, by decide⟩
  | some x => exact h x (List.mem_of_getElem? e)
theorem carNums_I {l : List Int} (h : ∀ y ∈ l, I64 y) (i : Nat) : ∀ k, ∀ y ∈ carNums l i k, I64 y
  | 0, y, hy => by cases hy
  | k + 1, y, hy => by
    rw [carNums] at hy
    rcases List.mem_append.1 hy with hy | hy
    · exact carNums_I h i k y hy
    · rw [List.mem_singleton.1 hy]
      exact getD_I h _
theorem carOps_I {l : List Int} (h : ∀ y ∈ l, I64 y) (i : Nat) : ∀ k, ∀ o ∈ carOps l i k, OpI o
  | 0, y, hy => by cases hy
  | k + 1, y, hy => by
    rw [carOps] at hy
    rcases List.mem_append.1 hy with hy | hy
    · exact carOps_I h i k y hy
    · rw [List.mem_singleton.1 hy]
      exact ⟨getD_I h _, getD_I h _, getD_I h _, getD_I h _, getD_I h _⟩
theorem takeC_lo {l : List Int} {c : CL} {r : List Int} (h : takeC l = some (c, r)) : LoOk c := by
  unfold takeC at h
  split at h
  · split at h
    · cases h
    · cases h
      unfold LoOk baseC
      simp only
      omega
  · cases h
theorem take_I {l : List Int} {c : CL} {r : List Int} (h : ∀ y ∈ l, I64 y) (ht : takeC l = some (c, r)) : (∀ y ∈ numsC c, I64 y) ∧ LoOk c ∧ numsC c ++ r = l ∧ (numsC c).length = 10 + 2 * nC l := by
  obtain ⟨h1, h2, h3, h4⟩ := takeC_nums ht (getD_I h 2)
  have h5 : (numsC c).length = 10 + 2 * nC l := by
    obtain ⟨s1, s2, s3, s4⟩ := shape_spec h4
    rw [h2, List.length_take]
    omega
  refine ⟨fun y hy => h y (by rw [← h1]; exact List.mem_append_left _ hy), ?_, h1, h5⟩
  exact takeC_lo ht
theorem carEnts_I {l : List Int} (h : ∀ y ∈ l, I64 y) (i : Nat) : ∀ k es j, carEnts l i k = some (es, j) → ∀ x ∈ es, (∀ y ∈ entL x, I64 y) ∧ LoOk x.c
  | 0, es, j, he => by
    simp only [carEnts, Option.some.injEq, Prod.mk.injEq] at he
    rw [← he.1]
    intro x hx
    cases hx
  | k + 1, es, j, he => by
    simp only [carEnts] at he
    cases e : carEnts l i k with
    | none => rw [e] at he; cases he
    | some p =>
      obtain ⟨es2, j2⟩ := p
      rw [e] at he
      simp only at he
      split at he
      · cases he
      · cases e2 : takeC (l.drop (j2 + 2)) with
        | none => rw [e2] at he; cases he
        | some q =>
          obtain ⟨c, r⟩ := q
          rw [e2] at he
          simp only [Option.some.injEq, Prod.mk.injEq] at he
          rw [← he.1]
          intro x hx
          rcases List.mem_append.1 hx with hx | hx
          · exact carEnts_I h i k es2 j2 e x hx
          · rw [List.mem_singleton.1 hx]
            obtain ⟨q1, q2, _, _⟩ := take_I (fun y hy => h y (List.mem_of_mem_drop hy)) e2
            refine ⟨fun y hy => ?_, q2⟩
            unfold entL at hy
            rcases List.mem_append.1 hy with hy | hy
            · simp only [List.mem_cons, List.not_mem_nil, or_false] at hy
              rcases hy with rfl | rfl
              · exact getD_I h _
              · exact getD_I h _
            · exact q1 y hy
theorem listN_I2 {n : NT} (h1 : I64 n.kind ∧ I64 n.fr ∧ I64 n.tw) (h4 : ∀ y ∈ n.nums, I64 y) (h5 : ∀ o ∈ n.ops, OpI o) (h6 : ∀ x ∈ n.ents, ∀ y ∈ entL x, I64 y) (hl : n.nums.length + n.ops.length + n.ents.length ≤ 1000) : ∀ y ∈ listN n, I64 y := by
  obtain ⟨h1, h2, h3⟩ := h1
  intro y hy
  unfold listN at hy
  rcases List.mem_append.1 hy with hy | hy
  · rcases List.mem_append.1 hy with hy | hy
    · rcases List.mem_append.1 hy with hy | hy
      · rcases List.mem_append.1 hy with hy | hy
        · rcases List.mem_append.1 hy with hy | hy
          · simp only [List.mem_cons, List.not_mem_nil, or_false] at hy
            rcases hy with rfl | rfl | rfl | rfl
            · exact h1
            · exact h2
            · exact h3
            · exact I64_nat (by omega)
          · exact h4 y hy
        · rw [List.mem_singleton.1 hy]
          exact I64_nat (by omega)
      · unfold opsL at hy
        rw [List.mem_flatten] at hy
        obtain ⟨l, hl, hy⟩ := hy
        rw [List.mem_map] at hl
        obtain ⟨o, ho, rfl⟩ := hl
        obtain ⟨q1, q2, q3, q4, q5⟩ := h5 o ho
        simp only [opL, List.mem_cons, List.not_mem_nil, or_false] at hy
        rcases hy with rfl | rfl | rfl | rfl | rfl <;> assumption
    · rw [List.mem_singleton.1 hy]
      exact I64_nat (by omega)
  · unfold entsL at hy
    rw [List.mem_flatten] at hy
    obtain ⟨l, hl, hy⟩ := hy
    rw [List.mem_map] at hl
    obtain ⟨x, hx, rfl⟩ := hl
    exact h6 x hx y hy
theorem carN_I {l : List Int} {n : NT} (h : ∀ y ∈ l, I64 y) (he : carN l = some n) : (∀ y ∈ listN n, I64 y) ∧ (∀ x ∈ n.ents, LoOk x.c) ∧ n.nums.length ≤ 100 ∧ n.ops.length ≤ 100 ∧ n.ents.length ≤ 100 := by
  unfold carN at he
  cases e : carEnts l (carI2 l + 1) (cntL (l.getD (carI2 l) 0)) with
  | none => rw [e] at he; cases he
  | some p =>
    obtain ⟨es, j⟩ := p
    rw [e] at he
    simp only [Option.some.injEq] at he
    subst he
    have z1 := carNums_len l 4 (cntL (l.getD 3 0))
    have z2 := carOps_len l (carI1 l + 1) (cntL (l.getD (carI1 l) 0))
    have z3 := carEnts_len l _ _ es j e
    have c1 := cntL_le (l.getD 3 0)
    have c2 := cntL_le (l.getD (carI1 l) 0)
    have c3 := cntL_le (l.getD (carI2 l) 0)
    have k1 := carEnts_I h _ _ es j e
    refine ⟨listN_I2 ⟨getD_I h _, getD_I h _, getD_I h _⟩ (carNums_I h _ _) (carOps_I h _ _) (fun x hx => (k1 x hx).1) (by show (carNums l 4 _).length + (carOps l _ _).length + es.length ≤ 1000; omega), fun x hx => (k1 x hx).2, ?_, ?_, ?_⟩
    · show (carNums l 4 _).length ≤ 100
      omega
    · show (carOps l _ _).length ≤ 100
      omega
    · show es.length ≤ 100
      omega
end Go.Proofs.Ytbbhdohjhipalaa.Ce
end
section
namespace Go.Proofs.Ytbbhdohjhipalaa.Ce
open Go.RowKit Go.Proofs.YtbbhdohjhipalaaW.PrintWords Go.Proofs.YtbbhdohjhipalaaW.PrintLast Go.Proofs.YtbbhdohjhipalaaW.PrintMore
open Go.Proofs.Ytbbhdohjhipalaa.Flow Go.Proofs.Ytbbhdohjhipalaa.PNoteReads
set_option linter.unusedVariables false
set_option linter.unusedSimpArgs false
theorem numsP_sm (most : Int) : ∀ (K : Nat) (b x r : List Int), Bytes b → numsP K b most x = (r, true) → ∃ ys, r = x ++ ys ∧ PB ys = b ∧ ∀ y ∈ ys, I64 y
  | 0, b, x, r, hb, h => by
    rw [numsP] at h
    cases h
  | K + 1, b, x, r, hb, h => by
    rw [numsP] at h
    by_cases c1 : b.length = 0
    · rw [if_pos c1] at h
      split at h
      · cases h
      · cases h
        exact ⟨[], by simp, by rw [List.length_eq_zero_iff.1 c1]; rfl, by simp⟩
    · rw [if_neg c1] at h
      by_cases c2 : (takeP b).2 = 0
      · rw [if_pos c2] at h
        cases h
      · rw [if_neg c2] at h
        obtain ⟨t1, t2, t3, t4⟩ := take_back b hb c2
        obtain ⟨ys, e1, e2, e3⟩ := numsP_sm most K _ _ _ (hb.drop _) h
        refine ⟨(takeP b).1 :: ys, by rw [e1]; simp, ?_, ?_⟩
        · rw [PB_cons, e2]
          exact t1
        · intro y hy
          rcases List.mem_cons.1 hy with rfl | hy
          · exact t2
          · exact e3 y hy
theorem numsP_okm (most : Int) : ∀ (ys : List Int) (K : Nat) (x : List Int), (∀ y ∈ ys, I64 y) → ys.length + 1 ≤ K → ((x.length + ys.length : Nat) : Int) ≤ most → numsP K (PB ys) most x = (x ++ ys, true)
  | [], K, x, hy, hK, hl => by
    obtain ⟨k, rfl⟩ : ∃ k, K = k + 1 := ⟨K - 1, by simp at hK; omega⟩
    rw [numsP, if_pos (show (PB []).length = 0 from rfl), if_neg (by simp at hl; omega), List.append_nil]
  | y :: t, K, x, hy, hK, hl => by
    obtain ⟨k, rfl⟩ : ∃ k, K = k + 1 := ⟨K - 1, by simp at hK; omega⟩
    have h1 := hy y (by simp)
    have hn := numB_len y
    have ht := take_num y h1 (PB t)
    have hd : (numB y ++ PB t).drop (1 + szN (tn y)) = PB t := by rw [← hn, List.drop_left]
    rw [numsP, PB_cons, if_neg (by rw [List.length_append, hn]; omega), ht, if_neg (by simp only; omega)]
    simp only [hd]
    rw [numsP_okm most t k (x ++ [y]) (fun z hz => hy z (by simp [hz])) (by simp at hK; omega) (by simp at hl ⊢; omega)]
    simp
theorem PB_ge (ys : List Int) : ys.length ≤ (PB ys).length := by
  induction ys with
  | nil => exact Nat.le_refl _
  | cons y t ih =>
    have := numB_len y
    rw [PB_cons, List.length_append, List.length_cons]
    omega
theorem RNL_s {b : List Int} (hb : Bytes b) (h : RNO b = true) : ∀ y ∈ RNL b, I64 y := by
  obtain ⟨ys, e1, e2, e3⟩ := numsP_sm ((b.length : Int) + 1) (b.length + 1) b [] (RNL b) hb (Prod.ext rfl h)
  rw [e1]
  exact e3
theorem RNL_len {b : List Int} (hb : Bytes b) (h : RNO b = true) : (RNL b).length ≤ b.length := by
  obtain ⟨ys, e1, e2, e3⟩ := numsP_sm ((b.length : Int) + 1) (b.length + 1) b [] (RNL b) hb (Prod.ext rfl h)
  have := PB_ge ys
  rw [e1, List.nil_append]
  rw [e2] at this
  exact this
theorem RNL_ok {ys : List Int} (hy : ∀ y ∈ ys, I64 y) : RNL (PB ys) = ys ∧ RNO (PB ys) = true := by
  have hg := PB_ge ys
  have h := numsP_okm (((PB ys).length : Int) + 1) ys ((PB ys).length + 1) [] hy (by omega) (by simp; omega)
  unfold RNL RNO
  rw [h]
  exact ⟨rfl, rfl⟩
theorem getD_off (a r : List Int) (i : Nat) : (a ++ r).getD (a.length + i) 0 = r.getD i 0 := by
  rw [List.getD_eq_getElem?_getD, List.getD_eq_getElem?_getD, List.getElem?_append_right (by omega)]
  congr 2
  omega
theorem getD_off0 (a r : List Int) : (a ++ r).getD a.length 0 = r.getD 0 0 := getD_off a r 0
theorem carNums_app (a xs r : List Int) : ∀ k, k ≤ xs.length → carNums (a ++ (xs ++ r)) a.length k = xs.take k
  | 0, _ => by simp [carNums]
  | k + 1, h => by
    rw [carNums, carNums_app a xs r k (by omega), getD_off, List.take_succ_eq_append_getElem (by omega), List.getD_eq_getElem?_getD, List.getElem?_append_left (by omega), List.getElem?_eq_getElem (by omega)]
    rfl
theorem opsL_app (a b : List OpL) : opsL (a ++ b) = opsL a ++ opsL b := by unfold opsL; rw [List.map_append, List.flatten_append]
theorem entsL_app (a b : List EL) : entsL (a ++ b) = entsL a ++ entsL b := by unfold entsL; rw [List.map_append, List.flatten_append]
theorem opsL_split (os : List OpL) (k : Nat) (h : k < os.length) : opsL os = opsL (os.take k) ++ (opL os[k] ++ opsL (os.drop (k + 1))) := by
  have e : os = os.take k ++ os[k] :: os.drop (k + 1) := by rw [List.getElem_cons_drop, List.take_append_drop]
  conv => lhs; rw [e]
  rw [opsL_app]
  rfl
theorem carOps_app (a : List Int) (os : List OpL) (r : List Int) : ∀ k, k ≤ os.length → carOps (a ++ (opsL os ++ r)) a.length k = os.take k
  | 0, _ => by simp [carOps]
  | k + 1, h => by
    have hl := opsL_len (os.take k)
    rw [List.length_take, Nat.min_eq_left (by omega)] at hl
    have e : a ++ (opsL os ++ r) = (a ++ opsL (os.take k)) ++ (opL os[k] ++ (opsL (os.drop (k + 1)) ++ r)) := by
      conv => lhs; rw [opsL_split os k (by omega)]
      simp
    have el : a.length + 5 * k = (a ++ opsL (os.take k)).length := by rw [List.length_append, hl]
    rw [carOps, carOps_app a os r k (by omega), List.take_succ_eq_append_getElem (by omega)]
    congr 2
    rw [e, el]
    unfold carOp
    rw [getD_off0, getD_off, getD_off, getD_off, getD_off]
    rfl
theorem entsL_split (es : List EL) (k : Nat) (h : k < es.length) : entsL es = entsL (es.take k) ++ (entL es[k] ++ entsL (es.drop (k + 1))) := by
  have e : es = es.take k ++ es[k] :: es.drop (k + 1) := by rw [List.getElem_cons_drop, List.take_append_drop]
  conv => lhs; rw [e]
  rw [entsL_app]
  rfl
theorem nC_app (c : CL) (r : List Int) (hlo : LoOk c) : (numsC c).length = 10 + 2 * nC (numsC c ++ r) := by
  have h := takeC_back c r hlo
  obtain ⟨h1, h2, h3, h4⟩ := takeC_nums h (show I64 ((numsC c ++ r).getD 2 0) from wrap_I c.lo)
  obtain ⟨s1, s2, s3, s4⟩ := shape_spec h4
  conv => lhs; rw [h2]
  rw [List.length_take]
  omega
theorem carEnts_app (a : List Int) (es : List EL) (hlo : ∀ x ∈ es, LoOk x.c) : ∀ k, k ≤ es.length → carEnts (a ++ entsL es) a.length k = some (es.take k, a.length + (entsL (es.take k)).length)
  | 0, _ => by simp [carEnts, entsL]
  | k + 1, h => by
    have hx := hlo es[k] (List.getElem_mem _)
    have e : a ++ entsL es = (a ++ entsL (es.take k)) ++ (entL es[k] ++ entsL (es.drop (k + 1))) := by
      conv => lhs; rw [entsL_split es k (by omega)]
      simp
    have el : a.length + (entsL (es.take k)).length = (a ++ entsL (es.take k)).length := by rw [List.length_append]
    have e2 : entL es[k] ++ entsL (es.drop (k + 1)) = [es[k].win, es[k].key] ++ (numsC es[k].c ++ entsL (es.drop (k + 1))) := by unfold entL; simp
    have ed : ((a ++ entsL (es.take k)) ++ (entL es[k] ++ entsL (es.drop (k + 1)))).drop ((a ++ entsL (es.take k)).length + 2) = numsC es[k].c ++ entsL (es.drop (k + 1)) := by
      rw [e2, ← List.append_assoc]
      have : (a ++ entsL (es.take k)).length + 2 = ((a ++ entsL (es.take k)) ++ [es[k].win, es[k].key]).length := by rw [List.length_append (bs := [es[k].win, es[k].key])]; rfl
      rw [this, List.drop_left]
    have hn := nC_app es[k].c (entsL (es.drop (k + 1))) hx
    rw [carEnts, carEnts_app a es hlo k (by omega)]
    simp only
    rw [el, e, ed, takeC_back _ _ hx, if_neg (by rw [List.length_append, List.length_append, e2]; simp)]
    simp only
    rw [getD_off0, getD_off, List.take_succ_eq_append_getElem (by omega)]
    have e3 : entsL (es.take k ++ [es[k]]) = entsL (es.take k) ++ entL es[k] := by rw [entsL_app]; show _ ++ (entL es[k] ++ []) = _; rw [List.append_nil]
    have e4 : (entL es[k]).length = 2 + (numsC es[k].c).length := by unfold entL; simp; omega
    rw [e3]
    refine congrArg some (Prod.ext ?_ ?_)
    · rw [e2]
      rfl
    · simp only [List.length_append]
      omega
theorem carN_back {n : NT} (h1 : n.nums.length ≤ 100) (h2 : n.ops.length ≤ 100) (h3 : n.ents.length ≤ 100) (hlo : ∀ x ∈ n.ents, LoOk x.c) : carN (listN n) = some n := by
  have ho := opsL_len n.ops
  have hc : ∀ k : Nat, k ≤ 100 → cntL (k : Int) = k := fun k hk => by unfold cntL; rw [Int.toNat_natCast]; omega
  have eA : listN n = [n.kind, n.fr, n.tw, (n.nums.length : Int)] ++ (n.nums ++ ([(n.ops.length : Int)] ++ opsL n.ops ++ [(n.ents.length : Int)] ++ entsL n.ents)) := by unfold listN; simp
  have eB : listN n = ([n.kind, n.fr, n.tw, (n.nums.length : Int)] ++ n.nums) ++ ((n.ops.length : Int) :: (opsL n.ops ++ [(n.ents.length : Int)] ++ entsL n.ents)) := by unfold listN; simp
  have eC : listN n = (([n.kind, n.fr, n.tw, (n.nums.length : Int)] ++ n.nums) ++ [(n.ops.length : Int)]) ++ (opsL n.ops ++ ([(n.ents.length : Int)] ++ entsL n.ents)) := by unfold listN; simp
  have eD : listN n = ((([n.kind, n.fr, n.tw, (n.nums.length : Int)] ++ n.nums) ++ [(n.ops.length : Int)]) ++ opsL n.ops) ++ ((n.ents.length : Int) :: entsL n.ents) := by unfold listN; simp
  have eE : listN n = (((([n.kind, n.fr, n.tw, (n.nums.length : Int)] ++ n.nums) ++ [(n.ops.length : Int)]) ++ opsL n.ops) ++ [(n.ents.length : Int)]) ++ entsL n.ents := by unfold listN; simp
  have g0 : (listN n).getD 0 0 = n.kind := by rw [eA]; rfl
  have g1 : (listN n).getD 1 0 = n.fr := by rw [eA]; rfl
  have g2 : (listN n).getD 2 0 = n.tw := by rw [eA]; rfl
  have g3 : (listN n).getD 3 0 = (n.nums.length : Int) := by rw [eA]; rfl
  have i1 : carI1 (listN n) = ([n.kind, n.fr, n.tw, (n.nums.length : Int)] ++ n.nums).length := by unfold carI1; rw [g3, hc _ h1, List.length_append]; rfl
  have g4 : (listN n).getD (carI1 (listN n)) 0 = (n.ops.length : Int) := by rw [i1, eB, getD_off0]; rfl
  have i2 : carI2 (listN n) = ((([n.kind, n.fr, n.tw, (n.nums.length : Int)] ++ n.nums) ++ [(n.ops.length : Int)]) ++ opsL n.ops).length := by
    unfold carI2
    rw [g4, hc _ h2, i1, List.length_append (bs := opsL n.ops), List.length_append (bs := [(n.ops.length : Int)]), ho]
    rfl
  have g5 : (listN n).getD (carI2 (listN n)) 0 = (n.ents.length : Int) := by rw [i2, eD, getD_off0]; rfl
  have k1 : carNums (listN n) 4 n.nums.length = n.nums := by
    have := carNums_app [n.kind, n.fr, n.tw, (n.nums.length : Int)] n.nums ([(n.ops.length : Int)] ++ opsL n.ops ++ [(n.ents.length : Int)] ++ entsL n.ents) n.nums.length (Nat.le_refl _)
    rw [← eA, List.take_length] at this
    exact this
  have k2 : carOps (listN n) (carI1 (listN n) + 1) n.ops.length = n.ops := by
    have := carOps_app (([n.kind, n.fr, n.tw, (n.nums.length : Int)] ++ n.nums) ++ [(n.ops.length : Int)]) n.ops ([(n.ents.length : Int)] ++ entsL n.ents) n.ops.length (Nat.le_refl _)
    rw [← eC, List.take_length, List.length_append (bs := [(n.ops.length : Int)]), ← i1] at this
    exact this
  have k3 := carEnts_app (((([n.kind, n.fr, n.tw, (n.nums.length : Int)] ++ n.nums) ++ [(n.ops.length : Int)]) ++ opsL n.ops) ++ [(n.ents.length : Int)]) n.ents hlo n.ents.length (Nat.le_refl _)
  rw [← eE, List.take_length, List.length_append (bs := [(n.ents.length : Int)]), ← i2] at k3
  have k3' : carEnts (listN n) (carI2 (listN n) + 1) n.ents.length = some (n.ents, carI2 (listN n) + [(n.ents.length : Int)].length + (entsL n.ents).length) := k3
  unfold carN
  rw [g0, g1, g2, g3, g4, g5, hc _ h1, hc _ h2, hc _ h3, k1, k2, k3']
theorem entsR_lo : ∀ (k : Nat) (s : RS), ∀ x ∈ (entsR k s).1, LoOk x.c
  | 0, s, x, hx => by cases hx
  | k + 1, s, x, hx => by
    simp only [entsR] at hx
    split at hx
    · exact entsR_lo k s x hx
    · rcases List.mem_append.1 hx with hx | hx
      · exact entsR_lo k s x hx
      · rw [List.mem_singleton.1 hx]
        show LoOk (cellR _).1
        unfold cellR
        cases e : takeC (nextsR 2 (entsR k s).2).xs with
        | none => exact (show LoOk CL.unit from ⟨by decide, by decide⟩)
        | some q => exact takeC_lo e
theorem decN_ok {b : List Int} {n : NT} (hb : Bytes b) (h : decN b = (n, none)) : wholeP b ≠ 0 ∧ (UR b).length = 0 ∧ UN b = PB (listN n) ∧ (∀ x ∈ n.ents, LoOk x.c) := by
  unfold decN at h
  split at h
  · cases h
  · rename_i c1
    split at h
    · cases h
    · rename_i c2
      split at h
      · cases h
      · rename_i c3
        have h3 : NO (UN b) = true := by simpa using c2
        rcases hn : noteR ⟨NL (UN b), false⟩ with ⟨n9, s9⟩
        have hlo : ∀ x ∈ (noteR ⟨NL (UN b), false⟩).1.ents, LoOk x.c := fun x hx => entsR_lo _ _ x hx
        rw [hn] at c3 h hlo
        cases h
        have h4 : s9.bad = false := by
          cases e : s9.bad with
          | false => rfl
          | true => exact absurd (.inl e) c3
        have h5 : s9.xs = [] := by
          rcases Nat.eq_zero_or_pos s9.xs.length with e | e
          · exact List.length_eq_zero_iff.1 e
          · exact absurd (.inr (.inl e)) c3
        obtain ⟨p1, p2⟩ := NL_s (UN_bytes hb) h3
        refine ⟨fun e => c1 (.inl e), ?_, by rw [note_sound p2 hn h4 h5, p1], hlo⟩
        rcases Nat.eq_zero_or_pos (UR b).length with e | e
        · exact e
        · exact absurd (.inr e) c1
theorem whole_le (b : List Int) : wholeP b ≤ b.length := by
  unfold wholeP
  repeat' split
  all_goals omega
theorem UR_len {b : List Int} (h : wholeP b ≠ 0) : (UR b).length = b.length - wholeP b := by
  unfold UR
  rw [if_neg h, List.length_drop]
theorem EN_ok {n : NT} (h : EN n = 0) : goodN n = true ∧ (PB (listN n)).length ≤ 16376 := by
  unfold EN at h
  split at h
  · rename_i hg
    refine ⟨hg, ?_⟩
    unfold PNoteReads.errN at h
    split at h
    · cases h
    · omega
  · cases h
def errI : Option Int → Int
  | none => 0
  | some c => c
theorem rdec_eq {b : List Int} (hb : Bytes b) : rdecN b = ((decN b).1, errI (decN b).2) := by
  have hw := whole_le b
  by_cases c1 : wholeP b = 0 ∨ 0 < (UR b).length
  · have c2 : wholeP b = 0 ∨ wholeP b ≠ b.length := by
      rcases c1 with c1 | c1
      · exact .inl c1
      · by_cases hz : wholeP b = 0
        · exact .inl hz
        · rw [UR_len hz] at c1
          exact .inr (by omega)
    unfold rdecN decN
    rw [if_pos c2, if_pos c1]
    rfl
  · have hz : wholeP b ≠ 0 := fun e => c1 (.inl e)
    have c2 : ¬ (wholeP b = 0 ∨ wholeP b ≠ b.length) := by
      rw [UR_len hz] at c1
      omega
    rcases dec_cases b with hD | hD | ⟨m, hD⟩
    · exfalso
      unfold decN at hD
      rw [if_neg c1] at hD
      split at hD
      · have h9 := congrArg Prod.snd hD
        cases h9
      · split at hD
        · have h9 := congrArg Prod.snd hD
          cases h9
        · have h9 := congrArg Prod.snd hD
          cases h9
    · rw [hD]
      unfold rdecN
      rw [if_neg c2]
      by_cases c3 : RNO (UN b) = false
      · rw [if_pos c3]
        rfl
      · rw [if_neg c3]
        have c3' : RNO (UN b) = true := by simpa using c3
        cases e : carN (RNL (UN b)) with
        | none => rfl
        | some n =>
          simp only
          by_cases c4 : EN n ≠ 0 ∨ EB n ≠ b
          · rw [if_pos c4]
            rfl
          · exfalso
            have e0 : EN n = 0 := Classical.byContradiction fun h => c4 (.inl h)
            have e1 : EB n = b := Classical.byContradiction fun h => c4 (.inr h)
            obtain ⟨q1, q2⟩ := EN_ok e0
            obtain ⟨z1, z2, _⟩ := carN_I (RNL_s (UN_bytes hb) c3') e
            have := dec_enc q1 z1 z2 q2
            rw [e1, hD] at this
            cases this
    · rw [hD]
      obtain ⟨q1, q2⟩ := enc_dec hb hD
      obtain ⟨_, _, q3, q4⟩ := decN_ok hb hD
      have hI := dec_I hb hD
      obtain ⟨s1, s2, s3⟩ := good_sz q1
      obtain ⟨r1, r2⟩ := RNL_ok hI
      have hp := good_bytes q1 hI
      have e0 : EN m = 0 := by
        rw [(en_yes q1).2]
        unfold PNoteReads.errN
        rw [if_neg (by omega)]
      unfold rdecN
      rw [if_neg c2, q3, r1, r2, if_neg (by simp), carN_back (by omega) (by omega) (by omega) q4]
      simp only
      rw [if_neg (by rw [e0, q2]; simp)]
      rfl
end Go.Proofs.Ytbbhdohjhipalaa.Ce
end
section
namespace Go.Proofs.Ytbbhdohjhipalaa.Ce
open Go.RowKit Go.Proofs.YtbbhdohjhipalaaW.PrintWords Go.Proofs.YtbbhdohjhipalaaW.PrintLast Go.Proofs.YtbbhdohjhipalaaW.PrintMore
open Go.Proofs.Ytbbhdohjhipalaa.Flow
set_option linter.unusedVariables false
set_option linter.unusedSimpArgs false
theorem eqA55 (d : Nat) (w : World) (x0 y0 : Int) (x1 y1 : Int) :
    (Op.equalIn (d + 2) 55 (.agg #[.int .i64 x0, .int .i64 x1]) (.agg #[.int .i64 y0, .int .i64 y1])).run Try.prog w = .ok (x0 == y0 && (x1 == y1)) w := by
  refine eqA_of Try.underlying55 (by kernel_rfl) ?_
  refine eqf_cons (by rfl) (by go_simp; rfl) (by go_simp; rfl) (by go_simp) ?_
  exact eqf_last (by rfl) (by go_simp; rfl) (by go_simp; rfl) (by go_simp)
theorem eqA73 (d : Nat) (w : World) (x0 y0 : Int) (x1 y1 : Int) (x2 y2 : Int) (x3 y3 : Int) (x4 y4 : Int) :
    (Op.equalIn (d + 2) 73 (.agg #[.int .i64 x0, .int .i64 x1, .int .i64 x2, .int .i64 x3, .int .i64 x4]) (.agg #[.int .i64 y0, .int .i64 y1, .int .i64 y2, .int .i64 y3, .int .i64 y4])).run Try.prog w = .ok (x0 == y0 && (x1 == y1 && (x2 == y2 && (x3 == y3 && (x4 == y4))))) w := by
  refine eqA_of Try.underlying73 (by kernel_rfl) ?_
  refine eqf_cons (by rfl) (by go_simp; rfl) (by go_simp; rfl) (by go_simp) ?_
  refine eqf_cons (by rfl) (by go_simp; rfl) (by go_simp; rfl) (by go_simp) ?_
  refine eqf_cons (by rfl) (by go_simp; rfl) (by go_simp; rfl) (by go_simp) ?_
  refine eqf_cons (by rfl) (by go_simp; rfl) (by go_simp; rfl) (by go_simp) ?_
  exact eqf_last (by rfl) (by go_simp; rfl) (by go_simp; rfl) (by go_simp)
def eqE (a b : EL) : Bool := (a.win == b.win && a.key == b.key) && eqC a.c b.c
theorem eqE_iff (a b : EL) : eqE a b = true ↔ a = b := by
  unfold eqE
  rw [Bool.and_eq_true, Bool.and_eq_true, beq_iff_eq, beq_iff_eq, eqC_iff]
  constructor
  · rintro ⟨⟨h1, h2⟩, h3⟩
    cases a
    cases b
    simp_all
  · rintro rfl
    exact ⟨⟨rfl, rfl⟩, rfl⟩
theorem eqE_self (a : EL) : eqE a a = true := (eqE_iff a a).2 rfl
theorem ext_place (x : EL) : (earr x).extract 0 (0 + 2) = #[.int .i64 x.win, .int .i64 x.key] := by
  have h : (earr x).extract 0 (0 + 2) = ((encE x).extract 0 (0 + 2)).toArray := by simp [earr]
  rw [h]
  rfl
theorem ext_ecell (x : EL) : (earr x).extract 2 (2 + 74) = carr x.c := by
  have h : (earr x).extract 2 (2 + 74) = ((encE x).extract 2 (2 + 74)).toArray := by simp [earr]
  have h2 : (encE x).extract 2 (2 + 74) = encC x.c := by
    show ((encC x.c).take 74) = encC x.c
    exact List.take_of_length_le (by rw [encC_len]; omega)
  rw [h, h2]
  rfl
set_option maxRecDepth 100000 in
theorem eqE_run (d : Nat) (w : World) (a b : EL) : (Op.equalIn (d + 5) 83 (.agg (earr a)) (.agg (earr b))).run Try.prog w = .ok (eqE a b) w := by
  have iP : (isAgg 55).run Try.prog w = .ok true w := by kernel_rfl
  have sP : (sizeOf 55).run Try.prog w = .ok 2 w := by kernel_rfl
  have iC : (isAgg 81).run Try.prog w = .ok true w := by kernel_rfl
  have sC : (sizeOf 81).run Try.prog w = .ok 74 w := by kernel_rfl
  refine eqA_of Try.underlying83 (by kernel_rfl) ?_
  refine eqf_cons (by rfl) (part_agg iP sP (ext_place a)) (part_agg iP sP (ext_place b)) (eqA55 (d + 2) w _ _ _ _) ?_
  exact eqf_last (by rfl) (part_agg iC sC (ext_ecell a)) (part_agg iC sC (ext_ecell b)) (eqC_run d w a.c b.c)
set_option maxRecDepth 100000 in
theorem run_ne_entry (a b : EL) (w : World) : (binOp .neq 83 (.agg (earr a)) (.agg (earr b))).run Try.prog w = .ok (.bool (!eqE a b)) w := by
  have h : (Op.equalIn Op.maxDepth 83 (.agg (earr a)) (.agg (earr b))).run Try.prog w = .ok (eqE a b) w := eqE_run 9995 w a b
  simp [binOp, Op.equal, h]
theorem guard_ne_entry (x y : Operand) (a b : EL) (w : World) : (do eqGuard .neq 83 x y (.agg (earr a)) (.agg (earr b)); binOp .neq 83 (.agg (earr a)) (.agg (earr b)) : Sem Value).run Try.prog w = .ok (.bool (!eqE a b)) w := by
  have h : Try.prog.eqGuardType Try.prog.depth 83 = false := by kernel_rfl
  have h2 := run_ne_entry a b w
  simp [eqGuard, h, h2]
theorem take_eq_step {α : Type} {xs ys : List α} {z : α} {j : Nat} (h1 : j < xs.length) (h2 : j < ys.length) (h : xs.take j = ys.take j) (e : xs.getD j z = ys.getD j z) : xs.take (j + 1) = ys.take (j + 1) := by
  rw [List.take_succ_eq_append_getElem h1, List.take_succ_eq_append_getElem h2, h]
  rw [List.getD_eq_getElem?_getD, List.getD_eq_getElem?_getD, List.getElem?_eq_getElem h1, List.getElem?_eq_getElem h2] at e
  simp only [Option.getD_some] at e
  rw [e]
theorem take_eq_all {α : Type} {xs ys : List α} {j : Nat} (h1 : xs.length ≤ j) (h2 : ys.length ≤ j) (h : xs.take j = ys.take j) : xs = ys := by
  rwa [List.take_of_length_le h1, List.take_of_length_le h2] at h
theorem getD_ne {α : Type} {xs ys : List α} {z : α} {j : Nat} (h : xs.getD j z ≠ ys.getD j z) : ¬ xs = ys := fun e => h (by rw [e])
theorem no_iff {P : Prop} (h : ¬ P) : (false = true ↔ P) := ⟨fun e => absurd e (by decide), fun e => absurd e h⟩
theorem yes_iff {P : Prop} (h : P) : (true = true ↔ P) := ⟨fun _ => h, fun _ => rfl⟩
theorem same_iff (m n : NT) : m = n ↔ (m.kind = n.kind ∧ m.fr = n.fr ∧ m.tw = n.tw) ∧ (m.nums = n.nums ∧ m.ops = n.ops ∧ m.ents = n.ents) := by
  cases m
  cases n
  simp [and_assoc]
end Go.Proofs.Ytbbhdohjhipalaa.Ce
end
