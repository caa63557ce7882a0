/- Parts of the proofs of noteReads_holds: FrPlain6, NrPut, FrWhole, FlowP, FrPlain3, NrUnw, FrTake, FrPlain7, FrRef3, FrPlain8, NrRUnw, FrTake2. -/
import Derived.Test.YtbbhdohjhipalaaQD2
section
namespace Go.Proofs.Ytbbhdohjhipalaa.PNoteReads
open Go.RowKit Go.Proofs.YtbbhdohjhipalaaW.PrintWords Go.Proofs.YtbbhdohjhipalaaW.PrintLast Go.Proofs.YtbbhdohjhipalaaW.PrintMore
open Go.Proofs.Ytbbhdohjhipalaa.Flow
set_option linter.unusedVariables false
set_option linter.unusedSimpArgs false
def OwnSpec (base b : Nat) (xs : List Int) : Flow.Spec where
  s := fun v w => ∃ A n c, v = .slice A n c ∧ Own .u8 5 w base b A n c xs
  pl := fun v => ∃ A n c, v = .slice A n c
  stab := fun v w w' hb ⟨A, n, c, h1, h2⟩ => ⟨A, n, c, h1, h2.on hb⟩
  imp := fun v w ⟨A, n, c, h1, _⟩ => ⟨A, n, c, h1⟩
  inh := ⟨.slice none 0 0, none, 0, 0, rfl⟩
theorem ownspec_fact {base b : Nat} {xs : List Int} {A : Option Addr} {n c : Nat} {w : World} (h : (OwnSpec base b xs).s (.slice A n c) w) : Own .u8 5 w base b A n c xs := by
  obtain ⟨A', n', c', he, h2⟩ := h
  injection he with h3 h4 h5
  subst h3 h4 h5
  exact h2
theorem shift_low (u : Nat) : ∀ n i, i + n ≤ 7 → lowl (u : Int) n (i + 1) = lowl ((u / 256 : Nat) : Int) n i
  | 0, i, h => rfl
  | n + 1, i, h => by
    rw [lowl, lowl, shr_nat u (i + 1) (by omega), shr_nat (u / 256) i (by omega), shift_low u n (i + 1) (by omega)]
    have e : u / 2 ^ (8 * (i + 1)) = u / 256 / 2 ^ (8 * i) := by rw [Nat.div_div_eq_div_mul, show 8 * (i + 1) = 8 + 8 * i by omega, Nat.pow_add]
    rw [e]
def dg (u : Nat) : List Int := lowl (u : Int) (szN u) 0
theorem dg_len (u : Nat) : (dg u).length = szN u := lowl_len _ _ _
theorem szN_step (u : Nat) (h0 : 0 < u) (hu : u < 18446744073709551616) : szN u = szN (u / 256) + 1 := by
  have hb : blen (u / 256) ≤ 56 := blen_le _ 56 (by omega)
  have hz : szN (u / 256) ≤ 7 := by unfold szN; omega
  refine szN_of (by omega) ?_ (fun _ => ?_)
  · have h1 := blen_lt (u / 256)
    have h2 : 2 ^ blen (u / 256) ≤ 2 ^ (8 * szN (u / 256)) := Nat.pow_le_pow_right (by omega) (by unfold szN; omega)
    have h3 : 2 ^ (8 * (szN (u / 256) + 1)) = 2 ^ (8 * szN (u / 256)) * 256 := by rw [show 8 * (szN (u / 256) + 1) = 8 * szN (u / 256) + 8 by omega, Nat.pow_add]
    omega
  · rw [show szN (u / 256) + 1 - 1 = szN (u / 256) by omega]
    rcases Nat.eq_zero_or_pos (szN (u / 256)) with h1 | h1
    · rw [h1]
      simp
      omega
    · have hne : u / 256 ≠ 0 := fun h2 => by rw [h2] at h1; simp [szN, blen] at h1
      have h2 := blen_ge (u / 256) hne
      have h3 : 2 ^ (8 * szN (u / 256) - 8) ≤ 2 ^ (blen (u / 256) - 1) := Nat.pow_le_pow_right (by omega) (by unfold szN at h1 ⊢; omega)
      have h4 : 2 ^ (8 * szN (u / 256)) = 2 ^ (8 * szN (u / 256) - 8) * 256 := by
        rw [← Nat.pow_add 2 _ 8]
        congr 1
        omega
      omega
theorem dg_step (u : Nat) (h0 : 0 < u) (hu : u < 18446744073709551616) : dg u = ((u % 256 : Nat) : Int) :: dg (u / 256) := by
  have hb : blen (u / 256) ≤ 56 := blen_le _ 56 (by omega)
  unfold dg
  rw [szN_step u h0 hu, lowl, shr_nat u 0 (by omega), shift_low u _ 0 (by unfold szN; omega)]
  simp
theorem number_l0 : ∀ (m K u : Nat) (x : List Int), szN u = m → m + 1 ≤ K → u < 18446744073709551616 → x.length + m ≤ 100 → estuaryref04_Number.l0 K (u : Int) x = some ((((x ++ dg u).length : Nat) : Int) :: (x ++ dg u))
  | 0, K, u, x, hm, hK, hu, hx => by
    obtain ⟨k, rfl⟩ : ∃ k, K = k + 1 := ⟨K - 1, by omega⟩
    have h0 : u = 0 := by
      rcases Nat.eq_zero_or_pos u with h | h
      · exact h
      · have := szN_step u h hu
        omega
    subst h0
    have hd : dg 0 = [] := rfl
    rw [estuaryref04_Number.l0, if_neg (by decide), hd, List.append_nil, Option.bind_some, if_pos (by simp; omega)]
    rw [show ((x.length : Nat) : Int) % 256 = ((x.length : Nat) : Int) by omega]
    rfl
  | m + 1, K, u, x, hm, hK, hu, hx => by
    obtain ⟨k, rfl⟩ : ∃ k, K = k + 1 := ⟨K - 1, by omega⟩
    have h0 : 0 < u := by
      rcases Nat.eq_zero_or_pos u with h | h
      · subst h
        simp [szN, blen] at hm
      · exact h
    have hs := szN_step u h0 hu
    have e1 : IntKind.u64.wrap (Int.tdiv (u : Int) 256) = ((u / 256 : Nat) : Int) := by
      rw [Int.tdiv_eq_ediv_of_nonneg (by omega), u64_wrap]
      omega
    have e2 : Int.tmod (u : Int) 256 % 256 = ((u % 256 : Nat) : Int) := by
      rw [Int.tmod_eq_emod_of_nonneg (by omega)]
      omega
    rw [estuaryref04_Number.l0, if_pos (by omega), if_pos (by omega), e1, e2, number_l0 m k (u / 256) _ (by omega) (by omega) (by omega) (by simp only [List.length_append, List.length_singleton]; omega), dg_step u h0 hu]
    simp only [List.append_assoc, List.singleton_append]
theorem number_f (n : Int) (hn : I64 n) (K : Nat) (hK : 12 ≤ K) : estuaryref04_Number.f K n = some (numB n) := by
  obtain ⟨k, rfl⟩ : ∃ k, K = k + 1 := ⟨K - 1, by omega⟩
  have h1 := hn.1
  have h2 := hn.2
  have ht := tn_lt hn
  have hs := szN_le ht
  have key : estuaryref04_Number.j0 (k + 1) ((tn n : Nat) : Int) = some (numB n) := by
    rw [estuaryref04_Number.j0, number_l0 _ k (tn n) [] rfl (by omega) ht (by simp; omega)]
    rw [List.nil_append, dg_len]
    rfl
  unfold estuaryref04_Number.f
  by_cases h0 : n < 0
  · rw [if_pos h0]
    have e : IntKind.u64.wrap ((IntKind.u64.wrap ((IntKind.u64.wrap (wrap64 (-(wrap64 (n + 1))))) * 2)) + 1) = ((tn n : Nat) : Int) := by
      rw [wrap_id (x := n + 1) (by omega) (by omega), wrap_id (x := -(n + 1)) (by omega) (by omega), u64_wrap, u64_wrap, u64_wrap]
      unfold tn
      rw [if_neg (by omega)]
      omega
    rw [e]
    exact key
  · rw [if_neg h0]
    have e : IntKind.u64.wrap (IntKind.u64.wrap n * 2) = ((tn n : Nat) : Int) := by
      rw [u64_wrap, u64_wrap]
      unfold tn
      rw [if_pos (by omega)]
      omega
    rw [e]
    exact key
theorem refput_l0 (ys : List Int) (hy : ∀ y ∈ ys, I64 y) (hl : ys.length ≤ 1000000) : ∀ (m K i : Nat) (x : List Int), m + 14 ≤ K → i + m = ys.length → x.length + 9 * m ≤ 100000000 → estuaryref04_Put.l0 K ys x (i : Int) = some (x ++ PB (ys.drop i)) := by
  intro m
  induction m with
  | zero =>
    intro K i x hK hi hx
    obtain ⟨k, rfl⟩ : ∃ k, K = k + 1 := ⟨K - 1, by omega⟩
    rw [estuaryref04_Put.l0, if_neg (by omega), List.drop_of_length_le (by omega)]
    simp [PB]
  | succ m ih =>
    intro K i x hK hi hx
    obtain ⟨k, rfl⟩ : ∃ k, K = k + 1 := ⟨K - 1, by omega⟩
    have hlt : i < ys.length := by omega
    have hr := hy ys[i] (List.getElem_mem hlt)
    have hn := numB_len ys[i]
    have hs := szN_le (tn_lt hr)
    have e2 : wrap64 ((i : Int) + 1) = ((i + 1 : Nat) : Int) := wrap_id (by omega) (by omega)
    rw [estuaryref04_Put.l0, if_pos (by omega), if_pos (by omega), rd_at ys i hlt, number_f _ hr k (by omega), Option.bind_some, if_pos (by omega), e2, ih k (i + 1) _ (by omega) (by omega) (by rw [List.length_append]; omega)]
    rw [List.drop_eq_getElem_cons hlt]
    simp only [PB, List.map_cons, List.flatten_cons, List.append_assoc]
theorem refput_f (out ys : List Int) (hy : ∀ y ∈ ys, I64 y) (hl : ys.length ≤ 1000000) (ho : out.length ≤ 1000000) : estuaryref04_Put.f (ys.length + 14) out ys = some (out ++ PB ys) := by
  unfold estuaryref04_Put.f
  rw [Option.bind_some, if_pos (by simp; omega)]
  have h := refput_l0 ys hy hl ys.length (ys.length + 14) 0 out (by omega) (by omega) (by omega)
  simpa using h
theorem put_f2 (out ys : List Int) (hy : ∀ y ∈ ys, I64 y) (hl : ys.length ≤ 1000000) (ho : out.length ≤ 1000000) : frame_put.f (ys.length + 12) out ys = some (out ++ PB ys) := by
  unfold frame_put.f
  have h := put_l0 ys hy (by omega) ys.length (ys.length + 12) 0 out (by omega) (by omega) (by omega)
  simpa using h
end Go.Proofs.Ytbbhdohjhipalaa.PNoteReads
end
section
namespace Go.Proofs.Ytbbhdohjhipalaa.PNoteReads
open Go.RowKit Go.Proofs.YtbbhdohjhipalaaW.PrintWords Go.Proofs.YtbbhdohjhipalaaW.PrintLast Go.Proofs.YtbbhdohjhipalaaW.PrintMore
open Go.Proofs.Ytbbhdohjhipalaa.Flow
set_option linter.unusedVariables false
set_option linter.unusedSimpArgs false
set_option maxHeartbeats 4000000 in
theorem put_calls (w : World) (K : Nat) (A : Option Addr) (n c : Nat) (xs : List Int) (hC : (Kd.int .u8).C w A n xs) (hl : n ≤ 140737488355328) (DA : Option Addr) (dc : Nat) (ys r : List Int) (hC1 : (Kd.int .i64).C w DA ys.length ys) (hc1 : ys.length ≤ dc) (hf : frame_put.f K xs ys = some r) :
  Calls Try.prog 28 #[.slice A n c, .slice DA ys.length dc] w fun e w' => ∃ A' n' c', e = .returned (.slice A' n' c') ∧ Own .u8 5 w' w.heap.size w.heap.size A' n' c' r ∧ Below w.heap.size w w' := by
 refine calls_flow Try.func28 rfl 9 rfl (Nat.le_of_ble_eq_true rfl) [(0, .slice A n c), (1, .slice DA ys.length dc)] ?_ ?_
 ·
  intro t v h; exact args_look rfl t v h
 refine wsr ?_
 refine rv (.slice none 0 0) ?_
 refine rw_end ?_
 refine wsr ?_
 refine rv (.slice A n c) ?_
 refine rw_call rfl rfl rfl rfl (f := 49) (args := #[.slice A n c]) (by simp [go_sem, sEv, sLook, nbeq, i64_w]) (clone_calls w A n c xs (Kd.C_below hC (Below.refl _ _)) (by omega)) ?_
 rintro e_ w4 ⟨A1, n2, c3, rfl, hO5, hB6⟩
 refine ⟨_, rfl, ?_⟩
 have hs_w4 := hB6.size
 have hL7 : Own .u8 5 w4 w.heap.size w.heap.size A1 n2 c3 xs := Own.lower hO5 (by omega)
 refine rv (.slice DA ys.length dc) ?_
 refine rw_call rfl rfl rfl rfl (f := 48) (args := #[.slice A1 n2 c3, .slice DA ys.length dc]) (by simp [go_sem, sEv, sLook, nbeq, i64_w]) (frame_put.calls K (fun q => w.heap.size ≤ q) _ xs DA dc ys r w w4 hB6 (Own.mono (hL7.on (Below.refl _ _)) (by omega)) (Kd.C_kept_came (Kd.heap_int _) hC1 hB6 (fun k hk => hk)) hc1 hf) ?_
 rintro e_ w10 ⟨_, rfl, hR11, hB12, hK13⟩
 refine ⟨_, rfl, ?_⟩
 have hs_w10 := hB12.size
 have hgs_w10 := hK13.1
 obtain ⟨A8, c9, rfl, hle15, hR16⟩ := R_shape hR11
 have hO14 : Own .u8 5 w10 w.heap.size w.heap.size A8 r.length c9 r := Kd.R_mono hR16 (fun q hq => hq.elim id (fun h => by omega))
 refine rv (.slice A8 r.length c9) ?_
 refine rw_end ?_
 refine w_ret (post_ret1 rfl rfl ?_)
 exact ⟨_, _, _, rfl, (hO14.on (Below.refl _ _)), hB12⟩
theorem put_behind (w : World) (A : Option Addr) (n c : Nat) (l0 : List Int) (hC : (Kd.int .u8).C w A n l0) (hl0 : l0.length ≤ 1000000) (hn : n = l0.length) (DA : Option Addr) (dc : Nat) (ys : List Int) (hC1 : (Kd.int .i64).C w DA ys.length ys) (hc1 : ys.length ≤ dc) (hy : ∀ y ∈ ys, I64 y) (hl : ys.length ≤ 1000000) : Calls Try.prog 28 #[.slice A n c, .slice DA ys.length dc] w fun e w' => ∃ A' n' c', e = .returned (.slice A' n' c') ∧ Own .u8 5 w' w.heap.size w.heap.size A' n' c' (l0 ++ PB ys) ∧ Below w.heap.size w w' :=
  put_calls w (ys.length + 12) A n c l0 hC (by omega) DA dc ys (l0 ++ PB ys) hC1 hc1 (put_f2 l0 ys hy hl hl0)
theorem refput_calls (w : World) (A0 : Option Addr) (c0 : Nat) (l0 : List Int) (A1 : Option Addr) (c1 : Nat) (ys : List Int) (h0 : (Kd.int .u8).C w A0 l0.length l0) (hc0 : l0.length ≤ c0) (h1 : (Kd.int .i64).C w A1 ys.length ys) (hc1 : ys.length ≤ c1) (hy : ∀ y ∈ ys, I64 y) (hl : ys.length ≤ 1000000) (hl0 : l0.length ≤ 1000000) : Calls Try.prog 31 #[.slice A0 l0.length c0, .slice A1 ys.length c1] w fun e w' => ∃ A' n' c', e = .returned (.slice A' n' c') ∧ Own .u8 5 w' w.heap.size w.heap.size A' n' c' (l0 ++ PB ys) ∧ Below w.heap.size w w' := by
  refine (estuaryref04_Put.calls (ys.length + 14) A0 c0 l0 A1 c1 ys _ w h0 hc0 h1 hc1 (refput_f l0 ys hy hl hl0)).mono ?_
  rintro e w' ⟨v0, rfl, hR, hB⟩
  obtain ⟨A', c', rfl, hle, hR2⟩ := R_shape hR
  exact ⟨A', _, c', rfl, Own.born hR2 (Nat.le_refl _), hB⟩
end Go.Proofs.Ytbbhdohjhipalaa.PNoteReads
end
section
namespace Go.Proofs.Ytbbhdohjhipalaa.PNoteReads
open Go.RowKit Go.Proofs.YtbbhdohjhipalaaW.PrintWords Go.Proofs.YtbbhdohjhipalaaW.PrintLast Go.Proofs.YtbbhdohjhipalaaW.PrintMore
open Go.Proofs.Ytbbhdohjhipalaa.Flow
set_option linter.unusedVariables false
set_option linter.unusedSimpArgs false
theorem high_calls (w : World) (A0 : Option Addr) (c0 : Nat) (l : List Int) (hr : (Kd.int .u8).C w A0 l.length l) (hc : l.length ≤ c0) (hb : Bytes l) (hl : l.length ≤ 8) : Calls Try.prog 64 #[.slice A0 l.length c0] w fun e w' => e = .returned (.int .u64 ((valN l : Nat) : Int)) ∧ Drawn0 w w' :=
  frame_high.calls 9 A0 c0 l _ w hr hc (high_f l hb hl 9 (by omega))
set_option maxHeartbeats 4000000 in
theorem whole_calls (w : World) (A0 : Option Addr) (c0 : Nat) (b : List Int) (hC : (Kd.int .u8).C w A0 b.length b) (hc : b.length ≤ c0) (hb : Bytes b) (hl : b.length ≤ 140737488355328) :
  Calls Try.prog 56 #[.slice A0 b.length c0] w fun e w' => e = .returned (.int .i64 ((wholeP b : Nat) : Int)) ∧ Below w.heap.size w w' := by
 refine calls_flow Try.func56 rfl 35 rfl (Nat.le_of_ble_eq_true rfl) [(0, .slice A0 b.length c0)] ?_ ?_
 ·
  intro t v h; exact args_look rfl t v h
 refine wsr ?_
 refine rv (.int .i64 0) ?_
 refine rw_end ?_
 refine w_seq ?_
 refine wsr ?_
 refine rv (.slice A0 b.length c0) ?_
 refine rs2 (.int .i64 (b.length : Int)) ?_
 refine rs2 (.bool (decide ((b.length : Int) < 8))) ?_
 refine rw_end ?_
 refine w_cond rfl rfl (fun c8 => ?_) (fun c8 => ?_)
 ·
  refine wsr ?_
  refine rv (.int .i64 0) ?_
  refine rw_end ?_
  refine w_ret (post_ret1 rfl rfl ?_)
  have e_ : wholeP b = 0 := by
   unfold wholeP
   have c8_ := of_decide_eq_true c8
   rw [if_pos (by omega)]
  exact ⟨by rw [e_]; rfl, (Below.refl _ _)⟩
 ·
  refine w_skip ?_
  refine wsr ?_
  refine rv (.slice A0 b.length c0) ?_
  have c8_ := of_decide_eq_false c8
  have l4_ : (b.take 4).length = 4 := by rw [List.length_take]; omega
  have n4_ : valN (b.take 4) < 4294967296 := by have h_ := valN_lt (b.take 4) (hb.take 4); rw [l4_] at h_; exact h_
  have hP1 := (to_C hC 4 (by omega))
  have hc2 : (b.take 4).length ≤ c0 := by have q_ := hc; have q2_ : b.length = b.length := rfl; simp only [List.length_take, List.length_drop]; omega
  refine rz (.slice A0 ((b.take 4).length) c0) (run_as (run_to (e := 5) (by kernel_rfl) (fun _ => by kernel_rfl) 4 _ (by first | rfl | (simp; done) | omega) rfl (by omega) hc _)) ?_
  refine rw_call rfl rfl rfl rfl (f := 64) (args := #[.slice A0 ((b.take 4).length) c0]) (by simp [go_sem, sEv, sLook, nbeq, i64_w, -List.length_flatten]) (high_calls w _ _ (b.take 4) (Kd.C_below hP1 (Below.refl _ _)) hc2 (hb.take _) (by simp only [List.length_take, List.length_drop]; omega)) ?_
  rintro e_ w3 ⟨rfl, hb4_⟩
  refine ⟨_, rfl, ?_⟩
  have hb4 := hb4_.below
  have hs_w3 := hb4.size
  refine rz (.int .i64 ((valN (b.take 4) : Nat) : Int)) (by simp [go_sem, sEv, sLook, nbeq, i64_w, -List.length_flatten]; exact wrap_id (by omega) (by omega)) ?_
  refine rv (.int .i64 ((valN (b.take 4) : Nat) : Int)) ?_
  refine rw_end ?_
  refine w_seq ?_
  refine w_seq ?_
  rcases bcase (decide (16376 < ((valN (b.take 4) : Nat) : Int))) with cM | cM
  ·
   rcases bcase (decide (((b.length : Int) - 8) < ((valN (b.take 4) : Nat) : Int))) with cL | cL
   ·
    refine w_draw (M := [0, 1, 3, 7, 7, 23, 55, 127, 255, 511, 1023, 1023, 3071, 8191, 16383, 32767, 65535, 1023, 132095, 458751, 1048575, 2097151]) (ss := [Is (.int .i64 ((valN (b.take 4) : Nat) : Int)), Is (.bool (decide (16376 < ((valN (b.take 4) : Nat) : Int)))), Is (.bool (decide (16376 < ((valN (b.take 4) : Nat) : Int)))), Is (.int .i64 ((valN (b.take 4) : Nat) : Int)), Is (.slice A0 b.length c0), Is (.int .i64 (b.length : Int)), Is (.int .i64 ((b.length : Int) - 8)), Is (.bool (decide (((b.length : Int) - 8) < ((valN (b.take 4) : Nat) : Int)))), Is (.bool (decide (((b.length : Int) - 8) < ((valN (b.take 4) : Nat) : Int)))), Is (.bool (decide (((b.length : Int) - 8) < ((valN (b.take 4) : Nat) : Int)))), Is (.slice A0 b.length c0), Is (.int .i64 ((valN (b.take 4) : Nat) : Int)), Is (.int .i64 ((8 + valN (b.take 4) : Nat) : Int)), Is (.slice (adr A0 c0 8) (((b.take (8 + valN (b.take 4))).drop 8).length) (c0 - 8)), SlcSpec w3.heap.size 30 #[.slice (adr A0 c0 8) (((b.take (8 + valN (b.take 4))).drop 8).length) (c0 - 8)] 1, (Is (.int .u32 (fnv 2166136261 ([((b.take (8 + valN (b.take 4))).drop 8)]).flatten))), Is (.int .u64 (fnv 2166136261 ((b.take (8 + valN (b.take 4))).drop 8))), Is (.slice A0 b.length c0), Is (.slice (adr A0 c0 4) (((b.take 8).drop 4).length) (c0 - 4)), (Is (.int .u64 ((valN ((b.take 8).drop 4) : Nat) : Int))), Is (.bool ((fnv 2166136261 ((b.take (8 + valN (b.take 4))).drop 8)) != ((valN ((b.take 8).drop 4) : Nat) : Int))), Is (.bool ((fnv 2166136261 ((b.take (8 + valN (b.take 4))).drop 8)) != ((valN ((b.take 8).drop 4) : Nat) : Int)))]) rfl (by decide +kernel) ?_
    refine tr (.int .i64 ((valN (b.take 4) : Nat) : Int)) ?_
    refine t_is (.bool (decide (16376 < ((valN (b.take 4) : Nat) : Int)))) rfl rfl rfl rfl (fun W_ hW_ F_ => by simp [go_sem, sEv, sLook, nbeq, i64_w, -List.length_flatten]) ?_
    refine tr (.bool (decide (16376 < ((valN (b.take 4) : Nat) : Int)))) ?_
    refine t_gis (c := decide (16376 < ((valN (b.take 4) : Nat) : Int))) (.int .i64 ((valN (b.take 4) : Nat) : Int)) rfl rfl rfl (by first | (rw [cM]; rfl) | simp [cM]) rfl rfl rfl (fun W_ hW_ F_ => rfl) ?_
    refine t_gis (c := decide (16376 < ((valN (b.take 4) : Nat) : Int))) (.slice A0 b.length c0) rfl rfl rfl (by first | (rw [cM]; rfl) | simp [cM]) rfl rfl rfl (fun W_ hW_ F_ => rfl) ?_
    refine t_gis (c := decide (16376 < ((valN (b.take 4) : Nat) : Int))) (.int .i64 (b.length : Int)) rfl rfl rfl (by first | (rw [cM]; rfl) | simp [cM]) rfl rfl rfl (fun W_ hW_ F_ => by simp [go_sem, sEv, sLook, nbeq, i64_w, -List.length_flatten]) ?_
    refine t_gis (c := decide (16376 < ((valN (b.take 4) : Nat) : Int))) (.int .i64 ((b.length : Int) - 8)) rfl rfl rfl (by first | (rw [cM]; rfl) | simp [cM]) rfl rfl rfl (fun W_ hW_ F_ => by simp [go_sem, sEv, sLook, nbeq, i64_w, -List.length_flatten]; exact wrap_id (by omega) (by omega)) ?_
    refine t_gis (c := decide (16376 < ((valN (b.take 4) : Nat) : Int))) (.bool (decide (((b.length : Int) - 8) < ((valN (b.take 4) : Nat) : Int)))) rfl rfl rfl (by first | (rw [cM]; rfl) | simp [cM]) rfl rfl rfl (fun W_ hW_ F_ => by simp [go_sem, sEv, sLook, nbeq, i64_w, -List.length_flatten]) ?_
    refine t_is (.bool (decide (((b.length : Int) - 8) < ((valN (b.take 4) : Nat) : Int)))) rfl rfl rfl rfl (fun W_ hW_ F_ => by first | (simp [go_sem, sEv, sLook, nbeq, i64_w, -List.length_flatten, cM]; done) | (simp [go_sem, sEv, sLook, nbeq, i64_w, -List.length_flatten] <;> omega) | (simp [go_sem, sEv, sLook, nbeq, i64_w, -List.length_flatten]; intro h_; exact absurd (by omega) h_) | (rw [cM]; simp [go_sem, sEv, sLook, nbeq, i64_w, -List.length_flatten]; done)) ?_
    refine tr (.bool (decide (((b.length : Int) - 8) < ((valN (b.take 4) : Nat) : Int)))) ?_
    refine t_gis (c := decide (((b.length : Int) - 8) < ((valN (b.take 4) : Nat) : Int))) (.slice A0 b.length c0) rfl rfl rfl (by first | (rw [cL]; rfl) | simp [cL]) rfl rfl rfl (fun W_ hW_ F_ => rfl) ?_
    refine t_gis (c := decide (((b.length : Int) - 8) < ((valN (b.take 4) : Nat) : Int))) (.int .i64 ((valN (b.take 4) : Nat) : Int)) rfl rfl rfl (by first | (rw [cL]; rfl) | simp [cL]) rfl rfl rfl (fun W_ hW_ F_ => rfl) ?_
    refine t_gis (c := decide (((b.length : Int) - 8) < ((valN (b.take 4) : Nat) : Int))) (.int .i64 ((8 + valN (b.take 4) : Nat) : Int)) rfl rfl rfl (by first | (rw [cL]; rfl) | simp [cL]) rfl rfl rfl (fun W_ hW_ F_ => by simp [go_sem, sEv, sLook, nbeq, i64_w, -List.length_flatten]; exact wrap_id (by omega) (by omega)) ?_
    have cL_ := of_decide_eq_false cL
    have cM_ := of_decide_eq_false cM
    have hP5 := (mid_C hC 8 (8 + valN (b.take 4)) (by omega) (by omega) (show b.length ≤ c0 by have q_ := hc; have q2_ : b.length = b.length := rfl; omega))
    have hc6 : ((b.take (8 + valN (b.take 4))).drop 8).length ≤ (c0 - 8) := by have q_ := hc; have q2_ : b.length = b.length := rfl; simp only [List.length_take, List.length_drop]; omega
    refine t_gis (c := decide (((b.length : Int) - 8) < ((valN (b.take 4) : Nat) : Int))) (.slice (adr A0 c0 8) (((b.take (8 + valN (b.take 4))).drop 8).length) (c0 - 8)) rfl rfl rfl (by first | (rw [cL]; rfl) | simp [cL]) rfl rfl rfl (fun W_ hW_ F_ => (run_as (run_mid (e := 5) (by kernel_rfl) (fun _ => by kernel_rfl) 8 (8 + valN (b.take 4)) _ _ (by first | rfl | (simp; done) | omega) (by first | rfl | (simp; done) | omega) rfl (by omega) (by omega) hc _))) ?_
    refine t_gval (c := decide (((b.length : Int) - 8) < ((valN (b.take 4) : Nat) : Int))) (SlcSpec w3.heap.size 30 #[.slice (adr A0 c0 8) (((b.take (8 + valN (b.take 4))).drop 8).length) (c0 - 8)] 1) rfl rfl rfl (by first | (rw [cL]; rfl) | simp [cL]) rfl rfl rfl (fun W_ hW_ F_ => slc_gives _ _ _ _ (below_of_drew hW_).size (by kernel_rfl)) ?_
    rintro _ ⟨g7, rfl⟩
    refine t_gcall (c := decide (((b.length : Int) - 8) < ((valN (b.take 4) : Nat) : Int))) (f := 47) (args := #[.slice (some ⟨g7, 0, none⟩) 1 1]) (Is (.int .u32 (fnv 2166136261 ([((b.take (8 + valN (b.take 4))).drop 8)]).flatten))) rfl rfl rfl (by first | (rw [cL]; rfl) | simp [cL]) rfl rfl rfl (fun W_ => by simp [go_sem, sEv, sLook, nbeq, i64_w, -List.length_flatten]) (fun W_ hW_ F_ => ?_) ?_
    ·
     refine (frame_Sum.calls (2 * [((b.take (8 + valN (b.take 4))).drop 8)].length + 1 + [((b.take (8 + valN (b.take 4))).drop 8)].flatten.length) _ 1 [((b.take (8 + valN (b.take 4))).drop 8)] _ W_ (rows1 (e := 5) (slc_fact (F_ 14 _ _ rfl rfl)).2 hc6 (Kd.C_below hP5 (chain hb4 (below_of_drew hW_)))) (by simp) (sum_f _ (by simp) (by simp only [List.mem_cons, List.not_mem_nil, or_false, forall_eq, List.length_take, List.length_drop]; omega) _ (Nat.le_refl _))).mono ?_
     rintro e_ w_ ⟨rfl, hd_⟩
     exact ⟨_, rfl, rfl, hd_.below⟩
    rintro _ rfl
    refine t_gis (c := decide (((b.length : Int) - 8) < ((valN (b.take 4) : Nat) : Int))) (.int .u64 (fnv 2166136261 ((b.take (8 + valN (b.take 4))).drop 8))) rfl rfl rfl (by first | (rw [cL]; rfl) | simp [cL]) rfl rfl rfl (fun W_ hW_ F_ => by simp [go_sem, sEv, sLook, nbeq, i64_w, -List.length_flatten]; have hf_ := fnv_range ((b.take (8 + valN (b.take 4))).drop 8) 2166136261 (by omega); rw [u64_wrap]; omega) ?_
    refine t_gis (c := decide (((b.length : Int) - 8) < ((valN (b.take 4) : Nat) : Int))) (.slice A0 b.length c0) rfl rfl rfl (by first | (rw [cL]; rfl) | simp [cL]) rfl rfl rfl (fun W_ hW_ F_ => rfl) ?_
    have hP10 := (mid_C hC 4 8 (by omega) (by omega) (show b.length ≤ c0 by have q_ := hc; have q2_ : b.length = b.length := rfl; omega))
    have hc11 : ((b.take 8).drop 4).length ≤ (c0 - 4) := by have q_ := hc; have q2_ : b.length = b.length := rfl; simp only [List.length_take, List.length_drop]; omega
    refine t_gis (c := decide (((b.length : Int) - 8) < ((valN (b.take 4) : Nat) : Int))) (.slice (adr A0 c0 4) (((b.take 8).drop 4).length) (c0 - 4)) rfl rfl rfl (by first | (rw [cL]; rfl) | simp [cL]) rfl rfl rfl (fun W_ hW_ F_ => (run_as (run_mid (e := 5) (by kernel_rfl) (fun _ => by kernel_rfl) 4 8 _ _ (by first | rfl | (simp; done) | omega) (by first | rfl | (simp; done) | omega) rfl (by omega) (by omega) hc _))) ?_
    refine t_gcall (c := decide (((b.length : Int) - 8) < ((valN (b.take 4) : Nat) : Int))) (f := 64) (args := #[.slice (adr A0 c0 4) (((b.take 8).drop 4).length) (c0 - 4)]) (Is (.int .u64 ((valN ((b.take 8).drop 4) : Nat) : Int))) rfl rfl rfl (by first | (rw [cL]; rfl) | simp [cL]) rfl rfl rfl (fun W_ => by simp [go_sem, sEv, sLook, nbeq, i64_w, -List.length_flatten]) (fun W_ hW_ F_ => ?_) ?_
    ·
     refine (high_calls W_ _ _ ((b.take 8).drop 4) (Kd.C_below hP10 (chain hb4 (below_of_drew hW_))) hc11 ((hb.take _).drop _) (by simp only [List.length_take, List.length_drop]; omega)).mono ?_
     rintro e_ w_ ⟨rfl, hd_⟩
     exact ⟨_, rfl, rfl, hd_.below⟩
    rintro _ rfl
    refine t_gis (c := decide (((b.length : Int) - 8) < ((valN (b.take 4) : Nat) : Int))) (.bool ((fnv 2166136261 ((b.take (8 + valN (b.take 4))).drop 8)) != ((valN ((b.take 8).drop 4) : Nat) : Int))) rfl rfl rfl (by first | (rw [cL]; rfl) | simp [cL]) rfl rfl rfl (fun W_ hW_ F_ => by simp [go_sem, sEv, sLook, nbeq, i64_w, -List.length_flatten]) ?_
    refine t_is (.bool ((fnv 2166136261 ((b.take (8 + valN (b.take 4))).drop 8)) != ((valN ((b.take 8).drop 4) : Nat) : Int))) rfl rfl rfl rfl (fun W_ hW_ F_ => by first | (simp [go_sem, sEv, sLook, nbeq, i64_w, -List.length_flatten, cL]; done) | (simp [go_sem, sEv, sLook, nbeq, i64_w, -List.length_flatten] <;> omega) | (simp [go_sem, sEv, sLook, nbeq, i64_w, -List.length_flatten]; intro h_; exact absurd (by omega) h_) | (rw [cL]; simp [go_sem, sEv, sLook, nbeq, i64_w, -List.length_flatten]; done)) ?_
    refine t_end ?_
    intro w12 hb13_ F14
    have hb13 := below_of_drew hb13_
    have hs_w12 := hb13.size
    refine w_cond rfl rfl (fun cS => ?_) (fun cS => ?_)
    ·
     refine wsr ?_
     refine rv (.int .i64 0) ?_
     refine rw_end ?_
     refine w_ret (post_ret1 rfl rfl ?_)
     have e_ : wholeP b = 0 := by
      unfold wholeP
      have c8_ := of_decide_eq_false c8
      rw [if_neg (by omega)]
      have cM_ := of_decide_eq_false cM
      rw [if_neg (by omega)]
      have cL_ := of_decide_eq_false cL
      rw [if_neg (by omega)]
      have eX_ : ((b.take (8 + valN (b.take 4))).drop 8) = (b.drop 8).take (valN (b.take 4)) := (by rw [List.drop_take]; congr 1; omega)
      rw [eX_] at cS
      rw [if_neg (by simpa using cS)]
     exact ⟨by rw [e_]; rfl, (chain hb4 hb13)⟩
    ·
     refine w_skip ?_
     refine wsr ?_
     refine rv (.int .i64 ((valN (b.take 4) : Nat) : Int)) ?_
     refine rz (.int .i64 ((8 + valN (b.take 4) : Nat) : Int)) (by simp [go_sem, sEv, sLook, nbeq, i64_w, -List.length_flatten]; exact wrap_id (by omega) (by omega)) ?_
     refine rv (.int .i64 ((8 + valN (b.take 4) : Nat) : Int)) ?_
     refine rw_end ?_
     refine w_ret (post_ret1 rfl rfl ?_)
     have e_ : wholeP b = 8 + valN (b.take 4) := by
      unfold wholeP
      have c8_ := of_decide_eq_false c8
      rw [if_neg (by omega)]
      have cM_ := of_decide_eq_false cM
      rw [if_neg (by omega)]
      have cL_ := of_decide_eq_false cL
      rw [if_neg (by omega)]
      have eX_ : ((b.take (8 + valN (b.take 4))).drop 8) = (b.drop 8).take (valN (b.take 4)) := (by rw [List.drop_take]; congr 1; omega)
      rw [eX_] at cS
      rw [if_pos (by simpa using cS)]
     exact ⟨by rw [e_], (chain hb4 hb13)⟩
   ·
    refine w_draw (M := [0, 1, 3, 7, 7, 23, 55, 127, 255, 511, 1023, 1023, 3071, 8191, 16383, 32767, 65535, 1023, 132095, 458751, 1048575, 2097151]) (ss := [Is (.int .i64 ((valN (b.take 4) : Nat) : Int)), Is (.bool (decide (16376 < ((valN (b.take 4) : Nat) : Int)))), Is (.bool (decide (16376 < ((valN (b.take 4) : Nat) : Int)))), Is (.int .i64 ((valN (b.take 4) : Nat) : Int)), Is (.slice A0 b.length c0), Is (.int .i64 (b.length : Int)), Is (.int .i64 ((b.length : Int) - 8)), Is (.bool (decide (((b.length : Int) - 8) < ((valN (b.take 4) : Nat) : Int)))), Is (.bool (decide (((b.length : Int) - 8) < ((valN (b.take 4) : Nat) : Int)))), Is (.bool (decide (((b.length : Int) - 8) < ((valN (b.take 4) : Nat) : Int)))), Is undef, Is undef, Is undef, Is undef, Is undef, Is undef, Is undef, Is undef, Is undef, Is undef, Is undef, Is (.bool true)]) rfl (by decide +kernel) ?_
    refine tr (.int .i64 ((valN (b.take 4) : Nat) : Int)) ?_
    refine t_is (.bool (decide (16376 < ((valN (b.take 4) : Nat) : Int)))) rfl rfl rfl rfl (fun W_ hW_ F_ => by simp [go_sem, sEv, sLook, nbeq, i64_w, -List.length_flatten]) ?_
    refine tr (.bool (decide (16376 < ((valN (b.take 4) : Nat) : Int)))) ?_
    refine t_gis (c := decide (16376 < ((valN (b.take 4) : Nat) : Int))) (.int .i64 ((valN (b.take 4) : Nat) : Int)) rfl rfl rfl (by first | (rw [cM]; rfl) | simp [cM]) rfl rfl rfl (fun W_ hW_ F_ => rfl) ?_
    refine t_gis (c := decide (16376 < ((valN (b.take 4) : Nat) : Int))) (.slice A0 b.length c0) rfl rfl rfl (by first | (rw [cM]; rfl) | simp [cM]) rfl rfl rfl (fun W_ hW_ F_ => rfl) ?_
    refine t_gis (c := decide (16376 < ((valN (b.take 4) : Nat) : Int))) (.int .i64 (b.length : Int)) rfl rfl rfl (by first | (rw [cM]; rfl) | simp [cM]) rfl rfl rfl (fun W_ hW_ F_ => by simp [go_sem, sEv, sLook, nbeq, i64_w, -List.length_flatten]) ?_
    refine t_gis (c := decide (16376 < ((valN (b.take 4) : Nat) : Int))) (.int .i64 ((b.length : Int) - 8)) rfl rfl rfl (by first | (rw [cM]; rfl) | simp [cM]) rfl rfl rfl (fun W_ hW_ F_ => by simp [go_sem, sEv, sLook, nbeq, i64_w, -List.length_flatten]; exact wrap_id (by omega) (by omega)) ?_
    refine t_gis (c := decide (16376 < ((valN (b.take 4) : Nat) : Int))) (.bool (decide (((b.length : Int) - 8) < ((valN (b.take 4) : Nat) : Int)))) rfl rfl rfl (by first | (rw [cM]; rfl) | simp [cM]) rfl rfl rfl (fun W_ hW_ F_ => by simp [go_sem, sEv, sLook, nbeq, i64_w, -List.length_flatten]) ?_
    refine t_is (.bool (decide (((b.length : Int) - 8) < ((valN (b.take 4) : Nat) : Int)))) rfl rfl rfl rfl (fun W_ hW_ F_ => by first | (simp [go_sem, sEv, sLook, nbeq, i64_w, -List.length_flatten, cM]; done) | (simp [go_sem, sEv, sLook, nbeq, i64_w, -List.length_flatten] <;> omega) | (simp [go_sem, sEv, sLook, nbeq, i64_w, -List.length_flatten]; intro h_; exact absurd (by omega) h_) | (rw [cM]; simp [go_sem, sEv, sLook, nbeq, i64_w, -List.length_flatten]; done)) ?_
    refine tr (.bool (decide (((b.length : Int) - 8) < ((valN (b.take 4) : Nat) : Int)))) ?_
    refine t_off (c := decide (((b.length : Int) - 8) < ((valN (b.take 4) : Nat) : Int))) rfl rfl rfl (by first | (rw [cL]; rfl) | simp [cL]) rfl rfl ?_
    refine t_off (c := decide (((b.length : Int) - 8) < ((valN (b.take 4) : Nat) : Int))) rfl rfl rfl (by first | (rw [cL]; rfl) | simp [cL]) rfl rfl ?_
    refine t_off (c := decide (((b.length : Int) - 8) < ((valN (b.take 4) : Nat) : Int))) rfl rfl rfl (by first | (rw [cL]; rfl) | simp [cL]) rfl rfl ?_
    refine t_off (c := decide (((b.length : Int) - 8) < ((valN (b.take 4) : Nat) : Int))) rfl rfl rfl (by first | (rw [cL]; rfl) | simp [cL]) rfl rfl ?_
    refine t_off (c := decide (((b.length : Int) - 8) < ((valN (b.take 4) : Nat) : Int))) rfl rfl rfl (by first | (rw [cL]; rfl) | simp [cL]) rfl rfl ?_
    refine t_off (c := decide (((b.length : Int) - 8) < ((valN (b.take 4) : Nat) : Int))) rfl rfl rfl (by first | (rw [cL]; rfl) | simp [cL]) rfl rfl ?_
    refine t_off (c := decide (((b.length : Int) - 8) < ((valN (b.take 4) : Nat) : Int))) rfl rfl rfl (by first | (rw [cL]; rfl) | simp [cL]) rfl rfl ?_
    refine t_off (c := decide (((b.length : Int) - 8) < ((valN (b.take 4) : Nat) : Int))) rfl rfl rfl (by first | (rw [cL]; rfl) | simp [cL]) rfl rfl ?_
    refine t_off (c := decide (((b.length : Int) - 8) < ((valN (b.take 4) : Nat) : Int))) rfl rfl rfl (by first | (rw [cL]; rfl) | simp [cL]) rfl rfl ?_
    refine t_off (c := decide (((b.length : Int) - 8) < ((valN (b.take 4) : Nat) : Int))) rfl rfl rfl (by first | (rw [cL]; rfl) | simp [cL]) rfl rfl ?_
    refine t_off (c := decide (((b.length : Int) - 8) < ((valN (b.take 4) : Nat) : Int))) rfl rfl rfl (by first | (rw [cL]; rfl) | simp [cL]) rfl rfl ?_
    refine t_is (.bool true) rfl rfl rfl rfl (fun W_ hW_ F_ => by first | (simp [go_sem, sEv, sLook, nbeq, i64_w, -List.length_flatten, cL]; done) | (simp [go_sem, sEv, sLook, nbeq, i64_w, -List.length_flatten] <;> omega) | (simp [go_sem, sEv, sLook, nbeq, i64_w, -List.length_flatten]; intro h_; exact absurd (by omega) h_) | (rw [cL]; simp [go_sem, sEv, sLook, nbeq, i64_w, -List.length_flatten]; done)) ?_
    refine t_end ?_
    intro w15 hb16_ F17
    have hb16 := below_of_drew hb16_
    have hs_w15 := hb16.size
    refine w_cond_t rfl rfl rfl ?_
    refine wsr ?_
    refine rv (.int .i64 0) ?_
    refine rw_end ?_
    refine w_ret (post_ret1 rfl rfl ?_)
    have e_ : wholeP b = 0 := by
     unfold wholeP
     have c8_ := of_decide_eq_false c8
     rw [if_neg (by omega)]
     have cM_ := of_decide_eq_false cM
     rw [if_neg (by omega)]
     have cL_ := of_decide_eq_true cL
     rw [if_pos (by omega)]
    exact ⟨by rw [e_]; rfl, (chain hb4 hb16)⟩
  ·
   refine w_draw (M := [0, 1, 3, 7, 7, 23, 55, 127, 255, 511, 1023, 1023, 3071, 8191, 16383, 32767, 65535, 1023, 132095, 458751, 1048575, 2097151]) (ss := [Is (.int .i64 ((valN (b.take 4) : Nat) : Int)), Is (.bool (decide (16376 < ((valN (b.take 4) : Nat) : Int)))), Is (.bool (decide (16376 < ((valN (b.take 4) : Nat) : Int)))), Is undef, Is undef, Is undef, Is undef, Is undef, Is (.bool true), Is (.bool true), Is undef, Is undef, Is undef, Is undef, Is undef, Is undef, Is undef, Is undef, Is undef, Is undef, Is undef, Is (.bool true)]) rfl (by decide +kernel) ?_
   refine tr (.int .i64 ((valN (b.take 4) : Nat) : Int)) ?_
   refine t_is (.bool (decide (16376 < ((valN (b.take 4) : Nat) : Int)))) rfl rfl rfl rfl (fun W_ hW_ F_ => by simp [go_sem, sEv, sLook, nbeq, i64_w, -List.length_flatten]) ?_
   refine tr (.bool (decide (16376 < ((valN (b.take 4) : Nat) : Int)))) ?_
   refine t_off (c := decide (16376 < ((valN (b.take 4) : Nat) : Int))) rfl rfl rfl (by first | (rw [cM]; rfl) | simp [cM]) rfl rfl ?_
   refine t_off (c := decide (16376 < ((valN (b.take 4) : Nat) : Int))) rfl rfl rfl (by first | (rw [cM]; rfl) | simp [cM]) rfl rfl ?_
   refine t_off (c := decide (16376 < ((valN (b.take 4) : Nat) : Int))) rfl rfl rfl (by first | (rw [cM]; rfl) | simp [cM]) rfl rfl ?_
   refine t_off (c := decide (16376 < ((valN (b.take 4) : Nat) : Int))) rfl rfl rfl (by first | (rw [cM]; rfl) | simp [cM]) rfl rfl ?_
   refine t_off (c := decide (16376 < ((valN (b.take 4) : Nat) : Int))) rfl rfl rfl (by first | (rw [cM]; rfl) | simp [cM]) rfl rfl ?_
   refine t_is (.bool true) rfl rfl rfl rfl (fun W_ hW_ F_ => by first | (simp [go_sem, sEv, sLook, nbeq, i64_w, -List.length_flatten, cM]; done) | (simp [go_sem, sEv, sLook, nbeq, i64_w, -List.length_flatten] <;> omega) | (simp [go_sem, sEv, sLook, nbeq, i64_w, -List.length_flatten]; intro h_; exact absurd (by omega) h_) | (rw [cM]; simp [go_sem, sEv, sLook, nbeq, i64_w, -List.length_flatten]; done)) ?_
   refine tr (.bool true) ?_
   refine t_off (c := true) rfl rfl rfl rfl rfl rfl ?_
   refine t_off (c := true) rfl rfl rfl rfl rfl rfl ?_
   refine t_off (c := true) rfl rfl rfl rfl rfl rfl ?_
   refine t_off (c := true) rfl rfl rfl rfl rfl rfl ?_
   refine t_off (c := true) rfl rfl rfl rfl rfl rfl ?_
   refine t_off (c := true) rfl rfl rfl rfl rfl rfl ?_
   refine t_off (c := true) rfl rfl rfl rfl rfl rfl ?_
   refine t_off (c := true) rfl rfl rfl rfl rfl rfl ?_
   refine t_off (c := true) rfl rfl rfl rfl rfl rfl ?_
   refine t_off (c := true) rfl rfl rfl rfl rfl rfl ?_
   refine t_off (c := true) rfl rfl rfl rfl rfl rfl ?_
   refine t_is (.bool true) rfl rfl rfl rfl (fun W_ hW_ F_ => by simp [go_sem, sEv, sLook, nbeq, i64_w, -List.length_flatten]) ?_
   refine t_end ?_
   intro w18 hb19_ F20
   have hb19 := below_of_drew hb19_
   have hs_w18 := hb19.size
   refine w_cond_t rfl rfl rfl ?_
   refine wsr ?_
   refine rv (.int .i64 0) ?_
   refine rw_end ?_
   refine w_ret (post_ret1 rfl rfl ?_)
   have e_ : wholeP b = 0 := by
    unfold wholeP
    have c8_ := of_decide_eq_false c8
    rw [if_neg (by omega)]
    have cM_ := of_decide_eq_true cM
    rw [if_pos (by omega)]
   exact ⟨by rw [e_]; rfl, (chain hb4 hb19)⟩
end Go.Proofs.Ytbbhdohjhipalaa.PNoteReads
end
section
namespace Go.Proofs.Ytbbhdohjhipalaa.Flow
open Go.RowKit Go.Proofs.YtbbhdohjhipalaaW.PrintWords Go.Proofs.YtbbhdohjhipalaaW.PrintLast Go.Proofs.YtbbhdohjhipalaaW.PrintMore
set_option linter.unusedVariables false
set_option linter.unusedSimpArgs false
structure Sh where
  nil : Bool
  g : Nat
  n : Nat
  c : Nat
def adrSh (s : Sh) : Option Addr := if s.nil = true then none else some ⟨s.g, 0, none⟩
def V (s : Sh) : Value := .slice (adrSh s) s.n s.c
section
variable {e : TypeId} {w w' : World} {s : Sh} {ys : List Int}
end
section
variable {P : Program} {cx : Cx} {n : Nat} {Q : Exit → Act → World → Prop} {st : List Itm} {G : Env} {w : World} {ops : Array Oper} {o : Oper} {rest : List Oper}
end
end Go.Proofs.Ytbbhdohjhipalaa.Flow
end
section
namespace Go.Proofs.Ytbbhdohjhipalaa.PNoteReads
open Go.RowKit Go.Proofs.YtbbhdohjhipalaaW.PrintWords Go.Proofs.YtbbhdohjhipalaaW.PrintLast Go.Proofs.YtbbhdohjhipalaaW.PrintMore
open Go.Proofs.Ytbbhdohjhipalaa.Flow
set_option linter.unusedVariables false
set_option linter.unusedSimpArgs false
theorem wholeP_le (b : List Int) : wholeP b = 0 ∨ (8 ≤ wholeP b ∧ wholeP b ≤ b.length) := by
  unfold wholeP
  split
  · exact Or.inl rfl
  · split
    · exact Or.inl rfl
    · split
      · exact Or.inl rfl
      · split
        · right
          omega
        · exact Or.inl rfl
theorem whole_frame (p r : List Int) (hl : p.length ≤ 16376) : wholeP (frameB p ++ r) = 8 + p.length := by
  have hf := frameB_len p hl
  obtain ⟨a, b, h, ha, hb, h1, h2⟩ := frameB_parts p hl
  have hS := fnv_range p 2166136261 (by omega)
  obtain ⟨S, hSn⟩ := Int.eq_ofNat_of_zero_le hS.1
  have hvb : valN b = S := by rw [hb, hSn]; exact valN_low4 S (by omega)
  have e1 : ((frameB p ++ r).drop 8).take p.length = p := by
    rw [h, List.append_assoc, show (8 : Nat) = (a ++ b).length by simp; omega, List.drop_left, List.take_left]
  have e2 : ((frameB p ++ r).take 8).drop 4 = b := by
    rw [h, List.append_assoc, show (8 : Nat) = (a ++ b).length by simp; omega, List.take_left, ← h1, List.drop_left]
  unfold wholeP
  rw [take4 p hl r, List.length_append, if_neg (by omega), if_neg (by omega), if_neg (by omega), e1, e2, hvb, if_pos (by rw [hSn])]
end Go.Proofs.Ytbbhdohjhipalaa.PNoteReads
end
section
namespace Go.Proofs.Ytbbhdohjhipalaa.PNoteReads
open Go.RowKit Go.Proofs.YtbbhdohjhipalaaW.PrintWords Go.Proofs.YtbbhdohjhipalaaW.PrintLast Go.Proofs.YtbbhdohjhipalaaW.PrintMore
open Go.Proofs.Ytbbhdohjhipalaa.Flow
set_option linter.unusedVariables false
set_option linter.unusedSimpArgs false
def UN (b : List Int) : List Int := if wholeP b = 0 then [] else (b.take (wholeP b)).drop 8
def UR (b : List Int) : List Int := if wholeP b = 0 then [] else b.drop (wholeP b)
def UE (b : List Int) : Option Int := if wholeP b = 0 then some 3 else none
set_option maxHeartbeats 4000000 in
theorem unwrap_calls (w : World) (A0 : Option Addr) (c0 : Nat) (b : List Int) (hC : (Kd.int .u8).C w A0 b.length b) (hc : b.length ≤ c0) (hb : Bytes b) (hl : b.length ≤ 1000000) :
  Calls Try.prog 36 #[.slice A0 b.length c0] w fun e w' => ∃ A1 n1 c1 A2 n2 c2 m, e = .returned (.tuple #[.slice A1 n1 c1, .slice A2 n2 c2, errW (UE b)]) ∧ Own .u8 5 w' w.heap.size w.heap.size A1 n1 c1 (UN b) ∧ Own .u8 5 w' w.heap.size m A2 n2 c2 (UR b) ∧ (∀ q, (Value.slice A1 n1 c1).ownBlock = some q → q < m) ∧ w.heap.size ≤ m ∧ m ≤ w'.heap.size ∧ Below w.heap.size w w' := by
 refine calls_flow Try.func36 rfl 19 rfl (Nat.le_of_ble_eq_true rfl) [(0, .slice A0 b.length c0)] ?_ ?_
 ·
  intro t v h; exact args_look rfl t v h
 refine wsr ?_
 refine rv (.slice none 0 0) ?_
 refine rv (.slice none 0 0) ?_
 refine rv .nilIface ?_
 refine rw_end ?_
 refine wsr ?_
 refine rv (.slice A0 b.length c0) ?_
 refine rw_call rfl rfl rfl rfl (f := 56) (args := #[.slice A0 b.length c0]) (by simp [go_sem, sEv, sLook, nbeq, i64_w, -List.length_flatten]) (whole_calls w A0 c0 b hC hc hb (by omega)) ?_
 rintro e_ w1 ⟨rfl, hb2⟩
 refine ⟨_, rfl, ?_⟩
 have hs_w1 := hb2.size
 refine rv (.int .i64 ((wholeP b : Nat) : Int)) ?_
 refine rw_end ?_
 refine w_seq ?_
 refine wsr ?_
 refine rv (.int .i64 ((wholeP b : Nat) : Int)) ?_
 refine rs2 (.bool (((wholeP b : Nat) : Int) == 0)) ?_
 refine rw_end ?_
 refine w_cond rfl rfl (fun cZ => ?_) (fun cZ => ?_)
 ·
  refine wsr ?_
  refine rz (errW (some 3)) (by simp [go_sem, sEv, sLook, nbeq, i64_w, -List.length_flatten, errW_some]) ?_
  refine rv (.slice none 0 0) ?_
  refine rv (.slice none 0 0) ?_
  refine rv (errW (some 3)) ?_
  refine rw_end ?_
  refine w_ret (post_ret3 rfl rfl rfl rfl ?_)
  have cZ_ : wholeP b = 0 := by simpa using cZ
  have e1_ : UN b = [] := by unfold UN; rw [if_pos cZ_]
  have e2_ : UR b = [] := by unfold UR; rw [if_pos cZ_]
  have e3_ : UE b = some 3 := by unfold UE; rw [if_pos cZ_]
  rw [e1_, e2_, e3_]
  exact ⟨none, 0, 0, none, 0, 0, w.heap.size, rfl, Own.nil _ _ _ _ _, Own.nil _ _ _ _ _, (fun q hq => by cases hq), Nat.le_refl _, by omega, hb2⟩
 ·
  refine w_skip ?_
  refine w_seq ?_
  have cZ_ : wholeP b ≠ 0 := by simpa using cZ
  have hwl_ := wholeP_le b
  refine w_drawk (M := [0, 0, 3, 7, 0, 0, 48, 127, 255, 511, 1023]) (ss := [Is (.slice A0 b.length c0), Is (.int .i64 ((wholeP b : Nat) : Int)), Is (.slice (adr A0 c0 8) (((b.take (wholeP b)).drop 8).length) (c0 - 8)), OwnSpec w.heap.size w1.heap.size ((b.take (wholeP b)).drop 8), Is (.slice A0 b.length c0), Is (.int .i64 ((wholeP b : Nat) : Int)), Is (.slice (adr A0 c0 (wholeP b)) ((b.drop (wholeP b)).length) (c0 - (wholeP b)))]) 7 rfl (by decide +kernel) ?_
  refine tr (.slice A0 b.length c0) ?_
  refine tr (.int .i64 ((wholeP b : Nat) : Int)) ?_
  have hP3 := (mid_C hC 8 (wholeP b) (by omega) (by omega) (show b.length ≤ c0 by have q_ := hc; have q2_ : b.length = b.length := rfl; omega))
  have hc4 : ((b.take (wholeP b)).drop 8).length ≤ (c0 - 8) := by have q_ := hc; have q2_ : b.length = b.length := rfl; simp only [List.length_take, List.length_drop]; omega
  refine t_is (.slice (adr A0 c0 8) (((b.take (wholeP b)).drop 8).length) (c0 - 8)) rfl rfl rfl rfl (fun W_ hW_ F_ => (run_as (run_mid (e := 5) (by kernel_rfl) (fun _ => by kernel_rfl) 8 (wholeP b) _ _ (by first | rfl | (simp; done) | omega) (by first | rfl | (simp; done) | omega) rfl (by omega) (by omega) hc _))) ?_
  refine t_call (f := 49) (args := #[.slice (adr A0 c0 8) (((b.take (wholeP b)).drop 8).length) (c0 - 8)]) (OwnSpec w.heap.size w1.heap.size ((b.take (wholeP b)).drop 8)) rfl rfl rfl rfl (fun W_ => by simp [go_sem, sEv, sLook, nbeq, i64_w, -List.length_flatten]) (fun W_ hW_ F_ => ?_) ?_
  ·
   have hs_ := (below_of_drew hW_).size
   refine (clone_calls W_ _ _ _ ((b.take (wholeP b)).drop 8) (Kd.C_below hP3 (chain hb2 (below_of_drew hW_))) (by simp only [List.length_drop, List.length_take]; omega)).mono ?_
   rintro e_ w_ ⟨A_, n_, c_, rfl, hO_, hb_⟩
   exact ⟨_, rfl, ⟨A_, n_, c_, rfl, hO_.lower (by omega) |>.mono hs_⟩, hb_⟩
  rintro _ ⟨A5, n6, c7, rfl⟩
  refine tr (.slice A0 b.length c0) ?_
  refine tr (.int .i64 ((wholeP b : Nat) : Int)) ?_
  have hP9 := (from_C hC (wholeP b) (by omega) (show b.length ≤ c0 by have q_ := hc; have q2_ : b.length = b.length := rfl; omega))
  have hc10 : (b.drop (wholeP b)).length ≤ (c0 - (wholeP b)) := by have q_ := hc; have q2_ : b.length = b.length := rfl; simp only [List.length_take, List.length_drop]; omega
  refine t_is (.slice (adr A0 c0 (wholeP b)) ((b.drop (wholeP b)).length) (c0 - (wholeP b))) rfl rfl rfl rfl (fun W_ hW_ F_ => (run_as (run_from (e := 5) (by kernel_rfl) (fun _ => by kernel_rfl) (wholeP b) _ (by first | rfl | (simp; done) | omega) rfl (by omega) hc _))) ?_
  refine t_tail ?_
  intro w11 hb12_ F13
  have hb12 := below_of_drew hb12_
  have hs_w11 := hb12.size
  have hO8 := ownspec_fact (F13 3 _ _ rfl)
  refine rw_call rfl rfl rfl rfl (f := 49) (args := #[.slice (adr A0 c0 (wholeP b)) ((b.drop (wholeP b)).length) (c0 - (wholeP b))]) (by simp [go_sem, sEv, sLook, nbeq, i64_w, -List.length_flatten]) (clone_calls w11 _ _ _ (b.drop (wholeP b)) (Kd.C_below hP9 (chain hb2 hb12)) (by simp only [List.length_drop, List.length_take]; omega)) ?_
  rintro e_ w17 ⟨A14, n15, c16, rfl, hO18, hB19⟩
  refine ⟨_, rfl, ?_⟩
  have hs_w17 := hB19.size
  have hL20 : Own .u8 5 w17 w.heap.size w11.heap.size A14 n15 c16 (b.drop (wholeP b)) := Own.lower hO18 (by omega)
  refine rv (.slice A5 n6 c7) ?_
  refine rv (.slice A14 n15 c16) ?_
  refine rv .nilIface ?_
  refine rw_end ?_
  refine w_ret (post_ret3 rfl rfl rfl rfl ?_)
  have e1_ : UN b = ((b.take (wholeP b)).drop 8) := by unfold UN; rw [if_neg cZ_]
  have e2_ : UR b = b.drop (wholeP b) := by unfold UR; rw [if_neg cZ_]
  have e3_ : UE b = none := by unfold UE; rw [if_neg cZ_]
  rw [e1_, e2_, e3_]
  exact ⟨_, _, _, _, _, _, w11.heap.size, rfl, Own.mono (hO8.on hB19) (by omega), (hL20.on (Below.refl _ _)), (fun q hq => (Kd.R_bound (Own.on hO8 (Below.refl _ _))).1 q hq |>.2.2.1), by omega, by omega, (chain (chain hb2 hb12) hB19)⟩
end Go.Proofs.Ytbbhdohjhipalaa.PNoteReads
end
section
namespace Go.Proofs.Ytbbhdohjhipalaa.PNoteReads
open Go.RowKit Go.Proofs.YtbbhdohjhipalaaW.PrintWords Go.Proofs.YtbbhdohjhipalaaW.PrintLast Go.Proofs.YtbbhdohjhipalaaW.PrintMore
open Go.Proofs.Ytbbhdohjhipalaa.Flow
set_option linter.unusedVariables false
set_option linter.unusedSimpArgs false
set_option maxHeartbeats 4000000 in
theorem take_calls (w : World) (A0 : Option Addr) (c0 : Nat) (b : List Int) (hC : (Kd.int .u8).C w A0 b.length b) (hc : b.length ≤ c0) (hb : Bytes b) :
  Calls Try.prog 57 #[.slice A0 b.length c0] w fun e w' => e = .returned (.tuple #[.int .i64 (takeP b).1, .int .i64 (((takeP b).2 : Nat) : Int)]) ∧ Below w.heap.size w w' := by
 refine calls_flow Try.func57 rfl 45 rfl (Nat.le_of_ble_eq_true rfl) [(0, .slice A0 b.length c0)] ?_ ?_
 ·
  intro t v h; exact args_look rfl t v h
 refine wsr ?_
 refine rv (.int .i64 0) ?_
 refine rv (.int .i64 0) ?_
 refine rw_end ?_
 refine w_seq ?_
 refine wsr ?_
 refine rv (.slice A0 b.length c0) ?_
 refine rs2 (.int .i64 (b.length : Int)) ?_
 refine rs2 (.bool ((b.length : Int) == 0)) ?_
 refine rv (.bool ((b.length : Int) == 0)) ?_
 rcases bcase ((b.length : Int) == 0) with cN | cN
 ·
  refine rnk cN ?_
  refine rv (.slice A0 b.length c0) ?_
  refine rnk cN ?_
  have cN_ : b.length ≠ 0 := by simpa using cN
  obtain ⟨ad, hA_, hcell_⟩ := Kd.at_int hC 0 (by omega) (by omega)
  subst hA_
  rw [show (0 : Int).toNat = 0 from rfl, Flow.add_zero] at hcell_
  have hr_ := rd_range hb 0 (by omega)
  rw [show ((0 : Nat) : Int) = 0 from rfl] at hr_
  refine rz (.pointer (some ad)) (by have hp_ : 0 < b.length := (by omega); have hp2_ : b ≠ [] := (fun h_ => by rw [h_] at hp_; simp at hp_); first | (simp [go_sem, sEv, sLook, nbeq, i64_w, -List.length_flatten, Try.underlying30, Flow.add_zero, hp_]; done) | (simp [go_sem, sEv, sLook, nbeq, i64_w, -List.length_flatten, Try.underlying30, Flow.add_zero, hp2_]; done) | (simp [go_sem, sEv, sLook, nbeq, i64_w, -List.length_flatten, Try.underlying30, Flow.add_zero]; exact hp2_)) ?_
  refine rnk cN ?_
  refine rz (.int .u8 (rd b 0)) (by simp [go_sem, sEv, sLook, nbeq, i64_w, -List.length_flatten, hcell_]) ?_
  refine rnk cN ?_
  refine rs2 (.bool (decide (8 < (rd b 0)))) ?_
  refine rz (.bool (decide (8 < (rd b 0)))) (by first | (simp [go_sem, sEv, sLook, nbeq, i64_w, -List.length_flatten, cN]; done) | (simp [go_sem, sEv, sLook, nbeq, i64_w, -List.length_flatten] <;> omega) | (simp [go_sem, sEv, sLook, nbeq, i64_w, -List.length_flatten]; intro h_; exact absurd (by omega) h_) | (rw [cN]; simp [go_sem, sEv, sLook, nbeq, i64_w, -List.length_flatten]; done)) ?_
  refine rv (.bool (decide (8 < (rd b 0)))) ?_
  rcases bcase (decide (8 < (rd b 0))) with c8 | c8
  ·
   refine rnk c8 ?_
   refine rv (.slice (some ad) b.length c0) ?_
   refine rnk c8 ?_
   refine rz (.pointer (some ad)) (by have hp_ : 0 < b.length := (by omega); have hp2_ : b ≠ [] := (fun h_ => by rw [h_] at hp_; simp at hp_); first | (simp [go_sem, sEv, sLook, nbeq, i64_w, -List.length_flatten, Try.underlying30, Flow.add_zero, hp_]; done) | (simp [go_sem, sEv, sLook, nbeq, i64_w, -List.length_flatten, Try.underlying30, Flow.add_zero, hp2_]; done) | (simp [go_sem, sEv, sLook, nbeq, i64_w, -List.length_flatten, Try.underlying30, Flow.add_zero]; exact hp2_)) ?_
   refine rnk c8 ?_
   refine rz (.int .u8 (rd b 0)) (by simp [go_sem, sEv, sLook, nbeq, i64_w, -List.length_flatten, hcell_]) ?_
   refine rnk c8 ?_
   refine rz (.int .i64 (rd b 0)) (by simp [go_sem, sEv, sLook, nbeq, i64_w, -List.length_flatten]; exact wrap_id (by omega) (by omega)) ?_
   refine rnk c8 ?_
   refine rv (.slice (some ad) b.length c0) ?_
   refine rnk c8 ?_
   refine rs2 (.int .i64 (b.length : Int)) ?_
   refine rnk c8 ?_
   refine rz (.int .i64 ((b.length : Int) - 1)) (by simp [go_sem, sEv, sLook, nbeq, i64_w, -List.length_flatten]; have h_ := hC.2.1; exact wrap_id (by omega) (by omega)) ?_
   refine rnk c8 ?_
   refine rs2 (.bool (decide (((b.length : Int) - 1) < (rd b 0)))) ?_
   refine rz (.bool (decide (((b.length : Int) - 1) < (rd b 0)))) (by first | (simp [go_sem, sEv, sLook, nbeq, i64_w, -List.length_flatten, c8]; done) | (simp [go_sem, sEv, sLook, nbeq, i64_w, -List.length_flatten] <;> omega) | (simp [go_sem, sEv, sLook, nbeq, i64_w, -List.length_flatten]; intro h_; exact absurd (by omega) h_) | (rw [c8]; simp [go_sem, sEv, sLook, nbeq, i64_w, -List.length_flatten]; done)) ?_
   refine rw_end ?_
   refine w_cond rfl rfl (fun c3 => ?_) (fun c3 => ?_)
   ·
    refine wsr ?_
    refine rv (.int .i64 0) ?_
    refine rv (.int .i64 0) ?_
    refine rw_end ?_
    refine w_ret (post_ret2 rfl rfl rfl ?_)
    have e_ : takeP b = (0, 0) := by
     unfold takeP
     rw [if_neg (by simpa using cN)]
     rw [if_neg (of_decide_eq_false c8)]
     rw [if_pos (of_decide_eq_true c3)]
    exact ⟨by rw [e_]; rfl, (Below.refl _ _)⟩
   ·
    refine w_skip ?_
    refine wsr ?_
    refine rv (.slice (some ad) b.length c0) ?_
    refine rz (.pointer (some ad)) (by have hp_ : 0 < b.length := (by omega); have hp2_ : b ≠ [] := (fun h_ => by rw [h_] at hp_; simp at hp_); first | (simp [go_sem, sEv, sLook, nbeq, i64_w, -List.length_flatten, Try.underlying30, Flow.add_zero, hp_]; done) | (simp [go_sem, sEv, sLook, nbeq, i64_w, -List.length_flatten, Try.underlying30, Flow.add_zero, hp2_]; done) | (simp [go_sem, sEv, sLook, nbeq, i64_w, -List.length_flatten, Try.underlying30, Flow.add_zero]; exact hp2_)) ?_
    refine rz (.int .u8 (rd b 0)) (by simp [go_sem, sEv, sLook, nbeq, i64_w, -List.length_flatten, hcell_]) ?_
    refine rz (.int .i64 (rd b 0)) (by simp [go_sem, sEv, sLook, nbeq, i64_w, -List.length_flatten]; exact wrap_id (by omega) (by omega)) ?_
    refine rv (.int .i64 (rd b 0)) ?_
    refine rw_end ?_
    refine w_seq ?_
    refine wsr ?_
    refine rv (.int .i64 (rd b 0)) ?_
    refine rs2 (.bool (decide (0 < (rd b 0)))) ?_
    refine rv (.bool (decide (0 < (rd b 0)))) ?_
    rcases bcase (decide (0 < (rd b 0))) with cZ | cZ
    ·
     refine rok cZ ?_
     refine rok cZ ?_
     refine rok cZ ?_
     refine rok cZ ?_
     refine rok cZ ?_
     refine rz (.bool false) (by first | (simp [go_sem, sEv, sLook, nbeq, i64_w, -List.length_flatten, cZ]; done) | (simp [go_sem, sEv, sLook, nbeq, i64_w, -List.length_flatten] <;> omega) | (simp [go_sem, sEv, sLook, nbeq, i64_w, -List.length_flatten]; intro h_; exact absurd (by omega) h_) | (rw [cZ]; simp [go_sem, sEv, sLook, nbeq, i64_w, -List.length_flatten]; done)) ?_
     refine rw_end ?_
     refine w_cond_f rfl rfl rfl ?_
     refine w_skip ?_
     refine wsr ?_
     refine rv (.slice (some ad) b.length c0) ?_
     refine rv (.int .i64 (rd b 0)) ?_
     refine rz (.int .i64 ((1 + (rd b 0).toNat : Nat) : Int)) (by simp [go_sem, sEv, sLook, nbeq, i64_w, -List.length_flatten]; have c8_ := of_decide_eq_false c8; rw [wrap_id (by omega) (by omega)]; omega) ?_
     have c3b_ := of_decide_eq_false c3
     have c8b_ := of_decide_eq_false c8
     have hP1 := (mid_C hC 1 (1 + (rd b 0).toNat) (by omega) (by omega) (show b.length ≤ c0 by have q_ := hc; have q2_ : b.length = b.length := rfl; omega))
     have hc2 : ((b.take (1 + (rd b 0).toNat)).drop 1).length ≤ (c0 - 1) := by have q_ := hc; have q2_ : b.length = b.length := rfl; simp only [List.length_take, List.length_drop]; omega
     refine rz (.slice (adr (some ad) c0 1) (((b.take (1 + (rd b 0).toNat)).drop 1).length) (c0 - 1)) (run_as (run_mid (e := 5) (by kernel_rfl) (fun _ => by kernel_rfl) 1 (1 + (rd b 0).toNat) _ _ (by first | rfl | (simp; done) | omega) (by first | rfl | (simp; done) | omega) rfl (by omega) (by omega) hc _)) ?_
     refine rw_call rfl rfl rfl rfl (f := 64) (args := #[.slice (adr (some ad) c0 1) (((b.take (1 + (rd b 0).toNat)).drop 1).length) (c0 - 1)]) (by simp [go_sem, sEv, sLook, nbeq, i64_w, -List.length_flatten]) (high_calls w _ _ ((b.take (1 + (rd b 0).toNat)).drop 1) (Kd.C_below hP1 (Below.refl _ _)) hc2 ((hb.take _).drop _) (by simp only [List.length_take, List.length_drop]; omega)) ?_
     rintro e_ w3 ⟨rfl, hb4_⟩
     refine ⟨_, rfl, ?_⟩
     have hb4 := hb4_.below
     have hs_w3 := hb4.size
     have hv64_ : valN ((b.take (1 + (rd b 0).toNat)).drop 1) < 18446744073709551616 := by
      have hx_ := valN_lt ((b.take (1 + (rd b 0).toNat)).drop 1) ((hb.take _).drop _)
      have hxl_ : ((b.take (1 + (rd b 0).toNat)).drop 1).length ≤ 8 := by simp only [List.length_take, List.length_drop]; omega
      have h9_ : 2 ^ (8 * ((b.take (1 + (rd b 0).toNat)).drop 1).length) ≤ 2 ^ 64 := Nat.pow_le_pow_right (by omega) (by omega)
      exact Nat.lt_of_lt_of_le hx_ h9_
     refine rw_call rfl rfl rfl rfl (f := 65) (args := #[.int .u64 ((valN ((b.take (1 + (rd b 0).toNat)).drop 1) : Nat) : Int)]) (by simp [go_sem, sEv, sLook, nbeq, i64_w, -List.length_flatten]) (frame_back.calls _ _ w3 (back_f (valN ((b.take (1 + (rd b 0).toNat)).drop 1)) hv64_)) ?_
     rintro e_ w5 ⟨rfl, hb6_⟩
     refine ⟨_, rfl, ?_⟩
     have hb6 := hb6_.below
     have hs_w5 := hb6.size
     refine rv (.int .i64 (rd b 0)) ?_
     refine rz (.int .i64 ((1 + (rd b 0).toNat : Nat) : Int)) (by simp [go_sem, sEv, sLook, nbeq, i64_w, -List.length_flatten]; have c8_ := of_decide_eq_false c8; rw [wrap_id (by omega) (by omega)]; omega) ?_
     refine rv (.int .i64 (bk (valN ((b.take (1 + (rd b 0).toNat)).drop 1)))) ?_
     refine rv (.int .i64 ((1 + (rd b 0).toNat : Nat) : Int)) ?_
     refine rw_end ?_
     refine w_ret (post_ret2 rfl rfl rfl ?_)
     have e_ : takeP b = (bk (valN ((b.take (1 + (rd b 0).toNat)).drop 1)), 1 + (rd b 0).toNat) := by
      unfold takeP
      rw [if_neg (by simpa using cN)]
      rw [if_neg (of_decide_eq_false c8)]
      rw [if_neg (of_decide_eq_false c3)]
      rw [if_neg (fun h_ => of_decide_eq_false cZ h_.1)]
     exact ⟨by rw [e_], (chain hb4 hb6)⟩
    ·
     refine rnk cZ ?_
     refine rv (.slice (some ad) b.length c0) ?_
     refine rnk cZ ?_
     refine rv (.int .i64 (rd b 0)) ?_
     refine rnk cZ ?_
     have c3_ := of_decide_eq_false c3
     have cZ_ := of_decide_eq_true cZ
     obtain ⟨ad2, hA2_, hcell2_⟩ := Kd.at_int hC (rd b 0) (by omega) (by omega)
     obtain rfl := Option.some.inj hA2_
     refine rz (.pointer (some (ad.add (rd b 0).toNat))) (by simp [go_sem, sEv, sLook, nbeq, i64_w, -List.length_flatten, Try.underlying30]; omega) ?_
     refine rnk cZ ?_
     refine rz (.int .u8 (rd b (rd b 0))) (by simp [go_sem, sEv, sLook, nbeq, i64_w, -List.length_flatten, hcell2_]) ?_
     refine rnk cZ ?_
     refine rs2 (.bool ((rd b (rd b 0)) == 0)) ?_
     refine rz (.bool ((rd b (rd b 0)) == 0)) (by first | (simp [go_sem, sEv, sLook, nbeq, i64_w, -List.length_flatten, cZ]; done) | (simp [go_sem, sEv, sLook, nbeq, i64_w, -List.length_flatten] <;> omega) | (simp [go_sem, sEv, sLook, nbeq, i64_w, -List.length_flatten]; intro h_; exact absurd (by omega) h_) | (rw [cZ]; simp [go_sem, sEv, sLook, nbeq, i64_w, -List.length_flatten]; done)) ?_
     refine rw_end ?_
     refine w_cond rfl rfl (fun cT => ?_) (fun cT => ?_)
     ·
      refine wsr ?_
      refine rv (.int .i64 0) ?_
      refine rv (.int .i64 0) ?_
      refine rw_end ?_
      refine w_ret (post_ret2 rfl rfl rfl ?_)
      have e_ : takeP b = (0, 0) := by
       unfold takeP
       rw [if_neg (by simpa using cN)]
       rw [if_neg (of_decide_eq_false c8)]
       rw [if_neg (of_decide_eq_false c3)]
       rw [if_pos ⟨of_decide_eq_true cZ, by simpa using cT⟩]
      exact ⟨by rw [e_]; rfl, (Below.refl _ _)⟩
     ·
      refine w_skip ?_
      refine wsr ?_
      refine rv (.slice (some ad) b.length c0) ?_
      refine rv (.int .i64 (rd b 0)) ?_
      refine rz (.int .i64 ((1 + (rd b 0).toNat : Nat) : Int)) (by simp [go_sem, sEv, sLook, nbeq, i64_w, -List.length_flatten]; have c8_ := of_decide_eq_false c8; rw [wrap_id (by omega) (by omega)]; omega) ?_
      have c3b_ := of_decide_eq_false c3
      have c8b_ := of_decide_eq_false c8
      have hP7 := (mid_C hC 1 (1 + (rd b 0).toNat) (by omega) (by omega) (show b.length ≤ c0 by have q_ := hc; have q2_ : b.length = b.length := rfl; omega))
      have hc8 : ((b.take (1 + (rd b 0).toNat)).drop 1).length ≤ (c0 - 1) := by have q_ := hc; have q2_ : b.length = b.length := rfl; simp only [List.length_take, List.length_drop]; omega
      refine rz (.slice (adr (some ad) c0 1) (((b.take (1 + (rd b 0).toNat)).drop 1).length) (c0 - 1)) (run_as (run_mid (e := 5) (by kernel_rfl) (fun _ => by kernel_rfl) 1 (1 + (rd b 0).toNat) _ _ (by first | rfl | (simp; done) | omega) (by first | rfl | (simp; done) | omega) rfl (by omega) (by omega) hc _)) ?_
      refine rw_call rfl rfl rfl rfl (f := 64) (args := #[.slice (adr (some ad) c0 1) (((b.take (1 + (rd b 0).toNat)).drop 1).length) (c0 - 1)]) (by simp [go_sem, sEv, sLook, nbeq, i64_w, -List.length_flatten]) (high_calls w _ _ ((b.take (1 + (rd b 0).toNat)).drop 1) (Kd.C_below hP7 (Below.refl _ _)) hc8 ((hb.take _).drop _) (by simp only [List.length_take, List.length_drop]; omega)) ?_
      rintro e_ w9 ⟨rfl, hb10_⟩
      refine ⟨_, rfl, ?_⟩
      have hb10 := hb10_.below
      have hs_w9 := hb10.size
      have hv64_ : valN ((b.take (1 + (rd b 0).toNat)).drop 1) < 18446744073709551616 := by
       have hx_ := valN_lt ((b.take (1 + (rd b 0).toNat)).drop 1) ((hb.take _).drop _)
       have hxl_ : ((b.take (1 + (rd b 0).toNat)).drop 1).length ≤ 8 := by simp only [List.length_take, List.length_drop]; omega
       have h9_ : 2 ^ (8 * ((b.take (1 + (rd b 0).toNat)).drop 1).length) ≤ 2 ^ 64 := Nat.pow_le_pow_right (by omega) (by omega)
       exact Nat.lt_of_lt_of_le hx_ h9_
      refine rw_call rfl rfl rfl rfl (f := 65) (args := #[.int .u64 ((valN ((b.take (1 + (rd b 0).toNat)).drop 1) : Nat) : Int)]) (by simp [go_sem, sEv, sLook, nbeq, i64_w, -List.length_flatten]) (frame_back.calls _ _ w9 (back_f (valN ((b.take (1 + (rd b 0).toNat)).drop 1)) hv64_)) ?_
      rintro e_ w11 ⟨rfl, hb12_⟩
      refine ⟨_, rfl, ?_⟩
      have hb12 := hb12_.below
      have hs_w11 := hb12.size
      refine rv (.int .i64 (rd b 0)) ?_
      refine rz (.int .i64 ((1 + (rd b 0).toNat : Nat) : Int)) (by simp [go_sem, sEv, sLook, nbeq, i64_w, -List.length_flatten]; have c8_ := of_decide_eq_false c8; rw [wrap_id (by omega) (by omega)]; omega) ?_
      refine rv (.int .i64 (bk (valN ((b.take (1 + (rd b 0).toNat)).drop 1)))) ?_
      refine rv (.int .i64 ((1 + (rd b 0).toNat : Nat) : Int)) ?_
      refine rw_end ?_
      refine w_ret (post_ret2 rfl rfl rfl ?_)
      have e_ : takeP b = (bk (valN ((b.take (1 + (rd b 0).toNat)).drop 1)), 1 + (rd b 0).toNat) := by
       unfold takeP
       rw [if_neg (by simpa using cN)]
       rw [if_neg (of_decide_eq_false c8)]
       rw [if_neg (of_decide_eq_false c3)]
       rw [if_neg (fun h_ => absurd h_.2 (by simpa using cT))]
      exact ⟨by rw [e_], (chain hb10 hb12)⟩
  ·
   refine rok c8 ?_
   refine rok c8 ?_
   refine rok c8 ?_
   refine rok c8 ?_
   refine rok c8 ?_
   refine rok c8 ?_
   refine rok c8 ?_
   refine rok c8 ?_
   refine rz (.bool true) (by first | (simp [go_sem, sEv, sLook, nbeq, i64_w, -List.length_flatten, c8]; done) | (simp [go_sem, sEv, sLook, nbeq, i64_w, -List.length_flatten] <;> omega) | (simp [go_sem, sEv, sLook, nbeq, i64_w, -List.length_flatten]; intro h_; exact absurd (by omega) h_) | (rw [c8]; simp [go_sem, sEv, sLook, nbeq, i64_w, -List.length_flatten]; done)) ?_
   refine rw_end ?_
   refine w_cond_t rfl rfl rfl ?_
   refine wsr ?_
   refine rv (.int .i64 0) ?_
   refine rv (.int .i64 0) ?_
   refine rw_end ?_
   refine w_ret (post_ret2 rfl rfl rfl ?_)
   have e_ : takeP b = (0, 0) := by
    unfold takeP
    rw [if_neg (by simpa using cN)]
    rw [if_pos (of_decide_eq_true c8)]
   exact ⟨by rw [e_]; rfl, (Below.refl _ _)⟩
 ·
  refine rok cN ?_
  refine rok cN ?_
  refine rok cN ?_
  refine rok cN ?_
  refine rz (.bool true) (by first | (simp [go_sem, sEv, sLook, nbeq, i64_w, -List.length_flatten, cN]; done) | (simp [go_sem, sEv, sLook, nbeq, i64_w, -List.length_flatten] <;> omega) | (simp [go_sem, sEv, sLook, nbeq, i64_w, -List.length_flatten]; intro h_; exact absurd (by omega) h_) | (rw [cN]; simp [go_sem, sEv, sLook, nbeq, i64_w, -List.length_flatten]; done)) ?_
  refine rv (.bool true) ?_
  refine ro true ?_
  refine ro true ?_
  refine ro true ?_
  refine ro true ?_
  refine ro true ?_
  refine ro true ?_
  refine ro true ?_
  refine ro true ?_
  refine rs2 (.bool true) ?_
  refine rw_end ?_
  refine w_cond_t rfl rfl rfl ?_
  refine wsr ?_
  refine rv (.int .i64 0) ?_
  refine rv (.int .i64 0) ?_
  refine rw_end ?_
  refine w_ret (post_ret2 rfl rfl rfl ?_)
  have e_ : takeP b = (0, 0) := by
   unfold takeP
   rw [if_pos (by simpa using cN)]
  exact ⟨by rw [e_]; rfl, (Below.refl _ _)⟩
theorem takeP_zero (b : List Int) (h : (takeP b).2 = 0) : (takeP b).1 = 0 := by
  revert h
  unfold takeP
  split
  · exact fun _ => rfl
  · split
    · exact fun _ => rfl
    · split
      · exact fun _ => rfl
      · split
        · exact fun _ => rfl
        · intro h
          simp at h
end Go.Proofs.Ytbbhdohjhipalaa.PNoteReads
end
section
namespace Go.Proofs.Ytbbhdohjhipalaa.PNoteReads
open Go.RowKit Go.Proofs.YtbbhdohjhipalaaW.PrintWords Go.Proofs.YtbbhdohjhipalaaW.PrintLast Go.Proofs.YtbbhdohjhipalaaW.PrintMore
open Go.Proofs.Ytbbhdohjhipalaa.Flow
set_option linter.unusedVariables false
set_option linter.unusedSimpArgs false
theorem str_inj : ∀ (a b : List Int), Bytes a → Bytes b → (a.map fun n => UInt8.ofNat n.toNat) = (b.map fun n => UInt8.ofNat n.toNat) → a = b
  | [], [], _, _, _ => rfl
  | [], y :: b, _, _, h => by simp at h
  | x :: a, [], _, _, h => by simp at h
  | x :: a, y :: b, ha, hb, h => by
    simp only [List.map_cons, List.cons.injEq] at h
    have h1 := ha x (by simp)
    have h2 := hb y (by simp)
    have h3 := congrArg UInt8.toNat h.1
    simp at h3
    have h4 : x = y := by omega
    rw [h4, str_inj a b ha.tail hb.tail h.2]
theorem str_iff {a b : List Int} (ha : Bytes a) (hb : Bytes b) : (strOfNums a).toList = (strOfNums b).toList ↔ a = b := by
  constructor
  · intro h
    have h1 := toList_inj h
    have h2 : (strOfNums a).data.toList = (strOfNums b).data.toList := by rw [h1]
    rw [strOfNums_data, strOfNums_data] at h2
    exact str_inj a b ha hb h2
  · intro h
    rw [h]
theorem valN_step (b : List Int) (hb : Bytes b) (z i : Nat) (hz : z ≤ 8) (hl : 1 + z ≤ b.length) (hi : 0 < i) (hiz : i ≤ z) : IntKind.u64.wrap ((IntKind.u64.wrap (((valN ((b.take (1 + z)).drop (i + 1)) : Nat) : Int) * 256)) + (rd b (i : Int))) = ((valN ((b.take (1 + z)).drop i) : Nat) : Int) := by
  have hlt : i < (b.take (1 + z)).length := by rw [List.length_take]; omega
  have hB : Bytes ((b.take (1 + z)).drop i) := (hb.take _).drop _
  have hv := valN_lt _ hB
  have h9 : 2 ^ (8 * ((b.take (1 + z)).drop i).length) ≤ 2 ^ 64 := Nat.pow_le_pow_right (by omega) (by rw [List.length_drop, List.length_take]; omega)
  have hv64 : valN ((b.take (1 + z)).drop i) < 18446744073709551616 := Nat.lt_of_lt_of_le hv h9
  have hr := rd_range hb i (by omega)
  have e0 : valN ((b.take (1 + z)).drop i) = (rd b (i : Int)).toNat + 256 * valN ((b.take (1 + z)).drop (i + 1)) := by
    rw [List.drop_eq_getElem_cons hlt, valN, List.getElem_take, rd_at b i (by omega)]
  clear hv h9
  rw [u64_wrap, u64_wrap]
  omega
theorem valN_U (b : List Int) (hb : Bytes b) (z : Nat) (hz : z ≤ 8) : valN ((b.take (1 + z)).drop 1) < 18446744073709551616 := by
  have hB : Bytes ((b.take (1 + z)).drop 1) := (hb.take _).drop _
  have hv := valN_lt _ hB
  have h9 : 2 ^ (8 * ((b.take (1 + z)).drop 1).length) ≤ 2 ^ 64 := Nat.pow_le_pow_right (by omega) (by rw [List.length_drop, List.length_take]; omega)
  exact Nat.lt_of_lt_of_le hv h9
theorem fin_take (b : List Int) (hb : Bytes b) (z : Nat) (hz : z ≤ 8) (hl : 1 + z ≤ b.length) (hr : rd b 0 = (z : Int)) : takeP b = if (strOfNums (numB (bk (valN ((b.take (1 + z)).drop 1))))).toList = (strOfNums (b.take (1 + z))).toList then (bk (valN ((b.take (1 + z)).drop 1)), 1 + z) else (0, 0) := by
  have hB : Bytes ((b.take (1 + z)).drop 1) := (hb.take _).drop _
  have hL : ((b.take (1 + z)).drop 1).length = z := by rw [List.length_drop, List.length_take]; omega
  have hv := valN_lt _ hB
  rw [hL] at hv
  have h9 : 2 ^ (8 * z) ≤ 2 ^ 64 := Nat.pow_le_pow_right (by omega) (by omega)
  have hv64 : valN ((b.take (1 + z)).drop 1) < 18446744073709551616 := Nat.lt_of_lt_of_le hv h9
  have hlt : (b.take (1 + z)).length = 1 + z := by rw [List.length_take]; omega
  have hcond := str_iff (numB_bytes (bk (valN ((b.take (1 + z)).drop 1))) (bk_range hv64)) (hb.take (1 + z))
  by_cases hc : numB (bk (valN ((b.take (1 + z)).drop 1))) = b.take (1 + z)
  · rw [if_pos (hcond.2 hc)]
    have h1 := take_num (bk (valN ((b.take (1 + z)).drop 1))) (bk_range hv64) (b.drop (1 + z))
    have h2 : 1 + szN (tn (bk (valN ((b.take (1 + z)).drop 1)))) = 1 + z := by rw [← numB_len, hc, hlt]
    rw [h2, hc, List.take_append_drop] at h1
    exact h1
  · rw [if_neg (fun h => hc (hcond.1 h))]
    have h0 : (takeP b).2 = 0 := by
      rcases Nat.eq_zero_or_pos (takeP b).2 with h | h
      · exact h
      · have h3 := take_back b hb (by omega)
        have h4 : takeP b = (bk (valN ((b.take (1 + z)).drop 1)), 1 + z) := by
          revert h
          unfold takeP
          rw [hr]
          have e : (((z : Nat) : Int)).toNat = z := by omega
          rw [e]
          split
          · intro h; simp at h
          · split
            · intro h; simp at h
            · split
              · intro h; simp at h
              · split
                · intro h; simp at h
                · intro _; rfl
        rw [h4] at h3
        have h5 := congrArg (List.take (1 + z)) h3.1
        simp only at h5
        have h6 : (numB (bk (valN ((b.take (1 + z)).drop 1)))).length = 1 + z := by
          have h7 := congrArg List.length h3.1
          simp only [List.length_append, List.length_drop] at h7
          omega
        rw [List.take_append_of_le_length (by omega), List.take_of_length_le (by omega)] at h5
        exact absurd h5 hc
    exact Prod.ext (takeP_zero b h0) h0
def numsP : Nat → List Int → Int → List Int → List Int × Bool
  | 0, _, _, _ => ([], false)
  | k + 1, b, most, x => if b.length = 0 then (if 0 < x.length ∧ most < (x.length : Int) then ([], false) else (x, true)) else if (takeP b).2 = 0 then ([], false) else numsP k (b.drop (takeP b).2) most (x ++ [(takeP b).1])
theorem nums_many : ∀ (n : Nat) (b x : List Int) (most : Int) (K : Nat), b.length ≤ n → Bytes b → n < K → most < (x.length : Int) → 0 < x.length → numsP K b most x = ([], false)
  | n, b, x, most, K, hn, hb, hK, hm, hx => by
    obtain ⟨k, rfl⟩ : ∃ k, K = k + 1 := ⟨K - 1, by omega⟩
    rw [numsP]
    by_cases c1 : b.length = 0
    · rw [if_pos c1, if_pos ⟨hx, hm⟩]
    · rw [if_neg c1]
      by_cases c2 : (takeP b).2 = 0
      · rw [if_pos c2]
      · have h3 := take_back b hb c2
        have hd : (b.drop (takeP b).2).length = b.length - (takeP b).2 := List.length_drop
        rw [if_neg c2]
        match n, hn with
        | 0, hn => omega
        | n + 1, hn => exact nums_many n (b.drop (takeP b).2) (x ++ [(takeP b).1]) most k (by omega) (hb.drop _) (by omega) (by simp only [List.length_append, List.length_singleton]; omega) (by simp)
theorem nums_both : ∀ (n : Nat) (b x : List Int) (most : Int) (K L : Nat), b.length ≤ n → Bytes b → n + 32 ≤ K → n < L → (x = [] ∨ (x.length : Int) ≤ most) → x.length + b.length ≤ 1000000 →
    frame_Nums.l0 K b most x = some ((numsP L b most x).1, if (numsP L b most x).2 = true then none else some 3) ∧ (numsP L b most x).1.length ≤ 1000000
  | n, b, x, most, K, L, hn, hb, hK, hL, hm, hl => by
    obtain ⟨k, rfl⟩ : ∃ k, K = k + 1 := ⟨K - 1, by omega⟩
    obtain ⟨l, rfl⟩ : ∃ l, L = l + 1 := ⟨L - 1, by omega⟩
    rw [numsP, frame_Nums.l0]
    by_cases c1 : b.length = 0
    · rw [if_pos c1, if_neg (by omega), if_neg ?_]
      · exact ⟨rfl, by simp only; omega⟩
      · rintro ⟨h1, h2⟩
        rcases hm with h | h
        · rw [h] at h1
          simp at h1
        · omega
    · rw [if_neg c1, if_pos (by omega), take_f b hb (by omega) k (by omega), Option.bind_some]
      by_cases c2 : (takeP b).2 = 0
      · rw [if_pos c2, if_pos (by simp only; omega)]
        exact ⟨rfl, by simp⟩
      · have h3 := take_back b hb c2
        have hd : (b.drop (takeP b).2).length = b.length - (takeP b).2 := List.length_drop
        rw [if_neg c2, if_neg (by simp only; omega)]
        by_cases c3 : most ≤ (x.length : Int)
        · rw [if_pos c3]
          match n, hn with
          | 0, hn => omega
          | n + 1, hn =>
            rw [nums_many n (b.drop (takeP b).2) (x ++ [(takeP b).1]) most l (by omega) (hb.drop _) (by omega) (by simp only [List.length_append, List.length_singleton]; omega) (by simp)]
            exact ⟨rfl, by simp⟩
        · rw [if_neg c3, if_pos (by omega), if_pos (by omega), if_pos (by omega)]
          simp only [Int.toNat_natCast]
          match n, hn with
          | 0, hn => omega
          | n + 1, hn => exact nums_both n (b.drop (takeP b).2) (x ++ [(takeP b).1]) most k l (by omega) (hb.drop _) (by omega) (by omega) (.inr (by simp only [List.length_append, List.length_singleton]; omega)) (by simp only [List.length_append, List.length_singleton]; omega)
end Go.Proofs.Ytbbhdohjhipalaa.PNoteReads
end
section
namespace Go.Proofs.Ytbbhdohjhipalaa.PNoteReads
open Go.RowKit Go.Proofs.YtbbhdohjhipalaaW.PrintWords Go.Proofs.YtbbhdohjhipalaaW.PrintLast Go.Proofs.YtbbhdohjhipalaaW.PrintMore
set_option linter.unusedVariables false
set_option linter.unusedSimpArgs false
mutual
def estuaryref04_Sum.l0 : Nat → List Int → Int → Int → Option (Int)
  | 0, _, _, _ => none
  | k + 1, x0, x3, x4 => if x4 < (x0.length : Int) then (estuaryref04_Sum.l1 k x0 (IntKind.u64.wrap (x3 - (Int.tmod x3 256))) x4 (Int.tmod x3 256) 0) else (some ((x3) % 4294967296))
def estuaryref04_Sum.l1 : Nat → List Int → Int → Int → Int → Int → Option (Int)
  | 0, _, _, _, _, _ => none
  | k + 1, x0, x3, x4, x5, x6 => if x6 < 8 then (if 0 ≤ (IntKind.u64.wrap (x6)) then (if (shl .u64 1 (IntKind.u64.wrap (x6))) = 0 then (none) else (if 0 ≤ x4 then (if x4 < (x0.length : Int) then (if (Int.tmod (IntKind.u64.wrap (Int.tdiv x5 (shl .u64 1 (IntKind.u64.wrap (x6))))) 2) = (Int.tmod (IntKind.u64.wrap (Int.tdiv (IntKind.u64.wrap (rd x0 x4)) (shl .u64 1 (IntKind.u64.wrap (x6))))) 2) then (estuaryref04_Sum.l1 k x0 x3 x4 x5 (wrap64 (x6 + 1))) else (estuaryref04_Sum.l1 k x0 (IntKind.u64.wrap (x3 + (shl .u64 1 (IntKind.u64.wrap (x6))))) x4 x5 (wrap64 (x6 + 1)))) else (none)) else (none))) else (none)) else (estuaryref04_Sum.l0 k x0 (Int.tmod (IntKind.u64.wrap (x3 * 16777619)) 4294967296) (wrap64 (x4 + 1)))
end
def estuaryref04_Sum.f (k : Nat) (l0 : List Int) : Option (Int) := estuaryref04_Sum.l0 k l0 2166136261 0
set_option maxHeartbeats 8000000 in
set_option maxRecDepth 100000 in
theorem estuaryref04_Sum.calls (k : Nat) (A0 : Option Addr) (c0 : Nat) (l0 : List Int) (r : Int) (w : World) (hr0 : Kd.C (Kd.int .u8) w A0 l0.length l0) (hc0 : l0.length ≤ c0) (h : estuaryref04_Sum.f k l0 = some r) :
    Calls Try.prog 52 #[.slice A0 l0.length c0] w fun e w' => e = .returned (.int .u32 r) ∧ Drawn0 w w' := by
  have HR0 := Aside0.mk hr0
  have HC0 := Aside0.mk hc0
  clear hr0 hc0
  have H : (estuaryref04_Sum.l0 k l0 2166136261 0) = some r := h
  clear h
  have H' := Aside0.mk H
  clear H
  go_enter Try.func52, Try.ntmps52
  go_wp2
  repeat (go_quiet (fail); try go_wp2)
  go_loopg [3, 4] k (fun kq v3 v4 w' => ∃ (x3_1 : Int) (x4_1 : Int), v3 = .int .u64 x3_1 ∧ v4 = .int .i64 x4_1 ∧ Aside0 (estuaryref04_Sum.l0 kq l0 x3_1 x4_1 = some r) ∧ Aside0 (kq ≤ k) ∧ Drawn0 w w')
  case atStart => exact ⟨(2166136261), (0), (by first | rfl | (simp; done) | (simp [*]; done)), (by first | rfl | (simp; done) | (simp [*]; done)), H', ⟨Nat.le_refl _⟩, by repeat (first | exact Drawn0.refl _ | apply Drawn0.step)⟩
  case round =>
    clear H'
    obtain ⟨x3_1, x4_1, rfl, rfl, HA, HK1, ⟨m1, rfl⟩⟩ := hrel
    cases gk with
    | zero => exact absurd HA.out (by simp [estuaryref04_Sum.l0])
    | succ k1 =>
      have H := HA.out
      clear HA
      simp only [estuaryref04_Sum.l0] at H
      by_cases c2 : x4_1 < (l0.length : Int)
      · rw [if_pos c2] at H
        have c2b0 : decide (x4_1 < (l0.length : Int)) = true := decide_eq_true c2
        clear c2
        have H' := Aside0.mk H
        clear H
        go_wp2
        repeat (go_quiet (fail); try go_wp2)
        go_loopg [3, 6] k1 (fun kq v3 v6 w' => ∃ (x3_2 : Int) (x6_2 : Int), v3 = .int .u64 x3_2 ∧ v6 = .int .i64 x6_2 ∧ Aside0 (estuaryref04_Sum.l1 kq l0 x3_2 x4_1 (Int.tmod x3_1 256) x6_2 = some r) ∧ Aside0 (kq ≤ k1) ∧ Drawn0 w w')
        case atStart => exact ⟨(IntKind.u64.wrap (x3_1 - (Int.tmod x3_1 256))), (0), (by first | rfl | (simp; done) | (simp [*]; done)), (by first | rfl | (simp; done) | (simp [*]; done)), H', ⟨Nat.le_refl _⟩, by repeat (first | exact Drawn0.refl _ | apply Drawn0.step)⟩
        case round =>
          clear H'
          try clear c2
          try clear c2b0
          try clear p2
          obtain ⟨x3_2, x6_2, rfl, rfl, HA, HK2, ⟨m2, rfl⟩⟩ := hrel
          cases gk with
          | zero => exact absurd HA.out (by simp [estuaryref04_Sum.l1])
          | succ k2 =>
            have H := HA.out
            clear HA
            simp only [estuaryref04_Sum.l1] at H
            by_cases c3 : x6_2 < 8
            · rw [if_pos c3] at H
              have c3b0 : decide (x6_2 < 8) = true := decide_eq_true c3
              clear c3
              obtain ⟨ji4, hji4⟩ : ∃ j_ : Int, (IntKind.u64.wrap (x6_2)) = j_ := ⟨_, rfl⟩
              replace H : (if 0 ≤ (ji4) then (if (shl .u64 1 (ji4)) = 0 then (none) else (if 0 ≤ x4_1 then (if x4_1 < (l0.length : Int) then (if (Int.tmod (IntKind.u64.wrap (Int.tdiv (Int.tmod x3_1 256) (shl .u64 1 (ji4)))) 2) = (Int.tmod (IntKind.u64.wrap (Int.tdiv (IntKind.u64.wrap (rd l0 x4_1)) (shl .u64 1 (ji4)))) 2) then (estuaryref04_Sum.l1 k2 l0 x3_2 x4_1 (Int.tmod x3_1 256) (wrap64 (x6_2 + 1))) else (estuaryref04_Sum.l1 k2 l0 (IntKind.u64.wrap (x3_2 + (shl .u64 1 (ji4)))) x4_1 (Int.tmod x3_1 256) (wrap64 (x6_2 + 1)))) else (none)) else (none))) else (none)) = some r := by first | (rw [hji4] at H; exact H) | (simp only [hji4] at H ⊢; exact H)
              by_cases c5 : 0 ≤ (ji4)
              · rw [if_pos c5] at H
                have c5b0 := eq_true c5
                have c5b1 : decide (0 ≤ (ji4)) = true := decide_eq_true c5
                clear c5
                obtain ⟨ji6, hji6⟩ : ∃ j_ : Int, (shl .u64 1 (ji4)) = j_ := ⟨_, rfl⟩
                replace H : (if (ji6) = 0 then (none) else (if 0 ≤ x4_1 then (if x4_1 < (l0.length : Int) then (if (Int.tmod (IntKind.u64.wrap (Int.tdiv (Int.tmod x3_1 256) (ji6))) 2) = (Int.tmod (IntKind.u64.wrap (Int.tdiv (IntKind.u64.wrap (rd l0 x4_1)) (ji6))) 2) then (estuaryref04_Sum.l1 k2 l0 x3_2 x4_1 (Int.tmod x3_1 256) (wrap64 (x6_2 + 1))) else (estuaryref04_Sum.l1 k2 l0 (IntKind.u64.wrap (x3_2 + (ji6))) x4_1 (Int.tmod x3_1 256) (wrap64 (x6_2 + 1)))) else (none)) else (none))) = some r := by first | (rw [hji6] at H; exact H) | (simp only [hji6] at H ⊢; exact H)
                have hji6_ : (IntKind.u64.wrap (1 * 2 ^ min (ji4).toNat 64)) = ji6 := hji6
                have hji6z : (ji4) ≤ 64 → (IntKind.u64.wrap (1 * 2 ^ (ji4).toNat)) = ji6 := shl_small hji6
                have hji6u : (IntKind.u64.wrap (2 ^ min (ji4).toNat 64)) = ji6 := by have h_ := hji6_; rw [Int.one_mul] at h_; exact h_
                have hji6v : (ji4) ≤ 64 → (IntKind.u64.wrap (2 ^ (ji4).toNat)) = ji6 := fun hle_ => by have h_ := hji6z hle_; rw [Int.one_mul] at h_; exact h_
                by_cases c7 : (ji6) = 0
                · rw [if_pos c7] at H
                  exact absurd H (by simp)
                · rw [if_neg c7] at H
                  have c7b0 : ((ji6) == 0) = false := beq_eq_false_iff_ne.mpr c7
                  have c7b1 : ((ji6) != 0) = true := bne_iff_ne.mpr c7
                  by_cases c8 : 0 ≤ x4_1
                  · rw [if_pos c8] at H
                    have c8b0 : decide (0 ≤ x4_1) = true := decide_eq_true c8
                    clear c8
                    by_cases c9 : x4_1 < (l0.length : Int)
                    · rw [if_pos c9] at H
                      have c9b0 : decide (x4_1 < (l0.length : Int)) = true := decide_eq_true c9
                      clear c9
                      by_cases c10 : (Int.tmod (IntKind.u64.wrap (Int.tdiv (Int.tmod x3_1 256) (ji6))) 2) = (Int.tmod (IntKind.u64.wrap (Int.tdiv (IntKind.u64.wrap (rd l0 x4_1)) (ji6))) 2)
                      · rw [if_pos c10] at H
                        have c10b0 : ((Int.tmod (IntKind.u64.wrap (Int.tdiv (Int.tmod x3_1 256) (ji6))) 2) == (Int.tmod (IntKind.u64.wrap (Int.tdiv (IntKind.u64.wrap (rd l0 x4_1)) (ji6))) 2)) = true := beq_iff_eq.mpr c10
                        have c10b1 : ((Int.tmod (IntKind.u64.wrap (Int.tdiv (Int.tmod x3_1 256) (ji6))) 2) != (Int.tmod (IntKind.u64.wrap (Int.tdiv (IntKind.u64.wrap (rd l0 x4_1)) (ji6))) 2)) = false := bne_eq_false_iff_eq.mpr c10
                        clear c10
                        have H' := Aside0.mk H
                        clear H
                        have p166 : 0 ≤ (x4_1 : Int) := of_decide_eq_true (by first | (with_reducible assumption) | assumption)
                        have q166 : x4_1 < (l0.length : Int) := of_decide_eq_true (by first | (with_reducible assumption) | assumption)
                        obtain ⟨ad166, e166, hx166_0⟩ := Kd.at_int HR0.out x4_1 p166 q166
                        cases e166
                        replace p166 := eq_true p166
                        replace q166 := eq_true q166
                        go_wp2
                        repeat (go_quiet (fail); try go_wp2)
                        go_roundg k2
                        case measure => have := HK1.out; have := HK2.out; omega
                        case rel => exact ⟨(x3_2), (wrap64 (x6_2 + 1)), (by first | rfl | (simp; done) | (simp [*]; done)), (by first | rfl | (simp; done) | (simp [*]; done)), H', ⟨by have := HK1.out; have := HK2.out; omega⟩, by repeat (first | exact Drawn0.refl _ | apply Drawn0.step)⟩
                      · rw [if_neg c10] at H
                        have c10b0 : ((Int.tmod (IntKind.u64.wrap (Int.tdiv (Int.tmod x3_1 256) (ji6))) 2) == (Int.tmod (IntKind.u64.wrap (Int.tdiv (IntKind.u64.wrap (rd l0 x4_1)) (ji6))) 2)) = false := beq_eq_false_iff_ne.mpr c10
                        have c10b1 : ((Int.tmod (IntKind.u64.wrap (Int.tdiv (Int.tmod x3_1 256) (ji6))) 2) != (Int.tmod (IntKind.u64.wrap (Int.tdiv (IntKind.u64.wrap (rd l0 x4_1)) (ji6))) 2)) = true := bne_iff_ne.mpr c10
                        have H' := Aside0.mk H
                        clear H
                        have p166 : 0 ≤ (x4_1 : Int) := of_decide_eq_true (by first | (with_reducible assumption) | assumption)
                        have q166 : x4_1 < (l0.length : Int) := of_decide_eq_true (by first | (with_reducible assumption) | assumption)
                        obtain ⟨ad166, e166, hx166_0⟩ := Kd.at_int HR0.out x4_1 p166 q166
                        cases e166
                        replace p166 := eq_true p166
                        replace q166 := eq_true q166
                        go_wp2
                        repeat (go_quiet (fail); try go_wp2)
                        go_roundg k2
                        case measure => have := HK1.out; have := HK2.out; omega
                        case rel => exact ⟨(IntKind.u64.wrap (x3_2 + (ji6))), (wrap64 (x6_2 + 1)), (by first | rfl | (simp; done) | (simp only [← hji6] <;> (first | rfl | simp)) | (simp [*]; done)), (by first | rfl | (simp; done) | (simp [*]; done)), H', ⟨by have := HK1.out; have := HK2.out; omega⟩, by repeat (first | exact Drawn0.refl _ | apply Drawn0.step)⟩
                    · rw [if_neg c9] at H
                      exact absurd H (by simp)
                  · rw [if_neg c8] at H
                    exact absurd H (by simp)
              · rw [if_neg c5] at H
                exact absurd H (by simp)
            · rw [if_neg c3] at H
              have c3b0 : decide (x6_2 < 8) = false := decide_eq_false c3
              clear c3
              have H' := Aside0.mk H
              clear H
              go_wp2
              repeat (go_quiet (fail); try go_wp2)
              go_roundg k2
              case measure => have := HK1.out; have := HK2.out; omega
              case rel => exact ⟨(Int.tmod (IntKind.u64.wrap (x3_2 * 16777619)) 4294967296), (wrap64 (x4_1 + 1)), (by first | rfl | (simp; done) | (simp [*]; done)), (by first | rfl | (simp; done) | (simp [*]; done)), H', ⟨by have := HK1.out; have := HK2.out; omega⟩, by repeat (first | exact Drawn0.refl _ | apply Drawn0.step)⟩
      · rw [if_neg c2] at H
        have c2b0 : decide (x4_1 < (l0.length : Int)) = false := decide_eq_false c2
        clear c2
        obtain rfl := Option.some.inj H
        go_wp2
        repeat (go_quiet (fail); try go_wp2)
        go_ret
        exact ⟨by first | rfl | (simp; done) | (simp [*]; done), by repeat (first | exact Drawn0.refl _ | apply Drawn0.step)⟩
def estuaryref04_four.f (a0 : Int) : Option (List Int) := some (([(a0) % 256, ((Int.tdiv a0 256) % 4294967296) % 256, ((Int.tdiv a0 65536) % 4294967296) % 256, ((Int.tdiv a0 16777216) % 4294967296) % 256] : List Int))
set_option maxHeartbeats 8000000 in
set_option maxRecDepth 100000 in
theorem estuaryref04_four.calls (a0 : Int) (r : List Int) (w : World) (h : estuaryref04_four.f a0 = some r) :
    Calls Try.prog 51 #[.int .u32 a0] w fun e w' => ∃ v0_ : Value, e = .returned (v0_) ∧ Kd.R (Kd.int .u8) 5 w' w.heap.size (fun _ => True) v0_ r ∧ Below w.heap.size w w' := by
  have HB := Aside0.mk (Below.refl w.heap.size w)
  have H : (some (([(a0) % 256, ((Int.tdiv a0 256) % 4294967296) % 256, ((Int.tdiv a0 65536) % 4294967296) % 256, ((Int.tdiv a0 16777216) % 4294967296) % 256] : List Int))) = some r := h
  clear h
  obtain ⟨y163, hy163⟩ : ∃ y_ : List Int, y_ = (([(a0) % 256, ((Int.tdiv a0 256) % 4294967296) % 256, ((Int.tdiv a0 65536) % 4294967296) % 256, ((Int.tdiv a0 16777216) % 4294967296) % 256] : List Int)) := ⟨_, rfl⟩
  replace H : (some y163) = some r := by first | (rw [hy163]; with_reducible exact H) | (have H2_ := (Option.bind_some _ _).symm.trans H; rw [hy163]; with_reducible exact H2_) | (have H2_ := (Option.bind_some _ _).symm.trans H; with_reducible exact H2_) | with_reducible exact H | (rw [hy163]; exact H) | exact H
  have Ny163 := Aside0.mk hy163
  clear hy163
  obtain rfl := Option.some.inj H
  go_enter Try.func51, Try.ntmps51
  go_wp2_with (first | ((with_reducible refine gate_dst (N := 14) rfl ?_); refine Kd.R_lit (Kd.int .u8) _ 5 ?hg (N := 14) ?hd (xs := ([(a0) % 256, ((Int.tdiv a0 256) % 4294967296) % 256, ((Int.tdiv a0 65536) % 4294967296) % 256, ((Int.tdiv a0 16777216) % 4294967296) % 256] : List Int)) (inner := [.int .u8 ((a0) % 256), .int .u8 (((Int.tdiv a0 256) % 4294967296) % 256), .int .u8 (((Int.tdiv a0 65536) % 4294967296) % 256), .int .u8 (((Int.tdiv a0 16777216) % 4294967296) % 256)]) (ok := fun _ => True) (okp := fun _ => True) ?hr ?hp (fun _ hk => hk) trivial (Below.refl _ _) (Nat.le_refl _) (by simp) ?_; (case hd => rfl); (case hg => rfl); (case hr => first | (go_simp; done) | (go_simp; rfl)); (case hp => exact (Reps.one (show Kd.M (Kd.int .u8) _ _ _ ((a0) % 256) [.int .u8 ((a0) % 256)] from rfl) (Reps.one (show Kd.M (Kd.int .u8) _ _ _ (((Int.tdiv a0 256) % 4294967296) % 256) [.int .u8 (((Int.tdiv a0 256) % 4294967296) % 256)] from rfl) (Reps.one (show Kd.M (Kd.int .u8) _ _ _ (((Int.tdiv a0 65536) % 4294967296) % 256) [.int .u8 (((Int.tdiv a0 65536) % 4294967296) % 256)] from rfl) (Reps.one (show Kd.M (Kd.int .u8) _ _ _ (((Int.tdiv a0 16777216) % 4294967296) % 256) [.int .u8 (((Int.tdiv a0 16777216) % 4294967296) % 256)] from rfl) (Reps.none _ _)))))); intro v164 w2 ho3 hb hg_ hnew_; clear hg_ hnew_; (first | rw [← Ny163.out] at ho3 | (simp only [Int.reduceToNat] at ho3; rw [← Ny163.out] at ho3)); have n0_ := Aside0.mk (Kd.R_lower ho3 (below_size (by repeat (first | (with_reducible first | exact HB.out | apply below_alloc | apply pw_below_drewN | apply below_drew1) | exact HB.out)))); have n1_ := Aside0.mk (below_step (by repeat (first | (with_reducible first | exact HB.out | apply below_alloc | apply pw_below_drewN | apply below_drew1) | exact HB.out)) hb); clear HB; have HO165 := n0_; have HB := n1_; clear n0_ n1_; clear hb ho3))
  go_ret
  exact ⟨_, by first | rfl | (simp [errW_none, errW_some] <;> rfl) | (simp [*, errW_none, errW_some] <;> rfl), by (with_reducible repeat (first | apply Kd.R_alloc | apply Kd.R_drewN | apply Kd.R_drew)); exact HO165.out, by repeat (first | (with_reducible first | exact HB.out | apply below_alloc | apply pw_below_drewN | apply below_drew1) | exact HB.out)⟩
def estuaryref04_Wrap.f (k : Nat) (l0 : List Int) : Option (List Int × Int) := if (l0.length : Int) > 16376 then (some (([] : List Int), 7)) else ((estuaryref04_four.f (((l0.length : Int)) % 4294967296)).bind fun t167 => ((estuaryref04_Sum.f k l0).bind fun t170 => ((estuaryref04_four.f t170).bind fun t171 => (if t167.length + t171.length < 140737488355328 then ((some (t167 ++ t171 : List Int)).bind fun y174 => (if y174.length + l0.length < 140737488355328 then (some ((y174 ++ l0), 0)) else (none))) else (none)))))
set_option maxHeartbeats 8000000 in
set_option maxRecDepth 100000 in
theorem estuaryref04_Wrap.calls (k : Nat) (A0 : Option Addr) (c0 : Nat) (l0 : List Int) (r1 : List Int) (r2 : Int) (w : World) (hr0 : Kd.C (Kd.int .u8) w A0 l0.length l0) (hc0 : l0.length ≤ c0) (h : estuaryref04_Wrap.f k l0 = some (r1, r2)) :
    Calls Try.prog 30 #[.slice A0 l0.length c0] w fun e w' => ∃ v0_ : Value, e = .returned (.tuple #[v0_, .int .i64 r2]) ∧ Kd.R (Kd.int .u8) 5 w' w.heap.size (fun _ => True) v0_ r1 ∧ Below w.heap.size w w' := by
  have HR0 := Aside0.mk hr0
  have HC0 := Aside0.mk hc0
  clear hr0 hc0
  have HB := Aside0.mk (Below.refl w.heap.size w)
  have H : (if (l0.length : Int) > 16376 then (some (([] : List Int), 7)) else ((estuaryref04_four.f (((l0.length : Int)) % 4294967296)).bind fun t167 => ((estuaryref04_Sum.f k l0).bind fun t170 => ((estuaryref04_four.f t170).bind fun t171 => (if t167.length + t171.length < 140737488355328 then ((some (t167 ++ t171 : List Int)).bind fun y174 => (if y174.length + l0.length < 140737488355328 then (some ((y174 ++ l0), 0)) else (none))) else (none)))))) = some (r1, r2) := h
  clear h
  by_cases c2 : (l0.length : Int) > 16376
  · rw [if_pos c2] at H
    have c2b0 : decide (16376 < (l0.length : Int)) = true := decide_eq_true c2
    have c2b1 : decide (16376 < l0.length) = true := decide_eq_true (by omega)
    clear c2
    simp only [Option.some.injEq, Prod.mk.injEq] at H
    obtain ⟨rfl, rfl⟩ := H
    go_enter Try.func30, Try.ntmps30
    go_wp2
    go_ret2
    exact ⟨_, by first | rfl | (simp [errW_none, errW_some] <;> rfl) | (simp [*, errW_none, errW_some] <;> rfl), by first | exact Kd.R_nil _ _ _ _ _ | exact Kd.N_nil _ _ _ _ _ | exact Kd.V_nil _ _ _ _ _ | exact Kd.Q_nil _ _ _ _ _ | exact Kd.S_nil _ _ _ _ _, by repeat (first | (with_reducible first | exact HB.out | apply below_alloc | apply pw_below_drewN | apply below_drew1) | exact HB.out)⟩
  · rw [if_neg c2] at H
    have c2b0 : decide (16376 < (l0.length : Int)) = false := decide_eq_false c2
    have c2b1 : decide (16376 < l0.length) = false := decide_eq_false (by omega)
    clear c2
    replace H := Option.bind_eq_some_iff.mp H
    obtain ⟨t167, A30, H⟩ := H
    replace H : ((estuaryref04_Sum.f k l0).bind fun t170 => ((estuaryref04_four.f t170).bind fun t171 => (if t167.length + t171.length < 140737488355328 then ((some (t167 ++ t171 : List Int)).bind fun y174 => (if y174.length + l0.length < 140737488355328 then (some ((y174 ++ l0), 0)) else (none))) else (none)))) = some (r1, r2) := H
    have A3 := Aside0.mk A30
    clear A30
    replace H := Option.bind_eq_some_iff.mp H
    obtain ⟨t170, A40, H⟩ := H
    replace H : ((estuaryref04_four.f t170).bind fun t171 => (if t167.length + t171.length < 140737488355328 then ((some (t167 ++ t171 : List Int)).bind fun y174 => (if y174.length + l0.length < 140737488355328 then (some ((y174 ++ l0), 0)) else (none))) else (none))) = some (r1, r2) := H
    have A4 := Aside0.mk A40
    clear A40
    replace H := Option.bind_eq_some_iff.mp H
    obtain ⟨t171, A50, H⟩ := H
    replace H : (if t167.length + t171.length < 140737488355328 then ((some (t167 ++ t171 : List Int)).bind fun y174 => (if y174.length + l0.length < 140737488355328 then (some ((y174 ++ l0), 0)) else (none))) else (none)) = some (r1, r2) := H
    have A5 := Aside0.mk A50
    clear A50
    by_cases c6 : t167.length + t171.length < 140737488355328
    · rw [if_pos c6] at H
      have LMc6 := Aside0.mk c6
      clear c6
      obtain ⟨y174, hy174⟩ : ∃ y_ : List Int, y_ = (t167 ++ t171) := ⟨_, rfl⟩
      replace H : (if y174.length + l0.length < 140737488355328 then (some ((y174 ++ l0), 0)) else (none)) = some (r1, r2) := by first | (rw [hy174]; with_reducible exact H) | (have H2_ := (Option.bind_some _ _).symm.trans H; rw [hy174]; with_reducible exact H2_) | (have H2_ := (Option.bind_some _ _).symm.trans H; with_reducible exact H2_) | with_reducible exact H | (rw [hy174]; exact H) | exact H
      have Ny174 := Aside0.mk hy174
      clear hy174
      by_cases c7 : y174.length + l0.length < 140737488355328
      · rw [if_pos c7] at H
        have LMc7 := Aside0.mk c7
        clear c7
        obtain ⟨y177, hy177⟩ : ∃ y_ : List Int, y_ = (y174 ++ l0) := ⟨_, rfl⟩
        replace H : (some (y177, 0)) = some (r1, r2) := by first | (rw [hy177]; with_reducible exact H) | (have H2_ := (Option.bind_some _ _).symm.trans H; rw [hy177]; with_reducible exact H2_) | (have H2_ := (Option.bind_some _ _).symm.trans H; with_reducible exact H2_) | with_reducible exact H | (rw [hy177]; exact H) | exact H
        have Ny177 := Aside0.mk hy177
        clear hy177
        simp only [Option.some.injEq, Prod.mk.injEq] at H
        obtain ⟨rfl, rfl⟩ := H
        go_enter Try.func30, Try.ntmps30
        go_wp2_with (first | ((with_reducible refine gate_callee (f := 51) rfl ?_); refine goesL_ (some 11) rfl rfl Try.func51 (by kernel_rfl) rfl #[.int .u32 (((l0.length : Int)) % 4294967296)] rfl (by (try simp only [List.map_toArray, List.map_cons, List.map_nil]); first | done | rfl | (simp only [List.length_drop, List.length_take]; rfl)) ?_; (with_reducible refine (estuaryref04_four.calls (((l0.length : Int)) % 4294967296) t167 _ A3.out).mono ?_); rintro e w8 ⟨v168, rfl, ho0, hb⟩; refine ⟨_, rfl, ?_⟩; have n0_ := Aside0.mk (Kd.R_lower ho0 (below_size (by repeat (first | (with_reducible first | exact HB.out | apply below_alloc | apply pw_below_drewN | apply below_drew1) | exact HB.out)))); have n1_ := Aside0.mk (below_step (by repeat (first | (with_reducible first | exact HB.out | apply below_alloc | apply pw_below_drewN | apply below_drew1) | exact HB.out)) hb); clear HB; have HO169 := n0_; have HB := n1_; clear n0_ n1_; (try clear hb); (try clear hb2); (try clear hk); (try clear hi); (try clear ho0)) | ((with_reducible refine gate_callee (f := 52) rfl ?_); refine goesL_ (some 13) rfl rfl Try.func52 (by kernel_rfl) rfl #[.slice A0 l0.length c0] rfl (by (try simp only [List.map_toArray, List.map_cons, List.map_nil]); first | done | rfl | (simp only [List.length_drop, List.length_take]; rfl)) ?_; (with_reducible refine (estuaryref04_Sum.calls k _ _ l0 t170 _ ?side1 ?side2 A4.out).mono ?_); (case side1 => repeat (first | exact (Kd.C_below HR0.out HB.out) | (with_reducible refine Kd.C_alloc ?_ _) | (with_reducible refine Kd.C_drewN ?_ _) | (with_reducible refine Kd.C_drew ?_))); (case side2 => exact HC0.out); rintro e w' ⟨rfl, ⟨nd, rfl⟩⟩; refine ⟨_, rfl, ?_⟩) | ((with_reducible refine gate_callee (f := 51) rfl ?_); refine goesL_ (some 14) rfl rfl Try.func51 (by kernel_rfl) rfl #[.int .u32 t170] rfl (by (try simp only [List.map_toArray, List.map_cons, List.map_nil]); first | done | rfl | (simp only [List.length_drop, List.length_take]; rfl)) ?_; (with_reducible refine (estuaryref04_four.calls t170 t171 _ A5.out).mono ?_); rintro e w9 ⟨v172, rfl, ho0, hb⟩; refine ⟨_, rfl, ?_⟩; have n0_ := Aside0.mk (Kd.R_elder' (by (with_reducible repeat (first | apply Kd.R_alloc | apply Kd.R_drewN | apply Kd.R_drew)); exact HO169.out) (Kd.R_base ho0) hb); have n1_ := Aside0.mk (Kd.R_lower (Kd.R_new' ho0 (Kd.R_lt (by (with_reducible repeat (first | apply Kd.R_alloc | apply Kd.R_drewN | apply Kd.R_drew)); exact HO169.out))) (below_size (by repeat (first | (with_reducible first | exact HB.out | apply below_alloc | apply pw_below_drewN | apply below_drew1) | exact HB.out)))); have n2_ := Aside0.mk (below_step (by repeat (first | (with_reducible first | exact HB.out | apply below_alloc | apply pw_below_drewN | apply below_drew1) | exact HB.out)) hb); clear HO169; clear HB; have HO169 := n0_; have HO173 := n1_; have HB := n2_; clear n0_ n1_ n2_; (try clear hb); (try clear hb2); (try clear hk); (try clear hi); (try clear ho0); obtain ⟨Ao11, co11, eo11⟩ := Kd.R_slice HO173.out; subst eo11) | ((with_reducible refine gate_builtin (b := .append) (xs := #[.tmp 11, .tmp 14]) rfl ?_); at_builtin; refine Kd.R_append_rows (Kd.int .u8) (w0 := w) w.heap.size rfl (.tmp 11) (.tmp 14) 30 5 (.int .u8 0) 1 rfl Try.underlying30 info5 rfl (by decide) (by omega) v168 t167 t171 _ _ _ (fun k_ => some k_ ≠ (.slice Ao11 t171.length co11 : Value).ownBlock) (fun _ => False) rfl rfl ?aO ?aR (fun _ _ h => h) (fun _ h => h.elim) ?aF ?aB ?aS ?aL ?_; (case aR => repeat (first | exact (Kd.R_reads' HO173.out).2.2 | (with_reducible refine Kd.C_alloc ?_ _) | (with_reducible refine Kd.C_drewN ?_ _) | (with_reducible refine Kd.C_drew ?_))); (case aB => exact (by repeat (first | (with_reducible first | exact HB.out | apply below_alloc | apply pw_below_drewN | apply below_drew1) | exact HB.out))); (case aF => exact (fun k_ hk => Kd.fresh' (Kd.R_lt (by (with_reducible repeat (first | apply Kd.R_alloc | apply Kd.R_drewN | apply Kd.R_drew)); exact HO173.out)) k_ hk)); (case aO => exact (by (with_reducible repeat (first | apply Kd.R_alloc | apply Kd.R_drewN | apply Kd.R_drew)); exact Kd.R_mono HO169.out (fun _ hk => hk.2))); (case aS => exact (below_size (by repeat (first | (with_reducible first | exact HB.out | apply below_alloc | apply pw_below_drewN | apply below_drew1) | exact HB.out)))); (case aL => have := LMc6.out; omega); intro v175 w10 ho hb hg hat; rw [← Ny174.out] at ho; have n0_ := Aside0.mk (Kd.R_after (ok := (fun _ => True)) (by (with_reducible repeat (first | apply Kd.R_alloc | apply Kd.R_drewN | apply Kd.R_drew)); exact HO173.out) hg hat); have n1_ := Aside0.mk (hb); have n2_ := Aside0.mk (ho); clear HO173; clear HB; clear HO169; have HO173 := n0_; have HB := n1_; have HO176 := n2_; clear n0_ n1_ n2_; clear ho hb hg hat) | ((with_reducible refine gate_builtin (b := .append) (xs := #[.tmp 16, .tmp 17]) rfl ?_); at_builtin; refine Kd.R_append_rows (Kd.int .u8) (w0 := w) w.heap.size rfl (.tmp 16) (.tmp 17) 30 5 (.int .u8 0) 1 rfl Try.underlying30 info5 rfl (by decide) (by omega) v175 y174 l0 _ _ _ (fun k_ => some k_ ≠ (.slice Ao11 t171.length co11 : Value).ownBlock) (fun _ => False) rfl rfl ?aO ?aR (fun _ _ h => h) (fun _ h => h.elim) ?aF ?aB ?aS ?aL ?_; (case aR => repeat (first | exact (Kd.C_below HR0.out HB.out) | (with_reducible refine Kd.C_alloc ?_ _) | (with_reducible refine Kd.C_drewN ?_ _) | (with_reducible refine Kd.C_drew ?_))); (case aB => exact (by repeat (first | (with_reducible first | exact HB.out | apply below_alloc | apply pw_below_drewN | apply below_drew1) | exact HB.out))); (case aF => exact (fun k_ hk => Kd.fresh' (Kd.R_lt (by (with_reducible repeat (first | apply Kd.R_alloc | apply Kd.R_drewN | apply Kd.R_drew)); exact HO173.out)) k_ hk)); (case aO => exact (by (with_reducible repeat (first | apply Kd.R_alloc | apply Kd.R_drewN | apply Kd.R_drew)); exact HO176.out)); (case aS => exact (below_size (by repeat (first | (with_reducible first | exact HB.out | apply below_alloc | apply pw_below_drewN | apply below_drew1) | exact HB.out)))); (case aL => have := LMc7.out; omega); intro v178 w12 ho hb hg hat; rw [← Ny177.out] at ho; have n0_ := Aside0.mk (Kd.R_after (ok := (fun _ => True)) (by (with_reducible repeat (first | apply Kd.R_alloc | apply Kd.R_drewN | apply Kd.R_drew)); exact HO173.out) hg hat); have n1_ := Aside0.mk (hb); have n2_ := Aside0.mk (ho); clear HO173; clear HB; clear HO176; have HO173 := n0_; have HB := n1_; have HO179 := n2_; clear n0_ n1_ n2_; clear ho hb hg hat))
        go_ret2
        exact ⟨_, by first | rfl | (simp [errW_none, errW_some] <;> rfl) | (simp [*, errW_none, errW_some] <;> rfl), by (with_reducible repeat (first | apply Kd.R_alloc | apply Kd.R_drewN | apply Kd.R_drew)); exact Kd.R_mono HO179.out (fun _ hk => trivial), by repeat (first | (with_reducible first | exact HB.out | apply below_alloc | apply pw_below_drewN | apply below_drew1) | exact HB.out)⟩
      · rw [if_neg c7] at H
        exact absurd H (by simp)
    · rw [if_neg c6] at H
      exact absurd H (by simp)
end Go.Proofs.Ytbbhdohjhipalaa.PNoteReads
end
section
namespace Go.Proofs.Ytbbhdohjhipalaa.PNoteReads
open Go.RowKit Go.Proofs.YtbbhdohjhipalaaW.PrintWords Go.Proofs.YtbbhdohjhipalaaW.PrintLast Go.Proofs.YtbbhdohjhipalaaW.PrintMore
open Go.Proofs.Ytbbhdohjhipalaa.Flow
set_option linter.unusedVariables false
set_option linter.unusedSimpArgs false
theorem u64_w (x : Int) : IntKind.u64.wrap x = x % 18446744073709551616 := by simp [IntKind.wrap, IntKind.bits, IntKind.signed]
theorem shl_one (i : Nat) (hi : i ≤ 8) : shl .u64 1 (IntKind.u64.wrap (i : Int)) = ((2 ^ i : Nat) : Int) := by
  have e : IntKind.u64.wrap (i : Int) = (i : Int) := by rw [u64_w]; omega
  rw [e]
  match i, hi with
  | 0, _ => rfl
  | 1, _ => rfl
  | 2, _ => rfl
  | 3, _ => rfl
  | 4, _ => rfl
  | 5, _ => rfl
  | 6, _ => rfl
  | 7, _ => rfl
  | 8, _ => rfl
  | i + 9, h => omega
theorem xor_high (s c : Nat) (hc : c < 256) : s ^^^ c = (s - s % 256) + (s % 256 ^^^ c) := by
  have h1 : (s ^^^ c) / 256 = s / 256 := by
    have h := Nat.xor_div_two_pow (a := s) (b := c) (n := 8)
    rw [show (2 : Nat) ^ 8 = 256 from rfl, Nat.div_eq_of_lt hc, Nat.xor_zero] at h
    exact h
  have h2 : (s ^^^ c) % 256 = (s % 256) ^^^ c := by
    have h := Nat.xor_mod_two_pow (a := s) (b := c) (n := 8)
    rw [show (2 : Nat) ^ 8 = 256 from rfl, Nat.mod_eq_of_lt hc] at h
    exact h
  have h3 := Nat.div_add_mod (s ^^^ c) 256
  have h4 := Nat.div_add_mod s 256
  rw [h1, h2] at h3
  omega
theorem bit_step (x y i : Nat) : (x ^^^ y) % 2 ^ (i + 1) = (x ^^^ y) % 2 ^ i + (if x / 2 ^ i % 2 = y / 2 ^ i % 2 then 0 else 2 ^ i) := by
  rw [Nat.pow_succ, Nat.mod_mul, Nat.xor_div_two_pow]
  have h0 := Nat.xor_mod_two_pow (a := x / 2 ^ i) (b := y / 2 ^ i) (n := 1)
  rw [show (2 : Nat) ^ 1 = 2 from rfl] at h0
  rw [h0]
  have h1 := Nat.mod_two_eq_zero_or_one (x / 2 ^ i)
  have h2 := Nat.mod_two_eq_zero_or_one (y / 2 ^ i)
  rcases h1 with h1 | h1 <;> rcases h2 with h2 | h2 <;> rw [h1, h2] <;> simp
theorem quo_bit (L p : Nat) (hL : L < 256) : Int.tmod (IntKind.u64.wrap (Int.tdiv (L : Int) (p : Int))) 2 = ((L / p % 2 : Nat) : Int) := by
  rw [Int.tdiv_eq_ediv_of_nonneg (by omega), ← Int.natCast_ediv, u64_w]
  have h : L / p ≤ L := Nat.div_le_self _ _
  generalize L / p = q at h ⊢
  rw [Int.emod_eq_of_lt (by omega) (by omega), Int.tmod_eq_emod_of_nonneg (by omega)]
  omega
theorem last_mul (y : Nat) (h : y < 4294967296) : Int.tmod (IntKind.u64.wrap ((y : Int) * 16777619)) 4294967296 = ((y * 16777619 % 4294967296 : Nat) : Int) := by
  rw [u64_w, Int.emod_eq_of_lt (by omega) (by omega), Int.tmod_eq_emod_of_nonneg (by omega)]
  omega
theorem bit_add (X x p y : Nat) (hx : x = y + p) (hy : y < p) (hp : p ≤ 128) (hX : X + 256 ≤ 4294967296) : IntKind.u64.wrap (((X + y : Nat) : Int) + (p : Int)) = ((X + x : Nat) : Int) := by
  rw [u64_w]
  omega
theorem u64_nonneg (x : Int) : 0 ≤ IntKind.u64.wrap x := by rw [u64_w]; omega
theorem u64_small (c : Nat) (h : c < 256) : IntKind.u64.wrap (c : Int) = (c : Int) := by rw [u64_w]; omega
theorem wrap_succ (i : Nat) (h : i ≤ 1000000) : wrap64 ((i : Int) + 1) = ((i + 1 : Nat) : Int) := by rw [wrap_id (by omega) (by omega)]; omega
theorem cast_ne (p : Nat) (h : 0 < p) : ¬ ((p : Int) = 0) := by omega
theorem cast_lt8 (i : Nat) (h : i < 8) : (i : Int) < 8 := by omega
theorem refsum_step0 (b : List Int) (at_ : Nat) (hat : at_ < b.length) (X L c x y p i k : Nat) (hL : L < 256) (hc : c < 256) (hr : rd b (at_ : Int) = (c : Int)) (hX : X + 256 ≤ 4294967296) (hi : i < 8) (hp : 0 < p) (hp8 : p ≤ 128) (hm : y < p)
    (hs : x = y + (if L / p % 2 = c / p % 2 then 0 else p)) (hsh : shl .u64 1 (IntKind.u64.wrap (i : Int)) = (p : Int)) :
    estuaryref04_Sum.l1 (k + 1) b ((X + y : Nat) : Int) (at_ : Int) (L : Int) (i : Int) = estuaryref04_Sum.l1 k b ((X + x : Nat) : Int) (at_ : Int) (L : Int) ((i + 1 : Nat) : Int) := by
  have q1 := quo_bit L p hL
  have q2 := quo_bit c p hc
  rw [estuaryref04_Sum.l1, if_pos (cast_lt8 i hi), if_pos (u64_nonneg _), hsh, if_neg (cast_ne p hp), if_pos (Int.natCast_nonneg _), if_pos (Int.ofNat_lt.2 hat), hr, u64_small c hc, q1, q2, wrap_succ i (Nat.le_of_lt (Nat.lt_trans hi (by decide)))]
  by_cases hb : L / p % 2 = c / p % 2
  · rw [if_pos (by rw [hb])]
    rw [if_pos hb, Nat.add_zero] at hs
    rw [hs]
  · rw [if_neg (fun h => hb (by exact_mod_cast h))]
    rw [if_neg hb] at hs
    rw [bit_add X x p y hs hm hp8 hX]
theorem two7 (i : Nat) (h : i < 8) : 2 ^ i ≤ 128 := Nat.pow_le_pow_right (n := 2) (show 0 < 2 by decide) (show i ≤ 7 by omega)
theorem refsum_step (b : List Int) (at_ : Nat) (hat : at_ < b.length) (X L c : Nat) (hL : L < 256) (hc : c < 256) (hr : rd b (at_ : Int) = (c : Int)) (hX : X + 256 ≤ 4294967296) (i k : Nat) (hi : i < 8) :
    estuaryref04_Sum.l1 (k + 1) b ((X + (L ^^^ c) % 2 ^ i : Nat) : Int) (at_ : Int) (L : Int) (i : Int) = estuaryref04_Sum.l1 k b ((X + (L ^^^ c) % 2 ^ (i + 1) : Nat) : Int) (at_ : Int) (L : Int) ((i + 1 : Nat) : Int) :=
  refsum_step0 b at_ hat X L c _ _ (2 ^ i) i k hL hc hr hX hi (Nat.two_pow_pos i) (two7 i hi) (Nat.mod_lt _ (Nat.two_pow_pos i)) (bit_step L c i) (shl_one i (Nat.le_of_lt hi))
theorem refsum_l1 (b : List Int) (at_ : Nat) (hat : at_ < b.length) (X L c : Nat) (hL : L < 256) (hc : c < 256) (hr : rd b (at_ : Int) = (c : Int)) (hX : X + 256 ≤ 4294967296) (R : Option Int) (K0 : Nat)
    (hR : ∀ K, K0 ≤ K → estuaryref04_Sum.l0 K b ((((X + (L ^^^ c)) * 16777619 % 4294967296 : Nat)) : Int) (wrap64 ((at_ : Int) + 1)) = R) :
    ∀ (m i K : Nat), i + m = 8 → m + 1 + K0 ≤ K → estuaryref04_Sum.l1 K b ((X + (L ^^^ c) % 2 ^ i : Nat) : Int) (at_ : Int) (L : Int) (i : Int) = R := by
  intro m
  induction m with
  | zero =>
    intro i K hi hK
    obtain ⟨k, rfl⟩ : ∃ k, K = k + 1 := ⟨K - 1, by omega⟩
    obtain rfl : i = 8 := by omega
    have hx : L ^^^ c < 256 := Nat.xor_lt_two_pow (n := 8) hL hc
    have e8 : (L ^^^ c) % 2 ^ 8 = L ^^^ c := Nat.mod_eq_of_lt hx
    rw [estuaryref04_Sum.l1, if_neg (by decide), e8, last_mul _ (by omega)]
    exact hR k (by omega)
  | succ m ih =>
    intro i K hi hK
    obtain ⟨k, rfl⟩ : ∃ k, K = k + 1 := ⟨K - 1, by omega⟩
    rw [refsum_step b at_ hat X L c hL hc hr hX i k (by omega)]
    exact ih (i + 1) k (by omega) (by omega)
theorem refsum_l0 (b : List Int) (hb : Bytes b) (hl : b.length ≤ 1000000) : ∀ (m K at_ S : Nat), 10 * m + 1 ≤ K → at_ + m = b.length → S < 4294967296 → estuaryref04_Sum.l0 K b (S : Int) (at_ : Int) = some (fnv (S : Int) (b.drop at_))
  | 0, K, at_, S, hK, hm, hS => by
    obtain ⟨k, rfl⟩ : ∃ k, K = k + 1 := ⟨K - 1, by omega⟩
    rw [estuaryref04_Sum.l0, if_neg (by omega), List.drop_of_length_le (by omega)]
    show some ((S : Int) % 4294967296) = some (S : Int)
    congr 1
    omega
  | m + 1, K, at_, S, hK, hm, hS => by
    obtain ⟨k, rfl⟩ : ∃ k, K = k + 1 := ⟨K - 1, by omega⟩
    have hlt : at_ < b.length := by omega
    have hc := hb b[at_] (List.getElem_mem hlt)
    have hr := rd_at b at_ hlt
    obtain ⟨c, hcn⟩ : ∃ c : Nat, b[at_] = (c : Int) := ⟨b[at_].toNat, by omega⟩
    rw [hcn] at hc hr
    have hmod : Int.tmod (S : Int) 256 = ((S % 256 : Nat) : Int) := by rw [Int.tmod_eq_emod_of_nonneg (by omega)]; omega
    have hsub : IntKind.u64.wrap ((S : Int) - ((S % 256 : Nat) : Int)) = ((S - S % 256 + (S % 256 ^^^ c) % 2 ^ 0 : Nat) : Int) := by
      rw [u64_w, Nat.pow_zero, Nat.mod_one]
      omega
    have ha1 : wrap64 ((at_ : Int) + 1) = ((at_ + 1 : Nat) : Int) := by rw [wrap_id (by omega) (by omega)]; omega
    rw [estuaryref04_Sum.l0, if_pos (by omega), hmod, hsub]
    have hx := xor_high S c (by omega)
    have hstep : stepS (S : Int) (c : Int) = (((S - S % 256 + (S % 256 ^^^ c)) * 16777619 % 4294967296 : Nat) : Int) := by
      rw [stepS_eq S c hS (by omega), hx]
      generalize S - S % 256 + (S % 256 ^^^ c) = y
      omega
    have hd : fnv (S : Int) (b.drop at_) = fnv (((S - S % 256 + (S % 256 ^^^ c)) * 16777619 % 4294967296 : Nat) : Int) (b.drop (at_ + 1)) := by
      rw [List.drop_eq_getElem_cons hlt, hcn, ← hstep]
      rfl
    rw [hd]
    refine refsum_l1 b at_ hlt (S - S % 256) (S % 256) c (by omega) (by omega) hr (by omega) _ (10 * m + 1) (fun K' hK' => ?_) 8 0 k rfl (by omega)
    rw [ha1]
    exact refsum_l0 b hb hl m K' (at_ + 1) _ hK' (by omega) (Nat.mod_lt _ (by decide))
theorem refsum_f (b : List Int) (hb : Bytes b) (hl : b.length ≤ 1000000) (K : Nat) (hK : 10 * b.length + 1 ≤ K) : estuaryref04_Sum.f K b = some (fnv 2166136261 b) :=
  refsum_l0 b hb hl b.length K 0 2166136261 hK (by omega) (by omega)
theorem four_f (n : Nat) (hn : n < 4294967296) : estuaryref04_four.f (n : Int) = some (lowl (n : Int) 4 0) := by
  have e : ∀ i : Nat, i ≤ 8 → (shr .u64 (n : Int) (8 * (i : Int))) % 256 = ((n / 2 ^ (8 * i) % 256 : Nat) : Int) := fun i hi => by
    rw [shr_nat n i hi]
    omega
  show some [(n : Int) % 256, ((Int.tdiv n 256) % 4294967296) % 256, ((Int.tdiv n 65536) % 4294967296) % 256, ((Int.tdiv n 16777216) % 4294967296) % 256] = _
  simp only [lowl]
  rw [e 0 (by omega), e (0 + 1) (by omega), e (0 + 1 + 1) (by omega), e (0 + 1 + 1 + 1) (by omega), Int.tdiv_eq_ediv_of_nonneg (by omega), Int.tdiv_eq_ediv_of_nonneg (by omega), Int.tdiv_eq_ediv_of_nonneg (by omega)]
  have e0 : (n : Int) % 256 = ((n / 2 ^ (8 * 0) % 256 : Nat) : Int) := by
    rw [show (2 : Nat) ^ (8 * 0) = 1 from rfl]; omega
  have e1 : ((n : Int) / 256) % 4294967296 % 256 = ((n / 2 ^ (8 * (0 + 1)) % 256 : Nat) : Int) := by
    rw [show (2 : Nat) ^ (8 * (0 + 1)) = 256 from rfl]; omega
  have e2 : ((n : Int) / 65536) % 4294967296 % 256 = ((n / 2 ^ (8 * (0 + 1 + 1)) % 256 : Nat) : Int) := by
    rw [show (2 : Nat) ^ (8 * (0 + 1 + 1)) = 65536 from rfl]; omega
  have e3 : ((n : Int) / 16777216) % 4294967296 % 256 = ((n / 2 ^ (8 * (0 + 1 + 1 + 1)) % 256 : Nat) : Int) := by
    rw [show (2 : Nat) ^ (8 * (0 + 1 + 1 + 1)) = 16777216 from rfl]; omega
  rw [e0, e1, e2, e3]
def errN (b : List Int) : Int := if 16376 < b.length then 7 else 0
theorem refwrap_f (b : List Int) (hb : Bytes b) (hl : b.length ≤ 1000000) (K : Nat) (hK : 10 * b.length + 1 ≤ K) : estuaryref04_Wrap.f K b = some (frameB b, errN b) := by
  unfold estuaryref04_Wrap.f frameB errN
  by_cases h : 16376 < b.length
  · rw [if_pos (by omega), if_pos h, if_pos h]
  · have hS := fnv_range b 2166136261 (by omega)
    obtain ⟨S, hSn⟩ := Int.eq_ofNat_of_zero_le hS.1
    have e : (b.length : Int) % 4294967296 = (b.length : Int) := by omega
    rw [if_neg (by omega), if_neg h, if_neg h, e, four_f b.length (by omega), Option.bind_some, refsum_f b hb hl K hK, Option.bind_some, hSn, four_f S (by omega), Option.bind_some, if_pos (by rw [lowl_len, lowl_len]; omega), Option.bind_some, if_pos (by rw [List.length_append, lowl_len, lowl_len]; omega)]
theorem fin_whole (b : List Int) (hb : Bytes b) (n : Nat) (hn : valN (b.take 4) = n) (h8 : 8 + n ≤ b.length) (h16 : n ≤ 16376) : wholeP b = if frameB ((b.take (8 + n)).drop 8) = b.take (8 + n) then 8 + n else 0 := by
  have eX : (b.take (8 + n)).drop 8 = (b.drop 8).take n := by rw [List.drop_take]; congr 1; omega
  have lX : ((b.drop 8).take n).length = n := by rw [List.length_take, List.length_drop]; omega
  have hS := fnv_range ((b.drop 8).take n) 2166136261 (by omega)
  obtain ⟨S, hSn⟩ := Int.eq_ofNat_of_zero_le hS.1
  obtain ⟨p, q, h, hp, hq, h1, h2⟩ := frameB_parts ((b.drop 8).take n) (by omega)
  have hqv : valN q = S := by rw [hq, hSn]; exact valN_low4 S (by omega)
  have hpv : valN p = n := by rw [hp, lX]; exact valN_low4 n (by omega)
  have e3 : b.take (8 + n) = (b.take 4 ++ (b.take 8).drop 4) ++ (b.drop 8).take n := by
    have e4 : b.take 4 ++ (b.take 8).drop 4 = b.take 8 := by
      have := List.take_append_drop 4 (b.take 8)
      rw [List.take_take, Nat.min_eq_left (by omega)] at this
      exact this
    rw [e4, ← List.take_add]
  have l4 : (b.take 4).length = 4 := by rw [List.length_take]; omega
  have l8 : ((b.take 8).drop 4).length = 4 := by rw [List.length_drop, List.length_take]; omega
  have iff1 : frameB ((b.take (8 + n)).drop 8) = b.take (8 + n) ↔ S = valN ((b.take 8).drop 4) := by
    rw [eX, h, e3]
    constructor
    · intro hh
      have h5 := List.append_cancel_right hh
      have h6 := (List.append_inj h5 (by omega)).2
      rw [← h6, hqv]
    · intro hh
      have h5 : q = (b.take 8).drop 4 := valN_inj _ _ (by rw [hq]; exact lowl_bytes _ _ _) ((hb.take _).drop _) (by omega) (by rw [hqv, hh])
      have h6 : p = b.take 4 := valN_inj _ _ (by rw [hp]; exact lowl_bytes _ _ _) (hb.take _) (by omega) (by rw [hpv, hn])
      rw [h5, h6]
  unfold wholeP
  rw [if_neg (by omega), hn, if_neg (by omega), if_neg (by omega), hSn]
  by_cases hh : S = valN ((b.take 8).drop 4)
  · rw [if_pos (by rw [hh]), if_pos (iff1.2 hh)]
  · rw [if_neg (by omega), if_neg (fun h => hh (iff1.1 h))]
theorem val4 (b : List Int) (hb : Bytes b) (hl : 4 ≤ b.length) : ((valN (b.take 4) : Nat) : Int) = rd b 0 + 256 * rd b 1 + 65536 * rd b 2 + 16777216 * rd b 3 := by
  match b, hl with
  | c0 :: c1 :: c2 :: c3 :: r, _ =>
    have h0 := hb c0 (by simp)
    have h1 := hb c1 (by simp)
    have h2 := hb c2 (by simp)
    have h3 := hb c3 (by simp)
    have e0 : rd (c0 :: c1 :: c2 :: c3 :: r) 0 = c0 := rfl
    have e1 : rd (c0 :: c1 :: c2 :: c3 :: r) 1 = c1 := rfl
    have e2 : rd (c0 :: c1 :: c2 :: c3 :: r) 2 = c2 := rfl
    have e3 : rd (c0 :: c1 :: c2 :: c3 :: r) 3 = c3 := rfl
    have e : valN ((c0 :: c1 :: c2 :: c3 :: r).take 4) = c0.toNat + 256 * (c1.toNat + 256 * (c2.toNat + 256 * (c3.toNat + 256 * 0))) := rfl
    rw [e, e0, e1, e2, e3]
    omega
end Go.Proofs.Ytbbhdohjhipalaa.PNoteReads
end
section
namespace Go.Proofs.Ytbbhdohjhipalaa.PNoteReads
open Go.RowKit Go.Proofs.YtbbhdohjhipalaaW.PrintWords Go.Proofs.YtbbhdohjhipalaaW.PrintLast Go.Proofs.YtbbhdohjhipalaaW.PrintMore
open Go.Proofs.Ytbbhdohjhipalaa.Flow
set_option linter.unusedVariables false
set_option linter.unusedSimpArgs false
theorem refwrap_calls (w : World) (A0 : Option Addr) (c0 : Nat) (b : List Int) (hC : (Kd.int .u8).C w A0 b.length b) (hc : b.length ≤ c0) (hb : Bytes b) (hl : b.length ≤ 1000000) : Calls Try.prog 30 #[.slice A0 b.length c0] w fun e w' => ∃ A' n' c', e = .returned (.tuple #[.slice A' n' c', .int .i64 (errN b)]) ∧ Own .u8 5 w' w.heap.size w.heap.size A' n' c' (frameB b) ∧ Below w.heap.size w w' := by
  refine (estuaryref04_Wrap.calls (10 * b.length + 1) A0 c0 b _ _ w hC hc (refwrap_f b hb hl _ (Nat.le_refl _))).mono ?_
  rintro e w' ⟨v0, rfl, hR, hB⟩
  obtain ⟨A', c', rfl, hle, hR2⟩ := R_shape hR
  exact ⟨A', _, c', rfl, Own.born hR2 (Nat.le_refl _), hB⟩
theorem errN_of (b : List Int) (n : Nat) (h : b.length = n) : errN b = if 16376 < n then 7 else 0 := by unfold errN; rw [h]
theorem whole_not (b : List Int) (n : Nat) (hn : valN (b.take 4) = n) (h : b.length < 8 + n ∨ 16376 < n) : wholeP b = 0 := by
  unfold wholeP
  rw [hn]
  split
  · rfl
  · split
    · rfl
    · split
      · rfl
      · omega
set_option maxHeartbeats 4000000 in
theorem refunwrap_calls (w : World) (A0 : Option Addr) (c0 : Nat) (b : List Int) (hC : (Kd.int .u8).C w A0 b.length b) (hc : b.length ≤ c0) (hb : Bytes b) (hl : b.length ≤ 1000000) :
  Calls Try.prog 39 #[.slice A0 b.length c0] w fun e w' => ∃ A' n' c', e = .returned (.tuple #[.slice A' n' c', .int .i64 ((wholeP b : Nat) : Int)]) ∧ Own .u8 5 w' w.heap.size w.heap.size A' n' c' (UN b) ∧ Below w.heap.size w w' := by
 refine calls_flow Try.func39 rfl 65 rfl (Nat.le_of_ble_eq_true rfl) [(0, .slice A0 b.length c0)] ?_ ?_
 ·
  intro t v h; exact args_look rfl t v h
 refine wsr ?_
 refine rv (.slice none 0 0) ?_
 refine rv (.int .i64 0) ?_
 refine rw_end ?_
 refine w_seq ?_
 refine wsr ?_
 refine rv (.slice A0 b.length c0) ?_
 refine rs2 (.int .i64 (b.length : Int)) ?_
 refine rs2 (.bool (decide ((b.length : Int) < 8))) ?_
 refine rw_end ?_
 refine w_cond rfl rfl (fun c8 => ?_) (fun c8 => ?_)
 ·
  refine wsr ?_
  refine rv (.slice none 0 0) ?_
  refine rv (.int .i64 0) ?_
  refine rw_end ?_
  refine w_ret (post_ret2 rfl rfl rfl ?_)
  have e_ : wholeP b = 0 := by unfold wholeP; rw [if_pos (by have c8_ := of_decide_eq_true c8; omega)]
  have e3_ : UN b = [] := by unfold UN; rw [e_, if_pos rfl]
  rw [e_, e3_]
  exact ⟨_, _, _, rfl, Own.nil _ _ _ _ _, (Below.refl _ _)⟩
 ·
  refine w_skip ?_
  refine w_seq ?_
  have c8_ := of_decide_eq_false c8
  obtain ⟨ad0_, hA0_, hcell0_⟩ := Kd.at_int hC 0 (by omega) (by omega)
  obtain ⟨ad1_, hA1_, hcell1_⟩ := Kd.at_int hC 1 (by omega) (by omega)
  obtain ⟨ad2_, hA2_, hcell2_⟩ := Kd.at_int hC 2 (by omega) (by omega)
  obtain ⟨ad3_, hA3_, hcell3_⟩ := Kd.at_int hC 3 (by omega) (by omega)
  subst hA0_
  obtain rfl := Option.some.inj hA1_
  obtain rfl := Option.some.inj hA2_
  obtain rfl := Option.some.inj hA3_
  rw [show (0 : Int).toNat = 0 from rfl, Flow.add_zero] at hcell0_
  rw [show (1 : Int).toNat = 1 from rfl] at hcell1_
  rw [show (2 : Int).toNat = 2 from rfl] at hcell2_
  rw [show (3 : Int).toNat = 3 from rfl] at hcell3_
  have hr0_ := rd_range hb 0 (by omega)
  have hr1_ := rd_range hb 1 (by omega)
  have hr2_ := rd_range hb 2 (by omega)
  have hr3_ := rd_range hb 3 (by omega)
  obtain ⟨o1_, ho1_⟩ : ∃ o : Nat, o = 1 := ⟨_, rfl⟩
  rw [← ho1_] at hcell1_
  obtain ⟨o2_, ho2_⟩ : ∃ o : Nat, o = 2 := ⟨_, rfl⟩
  rw [← ho2_] at hcell2_
  obtain ⟨o3_, ho3_⟩ : ∃ o : Nat, o = 3 := ⟨_, rfl⟩
  rw [← ho3_] at hcell3_
  rw [show ((0 : Nat) : Int) = 0 from rfl] at hr0_
  rw [show ((1 : Nat) : Int) = 1 from rfl] at hr1_
  rw [show ((2 : Nat) : Int) = 2 from rfl] at hr2_
  rw [show ((3 : Nat) : Int) = 3 from rfl] at hr3_
  have hv4_ := val4 b hb (by omega)
  obtain ⟨n, hn⟩ : ∃ n, valN (b.take 4) = n := ⟨_, rfl⟩
  rw [hn] at hv4_
  have hnw_ := whole_not b n hn
  have hfw_ := fin_whole b hb n hn
  have hlX_ : 8 + n ≤ b.length → ((b.take (8 + n)).drop 8).length = n := fun h_ => by rw [List.length_drop, List.length_take]; omega
  refine w_draw (M := [0, 1, 3, 7, 0, 16, 48, 112, 240, 511, 0, 1024, 3072, 7168, 15360, 32767, 0, 65536, 196608, 458752, 983040, 2097151, 4194303]) (ss := [Is (.slice (some ad0_) b.length c0), Is (.pointer (some ad0_)), Is (.int .u8 (rd b 0)), Is (.int .i64 (rd b 0)), Is (.slice (some ad0_) b.length c0), Is (.pointer (some (ad0_.add o1_))), Is (.int .u8 (rd b 1)), Is (.int .i64 (rd b 1)), Is (.int .i64 (256 * (rd b 1))), Is (.int .i64 ((rd b 0) + 256 * (rd b 1))), Is (.slice (some ad0_) b.length c0), Is (.pointer (some (ad0_.add o2_))), Is (.int .u8 (rd b 2)), Is (.int .i64 (rd b 2)), Is (.int .i64 (65536 * (rd b 2))), Is (.int .i64 ((rd b 0) + 256 * (rd b 1) + 65536 * (rd b 2))), Is (.slice (some ad0_) b.length c0), Is (.pointer (some (ad0_.add o3_))), Is (.int .u8 (rd b 3)), Is (.int .i64 (rd b 3)), Is (.int .i64 (16777216 * (rd b 3))), Is (.int .i64 ((n : Nat) : Int)), Is (.int .i64 ((n : Nat) : Int))]) rfl (by decide +kernel) ?_
  refine tr (.slice (some ad0_) b.length c0) ?_
  refine t_is (.pointer (some ad0_)) rfl rfl rfl rfl (fun W_ hW_ F_ => (by have hne_ : b ≠ [] := (fun h_ => by rw [h_] at c8_; simp at c8_); first | (simp [go_sem, sEv, sLook, nbeq, i64_w, -List.length_flatten, Try.underlying30, Flow.add_zero, hne_]; done) | (simp [go_sem, sEv, sLook, nbeq, i64_w, -List.length_flatten, Try.underlying30, Flow.add_zero]; omega))) ?_
  refine t_is (.int .u8 (rd b 0)) rfl rfl rfl rfl (fun W_ hW_ F_ => (by have e_ := cellOn hcell0_ (chain (Below.refl _ _) (below_of_drew hW_)); simp [go_sem, sEv, sLook, nbeq, i64_w, -List.length_flatten, e_])) ?_
  refine t_is (.int .i64 (rd b 0)) rfl rfl rfl rfl (fun W_ hW_ F_ => (by simp [go_sem, sEv, sLook, nbeq, i64_w, -List.length_flatten]; exact wrap_id (by omega) (by omega))) ?_
  refine tr (.slice (some ad0_) b.length c0) ?_
  refine t_is (.pointer (some (ad0_.add o1_))) rfl rfl rfl rfl (fun W_ hW_ F_ => (by rw [ho1_]; have hne_ : b ≠ [] := (fun h_ => by rw [h_] at c8_; simp at c8_); first | (simp [go_sem, sEv, sLook, nbeq, i64_w, -List.length_flatten, Try.underlying30, Flow.add_zero, hne_]; done) | (simp [go_sem, sEv, sLook, nbeq, i64_w, -List.length_flatten, Try.underlying30, Flow.add_zero]; omega))) ?_
  refine t_is (.int .u8 (rd b 1)) rfl rfl rfl rfl (fun W_ hW_ F_ => (by have e_ := cellOn hcell1_ (chain (Below.refl _ _) (below_of_drew hW_)); simp [go_sem, sEv, sLook, nbeq, i64_w, -List.length_flatten, e_])) ?_
  refine t_is (.int .i64 (rd b 1)) rfl rfl rfl rfl (fun W_ hW_ F_ => (by simp [go_sem, sEv, sLook, nbeq, i64_w, -List.length_flatten]; exact wrap_id (by omega) (by omega))) ?_
  refine t_is (.int .i64 (256 * (rd b 1))) rfl rfl rfl rfl (fun W_ hW_ F_ => by simp [go_sem, sEv, sLook, nbeq, i64_w, -List.length_flatten]; exact wrap_id (by omega) (by omega)) ?_
  refine t_is (.int .i64 ((rd b 0) + 256 * (rd b 1))) rfl rfl rfl rfl (fun W_ hW_ F_ => by simp [go_sem, sEv, sLook, nbeq, i64_w, -List.length_flatten]; exact wrap_id (by omega) (by omega)) ?_
  refine tr (.slice (some ad0_) b.length c0) ?_
  refine t_is (.pointer (some (ad0_.add o2_))) rfl rfl rfl rfl (fun W_ hW_ F_ => (by rw [ho2_]; have hne_ : b ≠ [] := (fun h_ => by rw [h_] at c8_; simp at c8_); first | (simp [go_sem, sEv, sLook, nbeq, i64_w, -List.length_flatten, Try.underlying30, Flow.add_zero, hne_]; done) | (simp [go_sem, sEv, sLook, nbeq, i64_w, -List.length_flatten, Try.underlying30, Flow.add_zero]; omega))) ?_
  refine t_is (.int .u8 (rd b 2)) rfl rfl rfl rfl (fun W_ hW_ F_ => (by have e_ := cellOn hcell2_ (chain (Below.refl _ _) (below_of_drew hW_)); simp [go_sem, sEv, sLook, nbeq, i64_w, -List.length_flatten, e_])) ?_
  refine t_is (.int .i64 (rd b 2)) rfl rfl rfl rfl (fun W_ hW_ F_ => (by simp [go_sem, sEv, sLook, nbeq, i64_w, -List.length_flatten]; exact wrap_id (by omega) (by omega))) ?_
  refine t_is (.int .i64 (65536 * (rd b 2))) rfl rfl rfl rfl (fun W_ hW_ F_ => by simp [go_sem, sEv, sLook, nbeq, i64_w, -List.length_flatten]; exact wrap_id (by omega) (by omega)) ?_
  refine t_is (.int .i64 ((rd b 0) + 256 * (rd b 1) + 65536 * (rd b 2))) rfl rfl rfl rfl (fun W_ hW_ F_ => by simp [go_sem, sEv, sLook, nbeq, i64_w, -List.length_flatten]; exact wrap_id (by omega) (by omega)) ?_
  refine tr (.slice (some ad0_) b.length c0) ?_
  refine t_is (.pointer (some (ad0_.add o3_))) rfl rfl rfl rfl (fun W_ hW_ F_ => (by rw [ho3_]; have hne_ : b ≠ [] := (fun h_ => by rw [h_] at c8_; simp at c8_); first | (simp [go_sem, sEv, sLook, nbeq, i64_w, -List.length_flatten, Try.underlying30, Flow.add_zero, hne_]; done) | (simp [go_sem, sEv, sLook, nbeq, i64_w, -List.length_flatten, Try.underlying30, Flow.add_zero]; omega))) ?_
  refine t_is (.int .u8 (rd b 3)) rfl rfl rfl rfl (fun W_ hW_ F_ => (by have e_ := cellOn hcell3_ (chain (Below.refl _ _) (below_of_drew hW_)); simp [go_sem, sEv, sLook, nbeq, i64_w, -List.length_flatten, e_])) ?_
  refine t_is (.int .i64 (rd b 3)) rfl rfl rfl rfl (fun W_ hW_ F_ => (by simp [go_sem, sEv, sLook, nbeq, i64_w, -List.length_flatten]; exact wrap_id (by omega) (by omega))) ?_
  refine t_is (.int .i64 (16777216 * (rd b 3))) rfl rfl rfl rfl (fun W_ hW_ F_ => by simp [go_sem, sEv, sLook, nbeq, i64_w, -List.length_flatten]; exact wrap_id (by omega) (by omega)) ?_
  refine t_is (.int .i64 ((n : Nat) : Int)) rfl rfl rfl rfl (fun W_ hW_ F_ => by simp [go_sem, sEv, sLook, nbeq, i64_w, -List.length_flatten]; rw [wrap_id (by omega) (by omega)]; omega) ?_
  refine tr (.int .i64 ((n : Nat) : Int)) ?_
  refine t_end ?_
  intro w1 hb2_ F3
  have hb2 := below_of_drew hb2_
  have hs_w1 := hb2.size
  refine w_seq ?_
  refine wsr ?_
  refine rv (.int .i64 ((n : Nat) : Int)) ?_
  refine rv (.slice (some ad0_) b.length c0) ?_
  refine rs2 (.int .i64 (b.length : Int)) ?_
  refine rz (.int .i64 ((b.length : Int) - 8)) (by simp [go_sem, sEv, sLook, nbeq, i64_w, -List.length_flatten]; exact wrap_id (by omega) (by omega)) ?_
  refine rs2 (.bool (decide (((b.length : Int) - 8) < ((n : Nat) : Int)))) ?_
  refine rw_end ?_
  refine w_cond rfl rfl (fun cN => ?_) (fun cN => ?_)
  ·
   refine wsr ?_
   refine rv (.slice none 0 0) ?_
   refine rv (.int .i64 0) ?_
   refine rw_end ?_
   refine w_ret (post_ret2 rfl rfl rfl ?_)
   have e_ : wholeP b = 0 := hnw_ (.inl (by have c_ := of_decide_eq_true cN; omega))
   have e3_ : UN b = [] := by unfold UN; rw [e_, if_pos rfl]
   rw [e_, e3_]
   exact ⟨_, _, _, rfl, Own.nil _ _ _ _ _, hb2⟩
  ·
   refine w_skip ?_
   refine wsr ?_
   refine rv (.slice (some ad0_) b.length c0) ?_
   have cn_ := of_decide_eq_false cN
   have h8_ : 8 + n ≤ b.length := by omega
   have hlX2_ := hlX_ h8_
   refine rv (.int .i64 ((n : Nat) : Int)) ?_
   refine rz (.int .i64 ((8 + n : Nat) : Int)) (by simp [go_sem, sEv, sLook, nbeq, i64_w, -List.length_flatten]; exact wrap_id (by omega) (by omega)) ?_
   have hP4 := (mid_C hC 8 (8 + n) (by omega) (by omega) (show b.length ≤ c0 by have q_ := hc; have q2_ : b.length = b.length := rfl; omega))
   have hc5 : ((b.take (8 + n)).drop 8).length ≤ (c0 - 8) := by have q_ := hc; have q2_ : b.length = b.length := rfl; simp only [List.length_take, List.length_drop]; omega
   refine rz (.slice (adr (some ad0_) c0 8) (((b.take (8 + n)).drop 8).length) (c0 - 8)) (run_as (run_mid (e := 5) (by kernel_rfl) (fun _ => by kernel_rfl) 8 (8 + n) _ _ (by first | rfl | (simp; done) | omega) (by first | rfl | (simp; done) | omega) rfl (by omega) (by omega) hc _)) ?_
   refine rw_call rfl rfl rfl rfl (f := 30) (args := #[.slice (adr (some ad0_) c0 8) (((b.take (8 + n)).drop 8).length) (c0 - 8)]) (by simp [go_sem, sEv, sLook, nbeq, i64_w, -List.length_flatten]) (refwrap_calls w1 _ _ ((b.take (8 + n)).drop 8) (Kd.C_below hP4 hb2) hc5 ((hb.take _).drop _) (by omega)) ?_
   rintro e_ w9 ⟨A6, n7, c8, rfl, hO10, hB11⟩
   refine ⟨_, rfl, ?_⟩
   have hs_w9 := hB11.size
   have hL12 : Own .u8 5 w9 w.heap.size w1.heap.size A6 n7 c8 (frameB ((b.take (8 + n)).drop 8)) := Own.lower hO10 (by omega)
   refine rv (.tuple #[.slice A6 n7 c8, .int .i64 (errN ((b.take (8 + n)).drop 8))]) ?_
   refine rs2 (.slice A6 n7 c8) ?_
   refine rs2 (.int .i64 (errN ((b.take (8 + n)).drop 8))) ?_
   refine rv (.slice A6 n7 c8) ?_
   refine rv (.int .i64 (errN ((b.take (8 + n)).drop 8))) ?_
   refine rw_end ?_
   refine w_seq ?_
   refine w_seq ?_
   rcases bcase (decide (16376 < n)) with cE | cE
   ·
    refine w_draw (M := [0, 1, 3, 7, 15, 7, 7, 71, 231, 487, 1023, 2047]) (ss := [Is (.int .i64 (errN ((b.take (8 + n)).drop 8))), Is (.bool (decide (16376 < n))), Is (.bool (decide (16376 < n))), Is (.slice A6 n7 c8), Is (.string (strOfNums (frameB ((b.take (8 + n)).drop 8)))), Is (.slice (some ad0_) b.length c0), Is (.int .i64 ((n : Nat) : Int)), Is (.int .i64 ((8 + n : Nat) : Int)), Is (.slice (some ad0_) ((b.take (8 + n)).length) c0), Is (.string (strOfNums (b.take (8 + n)))), Is (.bool (!decide (strOfNums (frameB ((b.take (8 + n)).drop 8)) = strOfNums (b.take (8 + n))))), Is (.bool (!decide (strOfNums (frameB ((b.take (8 + n)).drop 8)) = strOfNums (b.take (8 + n)))))]) rfl (by decide +kernel) ?_
    refine tr (.int .i64 (errN ((b.take (8 + n)).drop 8))) ?_
    refine t_is (.bool (decide (16376 < n))) rfl rfl rfl rfl (fun W_ hW_ F_ => (by have e_ := errN_of ((b.take (8 + n)).drop 8) n hlX2_; by_cases h_ : 16376 < n <;> simp [go_sem, sEv, sLook, nbeq, i64_w, -List.length_flatten, e_, h_])) ?_
    refine tr (.bool (decide (16376 < n))) ?_
    refine t_gis (c := decide (16376 < n)) (.slice A6 n7 c8) rfl rfl rfl (by first | (rw [cE]; rfl) | simp [cE]) rfl rfl rfl (fun W_ hW_ F_ => rfl) ?_
    refine t_gis (c := decide (16376 < n)) (.string (strOfNums (frameB ((b.take (8 + n)).drop 8)))) rfl rfl rfl (by first | (rw [cE]; rfl) | simp [cE]) rfl rfl rfl (fun W_ hW_ F_ => run_as (run_str_of (P := Try.prog) (e := 5) (by kernel_rfl) (by kernel_rfl) (by kernel_rfl) (show (Kd.int .u8).C W_ A6 n7 _ by rw [hL12.len]; exact (Kd.C_below (Own.C hL12) (chain (Below.refl _ _) (below_of_drew hW_)))))) ?_
    refine t_gis (c := decide (16376 < n)) (.slice (some ad0_) b.length c0) rfl rfl rfl (by first | (rw [cE]; rfl) | simp [cE]) rfl rfl rfl (fun W_ hW_ F_ => rfl) ?_
    refine t_gis (c := decide (16376 < n)) (.int .i64 ((n : Nat) : Int)) rfl rfl rfl (by first | (rw [cE]; rfl) | simp [cE]) rfl rfl rfl (fun W_ hW_ F_ => rfl) ?_
    refine t_gis (c := decide (16376 < n)) (.int .i64 ((8 + n : Nat) : Int)) rfl rfl rfl (by first | (rw [cE]; rfl) | simp [cE]) rfl rfl rfl (fun W_ hW_ F_ => by simp [go_sem, sEv, sLook, nbeq, i64_w, -List.length_flatten]; exact wrap_id (by omega) (by omega)) ?_
    have hP13 := (to_C hC (8 + n) (by omega))
    have hc14 : (b.take (8 + n)).length ≤ c0 := by have q_ := hc; have q2_ : b.length = b.length := rfl; simp only [List.length_take, List.length_drop]; omega
    refine t_gis (c := decide (16376 < n)) (.slice (some ad0_) ((b.take (8 + n)).length) c0) rfl rfl rfl (by first | (rw [cE]; rfl) | simp [cE]) rfl rfl rfl (fun W_ hW_ F_ => (run_as (run_to (e := 5) (by kernel_rfl) (fun _ => by kernel_rfl) (8 + n) _ (by first | rfl | (simp; done) | omega) rfl (by omega) hc _))) ?_
    refine t_gis (c := decide (16376 < n)) (.string (strOfNums (b.take (8 + n)))) rfl rfl rfl (by first | (rw [cE]; rfl) | simp [cE]) rfl rfl rfl (fun W_ hW_ F_ => run_as (run_str_of (P := Try.prog) (e := 5) (by kernel_rfl) (by kernel_rfl) (by kernel_rfl) (Kd.C_below hP13 (chain (chain hb2 hB11) (below_of_drew hW_))))) ?_
    refine t_gis (c := decide (16376 < n)) (.bool (!decide (strOfNums (frameB ((b.take (8 + n)).drop 8)) = strOfNums (b.take (8 + n))))) rfl rfl rfl (by first | (rw [cE]; rfl) | simp [cE]) rfl rfl rfl (fun W_ hW_ F_ => (run_as (run_str_neq 9 _ _ _))) ?_
    refine t_is (.bool (!decide (strOfNums (frameB ((b.take (8 + n)).drop 8)) = strOfNums (b.take (8 + n))))) rfl rfl rfl rfl (fun W_ hW_ F_ => by first | (simp [go_sem, sEv, sLook, nbeq, i64_w, -List.length_flatten, cE]; done) | (simp [go_sem, sEv, sLook, nbeq, i64_w, -List.length_flatten] <;> omega) | (simp [go_sem, sEv, sLook, nbeq, i64_w, -List.length_flatten]; intro h_; exact absurd (by omega) h_) | (rw [cE]; simp [go_sem, sEv, sLook, nbeq, i64_w, -List.length_flatten]; done)) ?_
    refine t_end ?_
    intro w15 hb16_ F17
    have hb16 := below_of_drew hb16_
    have hs_w15 := hb16.size
    refine w_cond rfl rfl (fun cS => ?_) (fun cS => ?_)
    ·
     refine wsr ?_
     refine rv (.slice none 0 0) ?_
     refine rv (.int .i64 0) ?_
     refine rw_end ?_
     refine w_ret (post_ret2 rfl rfl rfl ?_)
     have e_ := hfw_ h8_ (by have c_ := of_decide_eq_false cE; omega)
     have cS_ : ¬ strOfNums (frameB ((b.take (8 + n)).drop 8)) = strOfNums (b.take (8 + n)) := by simpa using cS
     rw [if_neg (fun h => cS_ (by rw [h]))] at e_
     have e3_ : UN b = [] := by unfold UN; rw [e_, if_pos rfl]
     rw [e_, e3_]
     exact ⟨_, _, _, rfl, Own.nil _ _ _ _ _, (chain (chain hb2 hB11) hb16)⟩
    ·
     refine w_skip ?_
     refine wsr ?_
     refine rw_new (cs := #[]) (t := 5) (fun g => .slice (some ⟨g, 0, none⟩) 0 0) rfl rfl rfl rfl (by kernel_rfl) ?_
     intro g18 w19 hg23 hz22 hb20 hk21
     have hs_w19 := hb20.size
     have hO24 : Own .u8 5 w19 w.heap.size g18 (some ⟨g18, 0, none⟩) 0 0 [] := own_blk w.heap.size hk21 (by omega) rfl (by simp) (by omega) (Nums.nil _ _)
     refine rv (.slice (some ad0_) b.length c0) ?_
     refine rv (.int .i64 ((n : Nat) : Int)) ?_
     refine rz (.int .i64 ((8 + n : Nat) : Int)) (by simp [go_sem, sEv, sLook, nbeq, i64_w, -List.length_flatten]; exact wrap_id (by omega) (by omega)) ?_
     have hP25 := (mid_C hC 8 (8 + n) (by omega) (by omega) (show b.length ≤ c0 by have q_ := hc; have q2_ : b.length = b.length := rfl; omega))
     have hc26 : ((b.take (8 + n)).drop 8).length ≤ (c0 - 8) := by have q_ := hc; have q2_ : b.length = b.length := rfl; simp only [List.length_take, List.length_drop]; omega
     refine rz (.slice (adr (some ad0_) c0 8) (((b.take (8 + n)).drop 8).length) (c0 - 8)) (run_as (run_mid (e := 5) (by kernel_rfl) (fun _ => by kernel_rfl) 8 (8 + n) _ _ (by first | rfl | (simp; done) | omega) (by first | rfl | (simp; done) | omega) rfl (by omega) (by omega) hc _)) ?_
     refine rw_append_row .u8 w.heap.size rfl rfl rfl (.tmp 57) (.tmp 61) rfl rfl 30 5 1 rfl (by kernel_rfl) info5 (by decide) (b := g18) rfl rfl (by omega) (hO24.on (Below.refl _ _)) (Kd.C_below hP25 (chain (chain (chain hb2 hB11) hb16) hb20)) (chain (chain (chain hb2 hB11) hb16) hb20) (by omega) (by simp only [List.length_nil]; omega) ?_
     intro A27 n28 c29 w30 hn31 hO32 hB33 hG34
     have hs_w30 := hB33.size
     have hgs_w30 := hG34.size
     refine rv (.int .i64 ((n : Nat) : Int)) ?_
     refine rz (.int .i64 ((8 + n : Nat) : Int)) (by simp [go_sem, sEv, sLook, nbeq, i64_w, -List.length_flatten]; exact wrap_id (by omega) (by omega)) ?_
     refine rv (.slice A27 n28 c29) ?_
     refine rv (.int .i64 ((8 + n : Nat) : Int)) ?_
     refine rw_end ?_
     refine w_ret (post_ret2 rfl rfl rfl ?_)
     have e_ := hfw_ h8_ (by have c_ := of_decide_eq_false cE; omega)
     have cS_ : strOfNums (frameB ((b.take (8 + n)).drop 8)) = strOfNums (b.take (8 + n)) := by simpa using cS
     have e2_ := (str_iff (frameB_bytes _ ((hb.take _).drop _)) (hb.take _)).1 (by rw [cS_])
     rw [if_pos e2_] at e_
     have e3_ : UN b = [] ++ ((b.take (8 + n)).drop 8) := by unfold UN; rw [e_, if_neg (by omega)]; rfl
     rw [e_, e3_]
     exact ⟨_, _, _, rfl, Own.mono (hO32.on (Below.refl _ _)) (by omega), hB33⟩
   ·
    refine w_draw (M := [0, 1, 3, 7, 15, 7, 7, 71, 231, 487, 1023, 2047]) (ss := [Is (.int .i64 (errN ((b.take (8 + n)).drop 8))), Is (.bool (decide (16376 < n))), Is (.bool (decide (16376 < n))), Is undef, Is undef, Is undef, Is undef, Is undef, Is undef, Is undef, Is undef, Is (.bool true)]) rfl (by decide +kernel) ?_
    refine tr (.int .i64 (errN ((b.take (8 + n)).drop 8))) ?_
    refine t_is (.bool (decide (16376 < n))) rfl rfl rfl rfl (fun W_ hW_ F_ => (by have e_ := errN_of ((b.take (8 + n)).drop 8) n hlX2_; by_cases h_ : 16376 < n <;> simp [go_sem, sEv, sLook, nbeq, i64_w, -List.length_flatten, e_, h_])) ?_
    refine tr (.bool (decide (16376 < n))) ?_
    refine t_off (c := decide (16376 < n)) rfl rfl rfl (by first | (rw [cE]; rfl) | simp [cE]) rfl rfl ?_
    refine t_off (c := decide (16376 < n)) rfl rfl rfl (by first | (rw [cE]; rfl) | simp [cE]) rfl rfl ?_
    refine t_off (c := decide (16376 < n)) rfl rfl rfl (by first | (rw [cE]; rfl) | simp [cE]) rfl rfl ?_
    refine t_off (c := decide (16376 < n)) rfl rfl rfl (by first | (rw [cE]; rfl) | simp [cE]) rfl rfl ?_
    refine t_off (c := decide (16376 < n)) rfl rfl rfl (by first | (rw [cE]; rfl) | simp [cE]) rfl rfl ?_
    refine t_off (c := decide (16376 < n)) rfl rfl rfl (by first | (rw [cE]; rfl) | simp [cE]) rfl rfl ?_
    refine t_off (c := decide (16376 < n)) rfl rfl rfl (by first | (rw [cE]; rfl) | simp [cE]) rfl rfl ?_
    refine t_off (c := decide (16376 < n)) rfl rfl rfl (by first | (rw [cE]; rfl) | simp [cE]) rfl rfl ?_
    refine t_is (.bool true) rfl rfl rfl rfl (fun W_ hW_ F_ => by first | (simp [go_sem, sEv, sLook, nbeq, i64_w, -List.length_flatten, cE]; done) | (simp [go_sem, sEv, sLook, nbeq, i64_w, -List.length_flatten] <;> omega) | (simp [go_sem, sEv, sLook, nbeq, i64_w, -List.length_flatten]; intro h_; exact absurd (by omega) h_) | (rw [cE]; simp [go_sem, sEv, sLook, nbeq, i64_w, -List.length_flatten]; done)) ?_
    refine t_end ?_
    intro w35 hb36_ F37
    have hb36 := below_of_drew hb36_
    have hs_w35 := hb36.size
    refine w_cond_t rfl rfl rfl ?_
    refine wsr ?_
    refine rv (.slice none 0 0) ?_
    refine rv (.int .i64 0) ?_
    refine rw_end ?_
    refine w_ret (post_ret2 rfl rfl rfl ?_)
    have e_ : wholeP b = 0 := hnw_ (.inr (of_decide_eq_true cE))
    have e3_ : UN b = [] := by unfold UN; rw [e_, if_pos rfl]
    rw [e_, e3_]
    exact ⟨_, _, _, rfl, Own.nil _ _ _ _ _, (chain (chain hb2 hB11) hb36)⟩
end Go.Proofs.Ytbbhdohjhipalaa.PNoteReads
end
section
namespace Go.Proofs.Ytbbhdohjhipalaa.PNoteReads
open Go.RowKit Go.Proofs.YtbbhdohjhipalaaW.PrintWords Go.Proofs.YtbbhdohjhipalaaW.PrintLast Go.Proofs.YtbbhdohjhipalaaW.PrintMore
open Go.Proofs.Ytbbhdohjhipalaa.Flow
set_option linter.unusedVariables false
set_option linter.unusedSimpArgs false
theorem refnumber_calls (w : World) (n : Int) (hn : I64 n) : Calls Try.prog 53 #[.int .i64 n] w fun e w' => ∃ A' n' c', e = .returned (.slice A' n' c') ∧ Own .u8 5 w' w.heap.size w.heap.size A' n' c' (numB n) ∧ Below w.heap.size w w' := by
  refine (estuaryref04_Number.calls 12 n _ w (number_f n hn 12 (Nat.le_refl _))).mono ?_
  rintro e w' ⟨v0, rfl, hR, hB⟩
  obtain ⟨A', c', rfl, hle, hR2⟩ := R_shape hR
  exact ⟨A', _, c', rfl, Own.born hR2 (Nat.le_refl _), hB⟩
set_option maxHeartbeats 4000000 in
theorem reftake_calls (w : World) (A0 : Option Addr) (c0 : Nat) (b : List Int) (hC : (Kd.int .u8).C w A0 b.length b) (hc : b.length ≤ c0) (hb : Bytes b) (hl : b.length ≤ 140737488355328) :
  Calls Try.prog 61 #[.slice A0 b.length c0] w fun e w' => e = .returned (.tuple #[.int .i64 (takeP b).1, .int .i64 (((takeP b).2 : Nat) : Int)]) ∧ Below w.heap.size w w' := by
 refine calls_flow Try.func61 rfl 65 rfl (Nat.le_of_ble_eq_true rfl) [(0, .slice A0 b.length c0)] ?_ ?_
 ·
  intro t v h; exact args_look rfl t v h
 refine wsr ?_
 refine rv (.int .i64 0) ?_
 refine rv (.int .i64 0) ?_
 refine rw_end ?_
 refine w_seq ?_
 refine wsr ?_
 refine rv (.slice A0 b.length c0) ?_
 refine rs2 (.int .i64 (b.length : Int)) ?_
 refine rs2 (.bool ((b.length : Int) == 0)) ?_
 refine rv (.bool ((b.length : Int) == 0)) ?_
 rcases bcase ((b.length : Int) == 0) with cN | cN
 ·
  refine rnk cN ?_
  refine rv (.slice A0 b.length c0) ?_
  refine rnk cN ?_
  have cN_ : b.length ≠ 0 := by simpa using cN
  obtain ⟨ad, hA_, hcell_⟩ := Kd.at_int hC 0 (by omega) (by omega)
  subst hA_
  rw [show (0 : Int).toNat = 0 from rfl, Flow.add_zero] at hcell_
  have hr_ := rd_range hb 0 (by omega)
  rw [show ((0 : Nat) : Int) = 0 from rfl] at hr_
  refine rz (.pointer (some ad)) (by have hp_ : 0 < b.length := (by omega); have hp2_ : b ≠ [] := (fun h_ => by rw [h_] at hp_; simp at hp_); first | (simp [go_sem, sEv, sLook, nbeq, i64_w, -List.length_flatten, Try.underlying30, Flow.add_zero, hp_]; done) | (simp [go_sem, sEv, sLook, nbeq, i64_w, -List.length_flatten, Try.underlying30, Flow.add_zero, hp2_]; done) | (simp [go_sem, sEv, sLook, nbeq, i64_w, -List.length_flatten, Try.underlying30, Flow.add_zero]; exact hp2_)) ?_
  refine rnk cN ?_
  refine rz (.int .u8 (rd b 0)) (by simp [go_sem, sEv, sLook, nbeq, i64_w, -List.length_flatten, hcell_]) ?_
  refine rnk cN ?_
  refine rs2 (.bool (decide (8 < (rd b 0)))) ?_
  refine rz (.bool (decide (8 < (rd b 0)))) (by first | (simp [go_sem, sEv, sLook, nbeq, i64_w, -List.length_flatten, cN]; done) | (simp [go_sem, sEv, sLook, nbeq, i64_w, -List.length_flatten] <;> omega) | (simp [go_sem, sEv, sLook, nbeq, i64_w, -List.length_flatten]; intro h_; exact absurd (by omega) h_) | (rw [cN]; simp [go_sem, sEv, sLook, nbeq, i64_w, -List.length_flatten]; done)) ?_
  refine rv (.bool (decide (8 < (rd b 0)))) ?_
  rcases bcase (decide (8 < (rd b 0))) with c8 | c8
  ·
   refine rnk c8 ?_
   refine rv (.slice (some ad) b.length c0) ?_
   refine rnk c8 ?_
   refine rs2 (.int .i64 (b.length : Int)) ?_
   refine rnk c8 ?_
   refine rv (.slice (some ad) b.length c0) ?_
   refine rnk c8 ?_
   refine rz (.pointer (some ad)) (by have hp_ : 0 < b.length := (by omega); have hp2_ : b ≠ [] := (fun h_ => by rw [h_] at hp_; simp at hp_); first | (simp [go_sem, sEv, sLook, nbeq, i64_w, -List.length_flatten, Try.underlying30, Flow.add_zero, hp_]; done) | (simp [go_sem, sEv, sLook, nbeq, i64_w, -List.length_flatten, Try.underlying30, Flow.add_zero, hp2_]; done) | (simp [go_sem, sEv, sLook, nbeq, i64_w, -List.length_flatten, Try.underlying30, Flow.add_zero]; exact hp2_)) ?_
   refine rnk c8 ?_
   refine rz (.int .u8 (rd b 0)) (by simp [go_sem, sEv, sLook, nbeq, i64_w, -List.length_flatten, hcell_]) ?_
   refine rnk c8 ?_
   refine rz (.int .i64 (rd b 0)) (by simp [go_sem, sEv, sLook, nbeq, i64_w, -List.length_flatten]; exact wrap_id (by omega) (by omega)) ?_
   refine rnk c8 ?_
   refine rz (.int .i64 (1 + (rd b 0))) (by simp [go_sem, sEv, sLook, nbeq, i64_w, -List.length_flatten]; have c8_ := of_decide_eq_false c8; exact wrap_id (by omega) (by omega)) ?_
   refine rnk c8 ?_
   refine rs2 (.bool (decide ((b.length : Int) < (1 + (rd b 0))))) ?_
   refine rz (.bool (decide ((b.length : Int) < (1 + (rd b 0))))) (by first | (simp [go_sem, sEv, sLook, nbeq, i64_w, -List.length_flatten, c8]; done) | (simp [go_sem, sEv, sLook, nbeq, i64_w, -List.length_flatten] <;> omega) | (simp [go_sem, sEv, sLook, nbeq, i64_w, -List.length_flatten]; intro h_; exact absurd (by omega) h_) | (rw [c8]; simp [go_sem, sEv, sLook, nbeq, i64_w, -List.length_flatten]; done)) ?_
   refine rw_end ?_
   refine w_cond rfl rfl (fun c3 => ?_) (fun c3 => ?_)
   ·
    refine wsr ?_
    refine rv (.int .i64 0) ?_
    refine rv (.int .i64 0) ?_
    refine rw_end ?_
    refine w_ret (post_ret2 rfl rfl rfl ?_)
    have c3_ := of_decide_eq_true c3
    have c8_ := of_decide_eq_false c8
    have e_ : takeP b = (0, 0) := by unfold takeP; rw [if_neg (by simpa using cN), if_neg c8_, if_pos (by omega)]
    exact ⟨by first | (rw [e_]; done) | (rw [e_]; rfl) | (simp [e_]; done) | (rw [e_]; simp only; rw [eK_]; done) | (rw [e_]; simp only; rw [eK_]; simp), (Below.refl _ _)⟩
   ·
    refine w_skip ?_
    refine wsr ?_
    refine rv (.slice (some ad) b.length c0) ?_
    refine rz (.pointer (some ad)) (by have hp_ : 0 < b.length := (by omega); have hp2_ : b ≠ [] := (fun h_ => by rw [h_] at hp_; simp at hp_); first | (simp [go_sem, sEv, sLook, nbeq, i64_w, -List.length_flatten, Try.underlying30, Flow.add_zero, hp_]; done) | (simp [go_sem, sEv, sLook, nbeq, i64_w, -List.length_flatten, Try.underlying30, Flow.add_zero, hp2_]; done) | (simp [go_sem, sEv, sLook, nbeq, i64_w, -List.length_flatten, Try.underlying30, Flow.add_zero]; exact hp2_)) ?_
    refine rz (.int .u8 (rd b 0)) (by simp [go_sem, sEv, sLook, nbeq, i64_w, -List.length_flatten, hcell_]) ?_
    refine rz (.int .i64 (rd b 0)) (by simp [go_sem, sEv, sLook, nbeq, i64_w, -List.length_flatten]; exact wrap_id (by omega) (by omega)) ?_
    have c8_ := of_decide_eq_false c8
    have c3_ := of_decide_eq_false c3
    obtain ⟨z, hz⟩ : ∃ z : Nat, rd b 0 = (z : Int) := ⟨(rd b 0).toNat, by omega⟩
    have hz8 : z ≤ 8 := by omega
    have hzl : 1 + z ≤ b.length := by omega
    refine rz (.int .i64 ((1 + z : Nat) : Int)) (by simp [go_sem, sEv, sLook, nbeq, i64_w, -List.length_flatten]; rw [wrap_id (by omega) (by omega)]; omega) ?_
    refine rv (.int .i64 ((1 + z : Nat) : Int)) ?_
    refine rw_end ?_
    refine wsr ?_
    refine rv (.int .u64 0) ?_
    refine rw_end ?_
    refine w_seq ?_
    refine wsr ?_
    refine rv (.int .i64 ((1 + z : Nat) : Int)) ?_
    refine rz (.int .i64 (z : Int)) (by simp [go_sem, sEv, sLook, nbeq, i64_w, -List.length_flatten]; rw [wrap_id (by omega) (by omega)]; omega) ?_
    refine rv (.int .i64 (z : Int)) ?_
    refine rw_end ?_
    refine w_block ?_
    have h0_ : ((valN ((b.take (1 + z)).drop (z + 1)) : Nat) : Int) = 0 := by rw [List.drop_of_length_le (by rw [List.length_take]; omega)]; rfl
    refine w_loop (fun m_ G W_ => ∃ (i_ : Nat), i_ = m_ ∧ i_ ≤ z ∧ W_ = w ∧ G = [(0, .slice (some ad) b.length c0), (4, .int .i64 ((1 + z : Nat) : Int)), (5, .int .u64 ((valN ((b.take (1 + z)).drop (i_ + 1)) : Nat) : Int)), (6, .int .i64 (i_ : Int))]) z [(0, .slice (some ad) b.length c0), (4, .int .i64 ((1 + z : Nat) : Int)), (5, .int .u64 0), (6, .int .i64 (z : Int))] ⟨z, rfl, Nat.le_refl _, rfl, by rw [h0_]⟩ ⟨rfl, rfl, rfl, rfl, trivial⟩ ?_
    rintro m_ G w_ ⟨i_, rfl, hiz, rfl, rfl⟩
    refine w_seq ?_
    refine wsr ?_
    refine rv (.int .i64 (i_ : Int)) ?_
    refine rs2 (.bool (decide (0 < (i_ : Int)))) ?_
    refine rw_end ?_
    refine w_cond rfl rfl (fun cI => ?_) (fun cI => ?_)
    ·
     refine w_skip ?_
     refine w_seq ?_
     refine w_block ?_
     refine w_region ?_
     refine rv (.int .u64 ((valN ((b.take (1 + z)).drop (i_ + 1)) : Nat) : Int)) ?_
     refine rs2 (.int .u64 (IntKind.u64.wrap (((valN ((b.take (1 + z)).drop (i_ + 1)) : Nat) : Int) * 256))) ?_
     refine rv (.slice (some ad) b.length c0) ?_
     refine rv (.int .i64 (i_ : Int)) ?_
     have cI_ := of_decide_eq_true cI
     obtain ⟨ad2, hA2_, hcell2_⟩ := Kd.at_int hC (i_ : Int) (by omega) (by omega)
     obtain rfl := Option.some.inj hA2_
     rw [Int.toNat_natCast] at hcell2_
     have hri_ := rd_range hb i_ (by omega)
     refine rz (.pointer (some (ad.add i_))) (by simp [go_sem, sEv, sLook, nbeq, i64_w, -List.length_flatten, Try.underlying30]; omega) ?_
     refine rz (.int .u8 (rd b (i_ : Int))) (by simp [go_sem, sEv, sLook, nbeq, i64_w, -List.length_flatten, hcell2_]) ?_
     refine rz (.int .u64 (rd b (i_ : Int))) (by simp [go_sem, sEv, sLook, nbeq, i64_w, -List.length_flatten, u64_wrap]; omega) ?_
     refine rz (.int .u64 ((valN ((b.take (1 + z)).drop i_) : Nat) : Int)) (by simp [go_sem, sEv, sLook, nbeq, i64_w, -List.length_flatten]; have h_ := valN_step b hb z i_ hz8 hzl (by omega) hiz; exact h_) ?_
     refine rv (.int .u64 ((valN ((b.take (1 + z)).drop i_) : Nat) : Int)) ?_
     refine rw_end ?_
     refine w_blk ?_
     refine w_region ?_
     refine rv (.int .i64 (i_ : Int)) ?_
     refine rz (.int .i64 ((i_ - 1 : Nat) : Int)) (by simp [go_sem, sEv, sLook, nbeq, i64_w, -List.length_flatten]; have cI_ := of_decide_eq_true cI; rw [wrap_id (by omega) (by omega)]; omega) ?_
     refine rv (.int .i64 ((i_ - 1 : Nat) : Int)) ?_
     refine rw_end ?_
     exact w_back (i_ - 1) [(0, .slice (some ad) b.length c0), (4, .int .i64 ((1 + z : Nat) : Int)), (5, .int .u64 ((valN ((b.take (1 + z)).drop i_) : Nat) : Int)), (6, .int .i64 ((i_ - 1 : Nat) : Int))] (by omega) ⟨rfl, rfl, rfl, rfl, trivial⟩ ⟨i_ - 1, rfl, by omega, rfl, by rw [show i_ - 1 + 1 = i_ by omega]⟩
    ·
     refine w_exit rfl ?_
     refine wsr ?_
     have i0_ : i_ = 0 := by have cI_ := of_decide_eq_false cI; omega
     subst i0_
     obtain ⟨U_, hU0_⟩ : ∃ U_, valN ((b.take (1 + z)).drop (0 + 1)) = U_ := ⟨_, rfl⟩
     rw [hU0_]
     have hU_ := valN_U b hb z hz8
     have hf_ := fin_take b hb z hz8 hzl hz
     rw [show valN ((b.take (1 + z)).drop 1) = U_ from hU0_] at hU_ hf_
     have hI_ := bk_range hU_
     clear hU0_
     refine rv (.int .u64 ((U_ : Nat) : Int)) ?_
     refine rz (.int .u64 ((U_ / 2 : Nat) : Int)) (by simp [go_sem, sEv, sLook, nbeq, i64_w, -List.length_flatten]; rw [u64_wrap]; omega) ?_
     refine rz (.int .i64 ((U_ / 2 : Nat) : Int)) (by simp [go_sem, sEv, sLook, nbeq, i64_w, -List.length_flatten]; exact wrap_id (by omega) (by omega)) ?_
     refine rv (.int .i64 ((U_ / 2 : Nat) : Int)) ?_
     refine rw_end ?_
     refine w_seq ?_
     refine wsr ?_
     refine rv (.int .u64 ((U_ : Nat) : Int)) ?_
     refine rz (.int .u64 ((U_ % 2 : Nat) : Int)) (by simp [go_sem, sEv, sLook, nbeq, i64_w, -List.length_flatten]; rw [Int.tmod_eq_emod_of_nonneg (by omega)]) ?_
     refine rs2 (.bool (((U_ % 2 : Nat) : Int) == 1)) ?_
     refine rw_end ?_
     refine w_cond rfl rfl (fun cO => ?_) (fun cO => ?_)
     ·
      refine w_region ?_
      refine rv (.int .i64 ((U_ / 2 : Nat) : Int)) ?_
      refine rz (.int .i64 (-((U_ / 2 : Nat) : Int))) (by simp [go_sem, sEv, sLook, nbeq, i64_w, -List.length_flatten]; exact wrap_id (by omega) (by omega)) ?_
      have cO_ : ((U_ % 2 : Nat) : Int) = 1 := by simpa using cO
      have eK_ : bk U_ = -((U_ / 2 : Nat) : Int) - 1 := by unfold bk; rw [if_neg (by omega)] <;> omega
      refine rz (.int .i64 (bk U_)) (by rw [eK_]; simp [go_sem, sEv, sLook, nbeq, i64_w, -List.length_flatten]; exact wrap_id (by omega) (by omega)) ?_
      refine rv (.int .i64 (bk U_)) ?_
      refine rw_end ?_
      refine w_seq ?_
      refine w_seq ?_
      refine w_draw (M := [0, 1, 3, 0, 0, 24, 56, 127]) (ss := [Is (.int .i64 (bk U_)), OwnSpec w_.heap.size w_.heap.size (numB (bk U_)), Is (.string (strOfNums (numB (bk U_)))), Is (.slice (some ad) b.length c0), Is (.int .i64 ((1 + z : Nat) : Int)), Is (.slice (some ad) ((b.take (1 + z)).length) c0), Is (.string (strOfNums (b.take (1 + z)))), Is (.bool (!decide (strOfNums (numB (bk U_)) = strOfNums (b.take (1 + z)))))]) rfl (by decide +kernel) ?_
      refine tr (.int .i64 (bk U_)) ?_
      refine t_call (f := 53) (args := #[.int .i64 (bk U_)]) (OwnSpec w_.heap.size w_.heap.size (numB (bk U_))) rfl rfl rfl rfl (fun W_ => by simp [go_sem, sEv, sLook, nbeq, i64_w, -List.length_flatten]) (fun W_ hW_ F_ => ?_) ?_
      ·
       have hs_ := (below_of_drew hW_).size
       refine (refnumber_calls W_ _ hI_).mono ?_
       rintro e_ w_2 ⟨A_, n_, c_, rfl, hO_, hb_⟩
       exact ⟨_, rfl, ⟨A_, n_, c_, rfl, hO_.lower (by omega) |>.mono hs_⟩, hb_⟩
      rintro _ ⟨A1, n2, c3, rfl⟩
      refine t_is (.string (strOfNums (numB (bk U_)))) rfl rfl rfl rfl (fun W_ hW_ F_ => by have hO_ := ownspec_fact (F_ 1 _ _ rfl rfl); exact run_as (run_str_of (P := Try.prog) (e := 5) (by kernel_rfl) (by kernel_rfl) (by kernel_rfl) (show (Kd.int .u8).C W_ A1 n2 _ by rw [hO_.len]; exact hO_.C))) ?_
      refine tr (.slice (some ad) b.length c0) ?_
      refine tr (.int .i64 ((1 + z : Nat) : Int)) ?_
      have hP4 := (to_C hC (1 + z) (by omega))
      have hc5 : (b.take (1 + z)).length ≤ c0 := by have q_ := hc; have q2_ : b.length = b.length := rfl; simp only [List.length_take, List.length_drop]; omega
      refine t_is (.slice (some ad) ((b.take (1 + z)).length) c0) rfl rfl rfl rfl (fun W_ hW_ F_ => (run_as (run_to (e := 5) (by kernel_rfl) (fun _ => by kernel_rfl) (1 + z) _ (by first | rfl | (simp; done) | omega) rfl (by omega) hc _))) ?_
      refine t_is (.string (strOfNums (b.take (1 + z)))) rfl rfl rfl rfl (fun W_ hW_ F_ => run_as (run_str_of (P := Try.prog) (e := 5) (by kernel_rfl) (by kernel_rfl) (by kernel_rfl) (Kd.C_below hP4 (chain (Below.refl _ _) (below_of_drew hW_))))) ?_
      refine t_is (.bool (!decide (strOfNums (numB (bk U_)) = strOfNums (b.take (1 + z))))) rfl rfl rfl rfl (fun W_ hW_ F_ => (run_as (run_str_neq 9 _ _ _))) ?_
      refine t_end ?_
      intro w6 hb7_ F8
      have hb7 := below_of_drew hb7_
      have hs_w6 := hb7.size
      refine w_cond rfl rfl (fun cS => ?_) (fun cS => ?_)
      ·
       refine wsr ?_
       refine rv (.int .i64 0) ?_
       refine rv (.int .i64 0) ?_
       refine rw_end ?_
       refine w_ret (post_ret2 rfl rfl rfl ?_)
       have cS_ : ¬ strOfNums (numB (bk U_)) = strOfNums (b.take (1 + z)) := by simpa using cS
       rw [if_neg (fun h => cS_ (toList_inj h))] at hf_
       have e_ : takeP b = (0, 0) := hf_
       exact ⟨by first | (rw [e_]; done) | (rw [e_]; rfl) | (simp [e_]; done) | (rw [e_]; simp only; rw [eK_]; done) | (rw [e_]; simp only; rw [eK_]; simp), hb7⟩
      ·
       refine w_skip ?_
       refine wsr ?_
       refine rv (.int .i64 (bk U_)) ?_
       refine rv (.int .i64 ((1 + z : Nat) : Int)) ?_
       refine rv (.int .i64 (bk U_)) ?_
       refine rv (.int .i64 ((1 + z : Nat) : Int)) ?_
       refine rw_end ?_
       refine w_ret (post_ret2 rfl rfl rfl ?_)
       have cS_ : strOfNums (numB (bk U_)) = strOfNums (b.take (1 + z)) := by simpa using cS
       rw [if_pos (by rw [cS_])] at hf_
       have e_ : takeP b = (bk U_, 1 + z) := hf_
       exact ⟨by first | (rw [e_]; done) | (rw [e_]; rfl) | (simp [e_]; done) | (rw [e_]; simp only; rw [eK_]; done) | (rw [e_]; simp only; rw [eK_]; simp), hb7⟩
     ·
      refine w_skip ?_
      refine w_seq ?_
      refine w_seq ?_
      refine w_draw (M := [0, 1, 3, 0, 0, 24, 56, 127]) (ss := [Is (.int .i64 (bk U_)), OwnSpec w_.heap.size w_.heap.size (numB (bk U_)), Is (.string (strOfNums (numB (bk U_)))), Is (.slice (some ad) b.length c0), Is (.int .i64 ((1 + z : Nat) : Int)), Is (.slice (some ad) ((b.take (1 + z)).length) c0), Is (.string (strOfNums (b.take (1 + z)))), Is (.bool (!decide (strOfNums (numB (bk U_)) = strOfNums (b.take (1 + z)))))]) rfl (by decide +kernel) ?_
      have cO_ : ((U_ % 2 : Nat) : Int) ≠ 1 := by simpa using cO
      have eK_ : bk U_ = ((U_ / 2 : Nat) : Int) := by unfold bk; rw [if_pos (by omega)]; try omega
      refine t_is (.int .i64 (bk U_)) rfl rfl rfl rfl (fun W_ hW_ F_ => (by rw [eK_]; first | rfl | simp)) ?_
      refine t_call (f := 53) (args := #[.int .i64 (bk U_)]) (OwnSpec w_.heap.size w_.heap.size (numB (bk U_))) rfl rfl rfl rfl (fun W_ => by simp [go_sem, sEv, sLook, nbeq, i64_w, -List.length_flatten]) (fun W_ hW_ F_ => ?_) ?_
      ·
       have hs_ := (below_of_drew hW_).size
       refine (refnumber_calls W_ _ hI_).mono ?_
       rintro e_ w_2 ⟨A_, n_, c_, rfl, hO_, hb_⟩
       exact ⟨_, rfl, ⟨A_, n_, c_, rfl, hO_.lower (by omega) |>.mono hs_⟩, hb_⟩
      rintro _ ⟨A9, n10, c11, rfl⟩
      refine t_is (.string (strOfNums (numB (bk U_)))) rfl rfl rfl rfl (fun W_ hW_ F_ => by have hO_ := ownspec_fact (F_ 1 _ _ rfl rfl); exact run_as (run_str_of (P := Try.prog) (e := 5) (by kernel_rfl) (by kernel_rfl) (by kernel_rfl) (show (Kd.int .u8).C W_ A9 n10 _ by rw [hO_.len]; exact hO_.C))) ?_
      refine tr (.slice (some ad) b.length c0) ?_
      refine tr (.int .i64 ((1 + z : Nat) : Int)) ?_
      have hP12 := (to_C hC (1 + z) (by omega))
      have hc13 : (b.take (1 + z)).length ≤ c0 := by have q_ := hc; have q2_ : b.length = b.length := rfl; simp only [List.length_take, List.length_drop]; omega
      refine t_is (.slice (some ad) ((b.take (1 + z)).length) c0) rfl rfl rfl rfl (fun W_ hW_ F_ => (run_as (run_to (e := 5) (by kernel_rfl) (fun _ => by kernel_rfl) (1 + z) _ (by first | rfl | (simp; done) | omega) rfl (by omega) hc _))) ?_
      refine t_is (.string (strOfNums (b.take (1 + z)))) rfl rfl rfl rfl (fun W_ hW_ F_ => run_as (run_str_of (P := Try.prog) (e := 5) (by kernel_rfl) (by kernel_rfl) (by kernel_rfl) (Kd.C_below hP12 (chain (Below.refl _ _) (below_of_drew hW_))))) ?_
      refine t_is (.bool (!decide (strOfNums (numB (bk U_)) = strOfNums (b.take (1 + z))))) rfl rfl rfl rfl (fun W_ hW_ F_ => (run_as (run_str_neq 9 _ _ _))) ?_
      refine t_end ?_
      intro w14 hb15_ F16
      have hb15 := below_of_drew hb15_
      have hs_w14 := hb15.size
      refine w_cond rfl rfl (fun cS => ?_) (fun cS => ?_)
      ·
       refine wsr ?_
       refine rv (.int .i64 0) ?_
       refine rv (.int .i64 0) ?_
       refine rw_end ?_
       refine w_ret (post_ret2 rfl rfl rfl ?_)
       have cS_ : ¬ strOfNums (numB (bk U_)) = strOfNums (b.take (1 + z)) := by simpa using cS
       rw [if_neg (fun h => cS_ (toList_inj h))] at hf_
       have e_ : takeP b = (0, 0) := hf_
       exact ⟨by first | (rw [e_]; done) | (rw [e_]; rfl) | (simp [e_]; done) | (rw [e_]; simp only; rw [eK_]; done) | (rw [e_]; simp only; rw [eK_]; simp), hb15⟩
      ·
       refine w_skip ?_
       refine wsr ?_
       refine rv (.int .i64 ((U_ / 2 : Nat) : Int)) ?_
       refine rv (.int .i64 ((1 + z : Nat) : Int)) ?_
       refine rv (.int .i64 ((U_ / 2 : Nat) : Int)) ?_
       refine rv (.int .i64 ((1 + z : Nat) : Int)) ?_
       refine rw_end ?_
       refine w_ret (post_ret2 rfl rfl rfl ?_)
       have cS_ : strOfNums (numB (bk U_)) = strOfNums (b.take (1 + z)) := by simpa using cS
       rw [if_pos (by rw [cS_])] at hf_
       have e_ : takeP b = (bk U_, 1 + z) := hf_
       exact ⟨by first | (rw [e_]; done) | (rw [e_]; rfl) | (simp [e_]; done) | (rw [e_]; simp only; rw [eK_]; done) | (rw [e_]; simp only; rw [eK_]; simp), hb15⟩
  ·
   refine rok c8 ?_
   refine rok c8 ?_
   refine rok c8 ?_
   refine rok c8 ?_
   refine rok c8 ?_
   refine rok c8 ?_
   refine rok c8 ?_
   refine rok c8 ?_
   refine rz (.bool true) (by first | (simp [go_sem, sEv, sLook, nbeq, i64_w, -List.length_flatten, c8]; done) | (simp [go_sem, sEv, sLook, nbeq, i64_w, -List.length_flatten] <;> omega) | (simp [go_sem, sEv, sLook, nbeq, i64_w, -List.length_flatten]; intro h_; exact absurd (by omega) h_) | (rw [c8]; simp [go_sem, sEv, sLook, nbeq, i64_w, -List.length_flatten]; done)) ?_
   refine rw_end ?_
   refine w_cond_t rfl rfl rfl ?_
   refine wsr ?_
   refine rv (.int .i64 0) ?_
   refine rv (.int .i64 0) ?_
   refine rw_end ?_
   refine w_ret (post_ret2 rfl rfl rfl ?_)
   have e_ : takeP b = (0, 0) := by unfold takeP; rw [if_neg (by simpa using cN), if_pos (of_decide_eq_true c8)]
   exact ⟨by first | (rw [e_]; done) | (rw [e_]; rfl) | (simp [e_]; done) | (rw [e_]; simp only; rw [eK_]; done) | (rw [e_]; simp only; rw [eK_]; simp), (Below.refl _ _)⟩
 ·
  refine rok cN ?_
  refine rok cN ?_
  refine rok cN ?_
  refine rok cN ?_
  refine rz (.bool true) (by first | (simp [go_sem, sEv, sLook, nbeq, i64_w, -List.length_flatten, cN]; done) | (simp [go_sem, sEv, sLook, nbeq, i64_w, -List.length_flatten] <;> omega) | (simp [go_sem, sEv, sLook, nbeq, i64_w, -List.length_flatten]; intro h_; exact absurd (by omega) h_) | (rw [cN]; simp [go_sem, sEv, sLook, nbeq, i64_w, -List.length_flatten]; done)) ?_
  refine rv (.bool true) ?_
  refine ro true ?_
  refine ro true ?_
  refine ro true ?_
  refine ro true ?_
  refine ro true ?_
  refine ro true ?_
  refine ro true ?_
  refine ro true ?_
  refine rs2 (.bool true) ?_
  refine rw_end ?_
  refine w_cond_t rfl rfl rfl ?_
  refine wsr ?_
  refine rv (.int .i64 0) ?_
  refine rv (.int .i64 0) ?_
  refine rw_end ?_
  refine w_ret (post_ret2 rfl rfl rfl ?_)
  have e_ : takeP b = (0, 0) := by unfold takeP; rw [if_pos (by simpa using cN)]
  exact ⟨by first | (rw [e_]; done) | (rw [e_]; rfl) | (simp [e_]; done) | (rw [e_]; simp only; rw [eK_]; done) | (rw [e_]; simp only; rw [eK_]; simp), (Below.refl _ _)⟩
theorem numsP_fuel : ∀ (K L : Nat) (b : List Int) (most : Int) (x : List Int), Bytes b → b.length < K → b.length < L → numsP K b most x = numsP L b most x
  | 0, _, _, _, _, _, h, _ => by omega
  | _ + 1, 0, _, _, _, _, _, h => by omega
  | k + 1, l + 1, b, most, x, hb, h1, h2 => by
    rw [numsP, numsP]
    by_cases c1 : b.length = 0
    · rw [if_pos c1, if_pos c1]
    · rw [if_neg c1, if_neg c1]
      by_cases c2 : (takeP b).2 = 0
      · rw [if_pos c2, if_pos c2]
      · rw [if_neg c2, if_neg c2]
        have h3 := take_back b hb c2
        have hd : (b.drop (takeP b).2).length = b.length - (takeP b).2 := List.length_drop
        exact numsP_fuel k l _ most _ (hb.drop _) (by omega) (by omega)
set_option maxHeartbeats 4000000 in
theorem refnums_calls (w : World) (A0 : Option Addr) (c0 : Nat) (b : List Int) (hC : (Kd.int .u8).C w A0 b.length b) (hc : b.length ≤ c0) (hb : Bytes b) (hl : b.length ≤ 1000000) (most : Int) :
  Calls Try.prog 40 #[.slice A0 b.length c0, .int .i64 most] w fun e w' => ∃ A' n' c', e = .returned (.tuple #[.slice A' n' c', .bool (numsP (b.length + 1) b most []).2]) ∧ Own .i64 3 w' w.heap.size w.heap.size A' n' c' (numsP (b.length + 1) b most []).1 ∧ Below w.heap.size w w' := by
 refine calls_flow Try.func40 rfl 36 rfl (Nat.le_of_ble_eq_true rfl) [(0, .slice A0 b.length c0), (1, .int .i64 most)] ?_ ?_
 ·
  intro t v h; exact args_look rfl t v h
 refine wsr ?_
 refine rv (.slice none 0 0) ?_
 refine rv (.bool false) ?_
 refine rw_end ?_
 refine wsr ?_
 refine rv (.slice none 0 0) ?_
 refine rw_end ?_
 refine w_seq ?_
 refine w_block ?_
 refine w_loop (fun m_ G W_ => ∃ (l_ x_ : List Int) (A_ A6 : Option Addr) (c_ n6 c6 : Nat), l_.length = m_ ∧ l_.length + x_.length ≤ b.length ∧ Bytes l_ ∧ l_.length ≤ c_ ∧ (Kd.int .u8).C w A_ l_.length l_ ∧ Own .i64 3 W_ w.heap.size w.heap.size A6 n6 c6 x_ ∧ Below w.heap.size w W_ ∧ numsP (b.length + 1) b most [] = numsP (m_ + 1) l_ most x_ ∧ G = [(0, .slice A_ l_.length c_), (1, .int .i64 most), (6, .slice A6 n6 c6)]) b.length [(0, .slice A0 b.length c0), (1, .int .i64 most), (6, .slice none 0 0)] ⟨b, [], A0, none, c0, 0, 0, rfl, by simp, hb, hc, hC, Own.nil _ _ _ _ _, (Below.refl _ _), rfl, rfl⟩ ⟨rfl, rfl, rfl, trivial⟩ ?_
 rintro m_ G w_ ⟨l_, x_, A_, A6, c_, n6, c6, rfl, hlx_, hbl_, hcl_, hCl_, hO6_, hBw_, hS_, rfl⟩
 have hs_w_ := hBw_.size
 have hn6_ := hO6_.len
 have hc6_ := hO6_.cap
 refine w_seq ?_
 refine wsr ?_
 refine rv (.slice A_ l_.length c_) ?_
 refine rs2 (.int .i64 (l_.length : Int)) ?_
 refine rs2 (.bool (decide (0 < (l_.length : Int)))) ?_
 refine rw_end ?_
 refine w_cond rfl rfl (fun cL => ?_) (fun cL => ?_)
 ·
  refine w_skip ?_
  refine w_block ?_
  refine wsr ?_
  refine rv (.slice A_ l_.length c_) ?_
  refine rw_call rfl rfl rfl rfl (f := 61) (args := #[.slice A_ l_.length c_]) (by simp [go_sem, sEv, sLook, nbeq, i64_w, -List.length_flatten]) (reftake_calls w_ _ _ l_ (Kd.C_below hCl_ hBw_) hcl_ hbl_ (by omega)) ?_
  rintro e_ w1 ⟨rfl, hb2⟩
  refine ⟨_, rfl, ?_⟩
  have hs_w1 := hb2.size
  refine rv (.tuple #[.int .i64 ((takeP l_).1), .int .i64 (((takeP l_).2 : Nat) : Int)]) ?_
  refine rs2 (.int .i64 ((takeP l_).1)) ?_
  refine rs2 (.int .i64 (((takeP l_).2 : Nat) : Int)) ?_
  refine rv (.int .i64 ((takeP l_).1)) ?_
  refine rv (.int .i64 (((takeP l_).2 : Nat) : Int)) ?_
  refine rw_end ?_
  refine w_seq ?_
  refine wsr ?_
  refine rv (.int .i64 (((takeP l_).2 : Nat) : Int)) ?_
  refine rs2 (.bool ((((takeP l_).2 : Nat) : Int) == 0)) ?_
  refine rw_end ?_
  refine w_cond rfl rfl (fun cZ => ?_) (fun cZ => ?_)
  ·
   refine wsr ?_
   refine rv (.slice none 0 0) ?_
   refine rv (.bool false) ?_
   refine rw_end ?_
   refine w_ret (post_ret2 rfl rfl rfl ?_)
   have cL_ := of_decide_eq_true cL
   have e_ : numsP (l_.length + 1) l_ most x_ = ([], false) := by rw [numsP, if_neg (by omega), if_pos (by simpa using cZ)]
   rw [hS_.trans e_]
   refine ⟨_, _, _, rfl, ?_, (chain hBw_ hb2)⟩
   exact Own.nil _ _ _ _ _
  ·
   refine w_skip ?_
   refine wsr ?_
   refine rv (.slice A6 n6 c6) ?_
   refine rv (.int .i64 ((takeP l_).1)) ?_
   have cZ_ : ¬ (takeP l_).2 = 0 := by simpa using cZ
   have ht_ := take_back l_ hbl_ cZ_
   refine rw_new (cs := #[.int .i64 (takeP l_).1]) (t := 3) (fun g => .slice (some ⟨g, 0, none⟩) 1 1) rfl rfl rfl rfl (by kernel_rfl) ?_
   intro g3 w4 hg8 hz7 hb5 hk6
   have hs_w4 := hb5.size
   have hO9 : Own .i64 3 w4 w.heap.size g3 (some ⟨g3, 0, none⟩) 1 1 [(takeP l_).1] := own_blk (xs := [(takeP l_).1]) w.heap.size hk6 (by omega) rfl (by simp) (by omega) (fun j hj => by
    match j, hj with
    | 0, _ => rfl
    | j + 1, hj => simp at hj)
   have ho_ := (hO6_.on (chain hb2 hb5))
   refine rw_append_row .i64 w.heap.size rfl rfl rfl (.tmp 19) (.tmp 21) rfl rfl 22 3 8 rfl (by kernel_rfl) info3 (by decide) (b := w.heap.size) rfl rfl (by omega) ho_ (show (Kd.int .i64).C _ _ 1 [(takeP l_).1] by exact (Kd.C_below (Own.C hO9) (Below.refl _ _))) (chain (chain hBw_ hb2) hb5) (by omega) (by omega) ?_
   intro A10 n11 c12 w13 hn14 hO15 hB16 hG17
   have hs_w13 := hB16.size
   have hgs_w13 := hG17.size
   refine rv (.slice A10 n11 c12) ?_
   refine rw_end ?_
   refine w_region ?_
   refine rv (.slice A_ l_.length c_) ?_
   refine rv (.int .i64 (((takeP l_).2 : Nat) : Int)) ?_
   have hP18 := (from_C hCl_ ((takeP l_).2) (by omega) (show l_.length ≤ c_ by have q_ := hcl_; have q2_ : l_.length = l_.length := rfl; omega))
   have hc19 : (l_.drop ((takeP l_).2)).length ≤ (c_ - (takeP l_).2) := by have q_ := hcl_; have q2_ : l_.length = l_.length := rfl; simp only [List.length_take, List.length_drop]; omega
   refine rz (.slice (adr A_ c_ ((takeP l_).2)) ((l_.drop ((takeP l_).2)).length) (c_ - (takeP l_).2)) (run_as (run_from (e := 5) (by kernel_rfl) (fun _ => by kernel_rfl) ((takeP l_).2) _ (by first | rfl | (simp; done) | omega) rfl (by omega) hcl_ _)) ?_
   refine rv (.slice (adr A_ c_ ((takeP l_).2)) ((l_.drop ((takeP l_).2)).length) (c_ - (takeP l_).2)) ?_
   refine rw_end ?_
   refine w_blk ?_
   have e_ : numsP (l_.length + 1) l_ most x_ = numsP l_.length (l_.drop (takeP l_).2) most (x_ ++ [(takeP l_).1]) := by rw [numsP, if_neg (by omega), if_neg cZ_]
   have hdl_ : (l_.drop (takeP l_).2).length = l_.length - (takeP l_).2 := List.length_drop
   have hf_ : numsP l_.length (l_.drop (takeP l_).2) most (x_ ++ [(takeP l_).1]) = numsP ((l_.drop (takeP l_).2).length + 1) (l_.drop (takeP l_).2) most (x_ ++ [(takeP l_).1]) := numsP_fuel _ _ _ _ _ (hbl_.drop _) (by omega) (by omega)
   exact w_back (l_.drop (takeP l_).2).length [(0, .slice (adr A_ c_ ((takeP l_).2)) (l_.drop ((takeP l_).2)).length (c_ - (takeP l_).2)), (1, .int .i64 most), (6, .slice A10 n11 c12)] (by omega) ⟨rfl, rfl, rfl, trivial⟩ ⟨l_.drop (takeP l_).2, x_ ++ [(takeP l_).1], _, _, _, _, _, rfl, by simp only [List.length_append, List.length_singleton]; omega, hbl_.drop _, by omega, hP18, Own.mono (hO15.on (Below.refl _ _)) (by omega), hB16, hS_.trans (e_.trans hf_), rfl⟩
 ·
  refine w_exit rfl ?_
  refine w_seq ?_
  refine wsr ?_
  refine rv (.slice A6 n6 c6) ?_
  refine rs2 (.int .i64 (n6 : Int)) ?_
  refine rs2 (.bool (decide (0 < (n6 : Int)))) ?_
  refine rv (.bool (decide (0 < (n6 : Int)))) ?_
  rcases bcase (decide (0 < (n6 : Int))) with cP | cP
  ·
   refine rok cP ?_
   refine rok cP ?_
   refine rok cP ?_
   refine rok cP ?_
   refine rz (.bool false) (by first | (simp [go_sem, sEv, sLook, nbeq, i64_w, -List.length_flatten, cP]; done) | (simp [go_sem, sEv, sLook, nbeq, i64_w, -List.length_flatten] <;> omega) | (simp [go_sem, sEv, sLook, nbeq, i64_w, -List.length_flatten]; intro h_; exact absurd (by omega) h_) | (rw [cP]; simp [go_sem, sEv, sLook, nbeq, i64_w, -List.length_flatten]; done)) ?_
   refine rw_end ?_
   refine w_cond_f rfl rfl rfl ?_
   refine w_skip ?_
   refine wsr ?_
   refine rv (.slice A6 n6 c6) ?_
   refine rv (.slice A6 n6 c6) ?_
   refine rv (.bool true) ?_
   refine rw_end ?_
   refine w_ret (post_ret2 rfl rfl rfl ?_)
   have cL_ := of_decide_eq_false cL
   have cP_ := of_decide_eq_false cP
   have cM_ : True := trivial
   have e_ : numsP (l_.length + 1) l_ most x_ = (x_, true) := by rw [numsP, if_pos (by omega), if_neg (by rintro ⟨h1_, h2_⟩; omega)]
   rw [hS_.trans e_]
   refine ⟨_, _, _, rfl, ?_, hBw_⟩
   exact (hO6_.on (Below.refl _ _))
  ·
   refine rnk cP ?_
   refine rv (.slice A6 n6 c6) ?_
   refine rnk cP ?_
   refine rs2 (.int .i64 (n6 : Int)) ?_
   refine rnk cP ?_
   refine rv (.int .i64 most) ?_
   refine rnk cP ?_
   refine rs2 (.bool (decide (most < (n6 : Int)))) ?_
   refine rz (.bool (decide (most < (n6 : Int)))) (by first | (simp [go_sem, sEv, sLook, nbeq, i64_w, -List.length_flatten, cP]; done) | (simp [go_sem, sEv, sLook, nbeq, i64_w, -List.length_flatten] <;> omega) | (simp [go_sem, sEv, sLook, nbeq, i64_w, -List.length_flatten]; intro h_; exact absurd (by omega) h_) | (rw [cP]; simp [go_sem, sEv, sLook, nbeq, i64_w, -List.length_flatten]; done)) ?_
   refine rw_end ?_
   refine w_cond rfl rfl (fun cM => ?_) (fun cM => ?_)
   ·
    refine wsr ?_
    refine rv (.slice none 0 0) ?_
    refine rv (.bool false) ?_
    refine rw_end ?_
    refine w_ret (post_ret2 rfl rfl rfl ?_)
    have cL_ := of_decide_eq_false cL
    have cP_ := of_decide_eq_true cP
    have cM_ := of_decide_eq_true cM
    have e_ : numsP (l_.length + 1) l_ most x_ = ([], false) := by rw [numsP, if_pos (by omega), if_pos ⟨by omega, by omega⟩]
    rw [hS_.trans e_]
    refine ⟨_, _, _, rfl, ?_, hBw_⟩
    exact Own.nil _ _ _ _ _
   ·
    refine w_skip ?_
    refine wsr ?_
    refine rv (.slice A6 n6 c6) ?_
    refine rv (.slice A6 n6 c6) ?_
    refine rv (.bool true) ?_
    refine rw_end ?_
    refine w_ret (post_ret2 rfl rfl rfl ?_)
    have cL_ := of_decide_eq_false cL
    have cP_ : True := trivial
    have cM_ := of_decide_eq_false cM
    have e_ : numsP (l_.length + 1) l_ most x_ = (x_, true) := by rw [numsP, if_pos (by omega), if_neg (by rintro ⟨h1_, h2_⟩; omega)]
    rw [hS_.trans e_]
    refine ⟨_, _, _, rfl, ?_, hBw_⟩
    exact (hO6_.on (Below.refl _ _))
end Go.Proofs.Ytbbhdohjhipalaa.PNoteReads
end
