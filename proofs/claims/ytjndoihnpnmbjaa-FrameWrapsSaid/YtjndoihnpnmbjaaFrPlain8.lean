/- The document's sums and frames: plain facts. -/
import Derived.Test.YtjndoihnpnmbjaaFrRef3
import Derived.Test.YtjndoihnpnmbjaaFrPlain3
namespace Go.Proofs.Ytjndoihnpnmbjaa.PFrameSums
open Go.RowKit Go.Proofs.YtjndoihnpnmbjaaW.PrintWords Go.Proofs.YtjndoihnpnmbjaaW.PrintLast Go.Proofs.YtjndoihnpnmbjaaW.PrintMore
open Go.Proofs.Ytjndoihnpnmbjaa.Flow
set_option linter.unusedVariables false
set_option linter.unusedSimpArgs false
theorem u64_w (x : Int) : IntKind.u64.wrap x = x % 18446744073709551616 := by simp [IntKind.wrap, IntKind.bits, IntKind.signed]
theorem shl_one (i : Nat) (hi : i ≤ 8) : shl .u64 1 (IntKind.u64.wrap (i : Int)) = ((2 ^ i : Nat) : Int) := by
  have e : IntKind.u64.wrap (i : Int) = (i : Int) := by rw [u64_w]; omega
  rw [e]
  match i, hi with
  | 0, _ => rfl
  | 1, _ => rfl
  | 2, _ => rfl
  | 3, _ => rfl
  | 4, _ => rfl
  | 5, _ => rfl
  | 6, _ => rfl
  | 7, _ => rfl
  | 8, _ => rfl
  | i + 9, h => omega
theorem xor_high (s c : Nat) (hc : c < 256) : s ^^^ c = (s - s % 256) + (s % 256 ^^^ c) := by
  have h1 : (s ^^^ c) / 256 = s / 256 := by
    have h := Nat.xor_div_two_pow (a := s) (b := c) (n := 8)
    rw [show (2 : Nat) ^ 8 = 256 from rfl, Nat.div_eq_of_lt hc, Nat.xor_zero] at h
    exact h
  have h2 : (s ^^^ c) % 256 = (s % 256) ^^^ c := by
    have h := Nat.xor_mod_two_pow (a := s) (b := c) (n := 8)
    rw [show (2 : Nat) ^ 8 = 256 from rfl, Nat.mod_eq_of_lt hc] at h
    exact h
  have h3 := Nat.div_add_mod (s ^^^ c) 256
  have h4 := Nat.div_add_mod s 256
  rw [h1, h2] at h3
  omega
theorem bit_step (x y i : Nat) : (x ^^^ y) % 2 ^ (i + 1) = (x ^^^ y) % 2 ^ i + (if x / 2 ^ i % 2 = y / 2 ^ i % 2 then 0 else 2 ^ i) := by
  rw [Nat.pow_succ, Nat.mod_mul, Nat.xor_div_two_pow]
  have h0 := Nat.xor_mod_two_pow (a := x / 2 ^ i) (b := y / 2 ^ i) (n := 1)
  rw [show (2 : Nat) ^ 1 = 2 from rfl] at h0
  rw [h0]
  have h1 := Nat.mod_two_eq_zero_or_one (x / 2 ^ i)
  have h2 := Nat.mod_two_eq_zero_or_one (y / 2 ^ i)
  rcases h1 with h1 | h1 <;> rcases h2 with h2 | h2 <;> rw [h1, h2] <;> simp
theorem quo_bit (L p : Nat) (hL : L < 256) : Int.tmod (IntKind.u64.wrap (Int.tdiv (L : Int) (p : Int))) 2 = ((L / p % 2 : Nat) : Int) := by
  rw [Int.tdiv_eq_ediv_of_nonneg (by omega), ← Int.natCast_ediv, u64_w]
  have h : L / p ≤ L := Nat.div_le_self _ _
  generalize L / p = q at h ⊢
  rw [Int.emod_eq_of_lt (by omega) (by omega), Int.tmod_eq_emod_of_nonneg (by omega)]
  omega
/-- The last step of a byte. -/
theorem last_mul (y : Nat) (h : y < 4294967296) : Int.tmod (IntKind.u64.wrap ((y : Int) * 16777619)) 4294967296 = ((y * 16777619 % 4294967296 : Nat) : Int) := by
  rw [u64_w, Int.emod_eq_of_lt (by omega) (by omega), Int.tmod_eq_emod_of_nonneg (by omega)]
  omega
theorem bit_add (X x p y : Nat) (hx : x = y + p) (hy : y < p) (hp : p ≤ 128) (hX : X + 256 ≤ 4294967296) : IntKind.u64.wrap (((X + y : Nat) : Int) + (p : Int)) = ((X + x : Nat) : Int) := by
  rw [u64_w]
  omega
theorem u64_nonneg (x : Int) : 0 ≤ IntKind.u64.wrap x := by rw [u64_w]; omega
theorem u64_small (c : Nat) (h : c < 256) : IntKind.u64.wrap (c : Int) = (c : Int) := by rw [u64_w]; omega
theorem wrap_succ (i : Nat) (h : i ≤ 1000000) : wrap64 ((i : Int) + 1) = ((i + 1 : Nat) : Int) := by rw [wrap_id (by omega) (by omega)]; omega
theorem cast_ne (p : Nat) (h : 0 < p) : ¬ ((p : Int) = 0) := by omega
theorem cast_lt8 (i : Nat) (h : i < 8) : (i : Int) < 8 := by omega
theorem refsum_step0 (b : List Int) (at_ : Nat) (hat : at_ < b.length) (X L c x y p i k : Nat) (hL : L < 256) (hc : c < 256) (hr : rd b (at_ : Int) = (c : Int)) (hX : X + 256 ≤ 4294967296) (hi : i < 8) (hp : 0 < p) (hp8 : p ≤ 128) (hm : y < p)
    (hs : x = y + (if L / p % 2 = c / p % 2 then 0 else p)) (hsh : shl .u64 1 (IntKind.u64.wrap (i : Int)) = (p : Int)) :
    estuaryref04_Sum.l1 (k + 1) b ((X + y : Nat) : Int) (at_ : Int) (L : Int) (i : Int) = estuaryref04_Sum.l1 k b ((X + x : Nat) : Int) (at_ : Int) (L : Int) ((i + 1 : Nat) : Int) := by
  have q1 := quo_bit L p hL
  have q2 := quo_bit c p hc
  rw [estuaryref04_Sum.l1, if_pos (cast_lt8 i hi), if_pos (u64_nonneg _), hsh, if_neg (cast_ne p hp), if_pos (Int.natCast_nonneg _), if_pos (Int.ofNat_lt.2 hat), hr, u64_small c hc, q1, q2, wrap_succ i (Nat.le_of_lt (Nat.lt_trans hi (by decide)))]
  by_cases hb : L / p % 2 = c / p % 2
  · rw [if_pos (by rw [hb])]
    rw [if_pos hb, Nat.add_zero] at hs
    rw [hs]
  · rw [if_neg (fun h => hb (by exact_mod_cast h))]
    rw [if_neg hb] at hs
    rw [bit_add X x p y hs hm hp8 hX]
theorem two7 (i : Nat) (h : i < 8) : 2 ^ i ≤ 128 := Nat.pow_le_pow_right (n := 2) (show 0 < 2 by decide) (show i ≤ 7 by omega)
theorem refsum_step (b : List Int) (at_ : Nat) (hat : at_ < b.length) (X L c : Nat) (hL : L < 256) (hc : c < 256) (hr : rd b (at_ : Int) = (c : Int)) (hX : X + 256 ≤ 4294967296) (i k : Nat) (hi : i < 8) :
    estuaryref04_Sum.l1 (k + 1) b ((X + (L ^^^ c) % 2 ^ i : Nat) : Int) (at_ : Int) (L : Int) (i : Int) = estuaryref04_Sum.l1 k b ((X + (L ^^^ c) % 2 ^ (i + 1) : Nat) : Int) (at_ : Int) (L : Int) ((i + 1 : Nat) : Int) :=
  refsum_step0 b at_ hat X L c _ _ (2 ^ i) i k hL hc hr hX hi (Nat.two_pow_pos i) (two7 i hi) (Nat.mod_lt _ (Nat.two_pow_pos i)) (bit_step L c i) (shl_one i (Nat.le_of_lt hi))
theorem refsum_l1 (b : List Int) (at_ : Nat) (hat : at_ < b.length) (X L c : Nat) (hL : L < 256) (hc : c < 256) (hr : rd b (at_ : Int) = (c : Int)) (hX : X + 256 ≤ 4294967296) (R : Option Int) (K0 : Nat)
    (hR : ∀ K, K0 ≤ K → estuaryref04_Sum.l0 K b ((((X + (L ^^^ c)) * 16777619 % 4294967296 : Nat)) : Int) (wrap64 ((at_ : Int) + 1)) = R) :
    ∀ (m i K : Nat), i + m = 8 → m + 1 + K0 ≤ K → estuaryref04_Sum.l1 K b ((X + (L ^^^ c) % 2 ^ i : Nat) : Int) (at_ : Int) (L : Int) (i : Int) = R := by
  intro m
  induction m with
  | zero =>
    intro i K hi hK
    obtain ⟨k, rfl⟩ : ∃ k, K = k + 1 := ⟨K - 1, by omega⟩
    obtain rfl : i = 8 := by omega
    have hx : L ^^^ c < 256 := Nat.xor_lt_two_pow (n := 8) hL hc
    have e8 : (L ^^^ c) % 2 ^ 8 = L ^^^ c := Nat.mod_eq_of_lt hx
    rw [estuaryref04_Sum.l1, if_neg (by decide), e8, last_mul _ (by omega)]
    exact hR k (by omega)
  | succ m ih =>
    intro i K hi hK
    obtain ⟨k, rfl⟩ : ∃ k, K = k + 1 := ⟨K - 1, by omega⟩
    rw [refsum_step b at_ hat X L c hL hc hr hX i k (by omega)]
    exact ih (i + 1) k (by omega) (by omega)
theorem refsum_l0 (b : List Int) (hb : Bytes b) (hl : b.length ≤ 1000000) : ∀ (m K at_ S : Nat), 10 * m + 1 ≤ K → at_ + m = b.length → S < 4294967296 → estuaryref04_Sum.l0 K b (S : Int) (at_ : Int) = some (fnv (S : Int) (b.drop at_))
  | 0, K, at_, S, hK, hm, hS => by
    obtain ⟨k, rfl⟩ : ∃ k, K = k + 1 := ⟨K - 1, by omega⟩
    rw [estuaryref04_Sum.l0, if_neg (by omega), List.drop_of_length_le (by omega)]
    show some ((S : Int) % 4294967296) = some (S : Int)
    congr 1
    omega
  | m + 1, K, at_, S, hK, hm, hS => by
    obtain ⟨k, rfl⟩ : ∃ k, K = k + 1 := ⟨K - 1, by omega⟩
    have hlt : at_ < b.length := by omega
    have hc := hb b[at_] (List.getElem_mem hlt)
    have hr := rd_at b at_ hlt
    obtain ⟨c, hcn⟩ : ∃ c : Nat, b[at_] = (c : Int) := ⟨b[at_].toNat, by omega⟩
    rw [hcn] at hc hr
    have hmod : Int.tmod (S : Int) 256 = ((S % 256 : Nat) : Int) := by rw [Int.tmod_eq_emod_of_nonneg (by omega)]; omega
    have hsub : IntKind.u64.wrap ((S : Int) - ((S % 256 : Nat) : Int)) = ((S - S % 256 + (S % 256 ^^^ c) % 2 ^ 0 : Nat) : Int) := by
      rw [u64_w, Nat.pow_zero, Nat.mod_one]
      omega
    have ha1 : wrap64 ((at_ : Int) + 1) = ((at_ + 1 : Nat) : Int) := by rw [wrap_id (by omega) (by omega)]; omega
    rw [estuaryref04_Sum.l0, if_pos (by omega), hmod, hsub]
    have hx := xor_high S c (by omega)
    have hstep : stepS (S : Int) (c : Int) = (((S - S % 256 + (S % 256 ^^^ c)) * 16777619 % 4294967296 : Nat) : Int) := by
      rw [stepS_eq S c hS (by omega), hx]
      generalize S - S % 256 + (S % 256 ^^^ c) = y
      omega
    have hd : fnv (S : Int) (b.drop at_) = fnv (((S - S % 256 + (S % 256 ^^^ c)) * 16777619 % 4294967296 : Nat) : Int) (b.drop (at_ + 1)) := by
      rw [List.drop_eq_getElem_cons hlt, hcn, ← hstep]
      rfl
    rw [hd]
    refine refsum_l1 b at_ hlt (S - S % 256) (S % 256) c (by omega) (by omega) hr (by omega) _ (10 * m + 1) (fun K' hK' => ?_) 8 0 k rfl (by omega)
    rw [ha1]
    exact refsum_l0 b hb hl m K' (at_ + 1) _ hK' (by omega) (Nat.mod_lt _ (by decide))
theorem refsum_f (b : List Int) (hb : Bytes b) (hl : b.length ≤ 1000000) (K : Nat) (hK : 10 * b.length + 1 ≤ K) : estuaryref04_Sum.f K b = some (fnv 2166136261 b) :=
  refsum_l0 b hb hl b.length K 0 2166136261 hK (by omega) (by omega)
theorem four_f (n : Nat) (hn : n < 4294967296) : estuaryref04_four.f (n : Int) = some (lowl (n : Int) 4 0) := by
  have e : ∀ i : Nat, i ≤ 8 → (shr .u64 (n : Int) (8 * (i : Int))) % 256 = ((n / 2 ^ (8 * i) % 256 : Nat) : Int) := fun i hi => by
    rw [shr_nat n i hi]
    omega
  show some [(n : Int) % 256, ((Int.tdiv n 256) % 4294967296) % 256, ((Int.tdiv n 65536) % 4294967296) % 256, ((Int.tdiv n 16777216) % 4294967296) % 256] = _
  simp only [lowl]
  rw [e 0 (by omega), e (0 + 1) (by omega), e (0 + 1 + 1) (by omega), e (0 + 1 + 1 + 1) (by omega), Int.tdiv_eq_ediv_of_nonneg (by omega), Int.tdiv_eq_ediv_of_nonneg (by omega), Int.tdiv_eq_ediv_of_nonneg (by omega)]
  have e0 : (n : Int) % 256 = ((n / 2 ^ (8 * 0) % 256 : Nat) : Int) := by
    rw [show (2 : Nat) ^ (8 * 0) = 1 from rfl]; omega
  have e1 : ((n : Int) / 256) % 4294967296 % 256 = ((n / 2 ^ (8 * (0 + 1)) % 256 : Nat) : Int) := by
    rw [show (2 : Nat) ^ (8 * (0 + 1)) = 256 from rfl]; omega
  have e2 : ((n : Int) / 65536) % 4294967296 % 256 = ((n / 2 ^ (8 * (0 + 1 + 1)) % 256 : Nat) : Int) := by
    rw [show (2 : Nat) ^ (8 * (0 + 1 + 1)) = 65536 from rfl]; omega
  have e3 : ((n : Int) / 16777216) % 4294967296 % 256 = ((n / 2 ^ (8 * (0 + 1 + 1 + 1)) % 256 : Nat) : Int) := by
    rw [show (2 : Nat) ^ (8 * (0 + 1 + 1 + 1)) = 16777216 from rfl]; omega
  rw [e0, e1, e2, e3]
def errN (b : List Int) : Int := if 16376 < b.length then 7 else 0
theorem refwrap_f (b : List Int) (hb : Bytes b) (hl : b.length ≤ 1000000) (K : Nat) (hK : 10 * b.length + 1 ≤ K) : estuaryref04_Wrap.f K b = some (frameB b, errN b) := by
  unfold estuaryref04_Wrap.f frameB errN
  by_cases h : 16376 < b.length
  · rw [if_pos (by omega), if_pos h, if_pos h]
  · have hS := fnv_range b 2166136261 (by omega)
    obtain ⟨S, hSn⟩ := Int.eq_ofNat_of_zero_le hS.1
    have e : (b.length : Int) % 4294967296 = (b.length : Int) := by omega
    rw [if_neg (by omega), if_neg h, if_neg h, e, four_f b.length (by omega), Option.bind_some, refsum_f b hb hl K hK, Option.bind_some, hSn, four_f S (by omega), Option.bind_some, if_pos (by rw [lowl_len, lowl_len]; omega), Option.bind_some, if_pos (by rw [List.length_append, lowl_len, lowl_len]; omega)]
/-- Tried: does the frame of those bytes stand there? -/
theorem fin_whole (b : List Int) (hb : Bytes b) (n : Nat) (hn : valN (b.take 4) = n) (h8 : 8 + n ≤ b.length) (h16 : n ≤ 16376) : wholeP b = if frameB ((b.take (8 + n)).drop 8) = b.take (8 + n) then 8 + n else 0 := by
  have eX : (b.take (8 + n)).drop 8 = (b.drop 8).take n := by rw [List.drop_take]; congr 1; omega
  have lX : ((b.drop 8).take n).length = n := by rw [List.length_take, List.length_drop]; omega
  have hS := fnv_range ((b.drop 8).take n) 2166136261 (by omega)
  obtain ⟨S, hSn⟩ := Int.eq_ofNat_of_zero_le hS.1
  obtain ⟨p, q, h, hp, hq, h1, h2⟩ := frameB_parts ((b.drop 8).take n) (by omega)
  have hqv : valN q = S := by rw [hq, hSn]; exact valN_low4 S (by omega)
  have hpv : valN p = n := by rw [hp, lX]; exact valN_low4 n (by omega)
  have e3 : b.take (8 + n) = (b.take 4 ++ (b.take 8).drop 4) ++ (b.drop 8).take n := by
    have e4 : b.take 4 ++ (b.take 8).drop 4 = b.take 8 := by
      have := List.take_append_drop 4 (b.take 8)
      rw [List.take_take, Nat.min_eq_left (by omega)] at this
      exact this
    rw [e4, ← List.take_add]
  have l4 : (b.take 4).length = 4 := by rw [List.length_take]; omega
  have l8 : ((b.take 8).drop 4).length = 4 := by rw [List.length_drop, List.length_take]; omega
  have iff1 : frameB ((b.take (8 + n)).drop 8) = b.take (8 + n) ↔ S = valN ((b.take 8).drop 4) := by
    rw [eX, h, e3]
    constructor
    · intro hh
      have h5 := List.append_cancel_right hh
      have h6 := (List.append_inj h5 (by omega)).2
      rw [← h6, hqv]
    · intro hh
      have h5 : q = (b.take 8).drop 4 := valN_inj _ _ (by rw [hq]; exact lowl_bytes _ _ _) ((hb.take _).drop _) (by omega) (by rw [hqv, hh])
      have h6 : p = b.take 4 := valN_inj _ _ (by rw [hp]; exact lowl_bytes _ _ _) (hb.take _) (by omega) (by rw [hpv, hn])
      rw [h5, h6]
  unfold wholeP
  rw [if_neg (by omega), hn, if_neg (by omega), if_neg (by omega), hSn]
  by_cases hh : S = valN ((b.take 8).drop 4)
  · rw [if_pos (by rw [hh]), if_pos (iff1.2 hh)]
  · rw [if_neg (by omega), if_neg (fun h => hh (iff1.1 h))]
theorem val4 (b : List Int) (hb : Bytes b) (hl : 4 ≤ b.length) : ((valN (b.take 4) : Nat) : Int) = rd b 0 + 256 * rd b 1 + 65536 * rd b 2 + 16777216 * rd b 3 := by
  match b, hl with
  | c0 :: c1 :: c2 :: c3 :: r, _ =>
    have h0 := hb c0 (by simp)
    have h1 := hb c1 (by simp)
    have h2 := hb c2 (by simp)
    have h3 := hb c3 (by simp)
    have e0 : rd (c0 :: c1 :: c2 :: c3 :: r) 0 = c0 := rfl
    have e1 : rd (c0 :: c1 :: c2 :: c3 :: r) 1 = c1 := rfl
    have e2 : rd (c0 :: c1 :: c2 :: c3 :: r) 2 = c2 := rfl
    have e3 : rd (c0 :: c1 :: c2 :: c3 :: r) 3 = c3 := rfl
    have e : valN ((c0 :: c1 :: c2 :: c3 :: r).take 4) = c0.toNat + 256 * (c1.toNat + 256 * (c2.toNat + 256 * (c3.toNat + 256 * 0))) := rfl
    rw [e, e0, e1, e2, e3]
    omega
theorem splitR_one : ∀ {b : List Int} {l : List (List Int)} {n : Nat}, SplitR b l n → ∀ {l' n'}, SplitR b l' n' → l = l' ∧ n = n' := by
  intro b l n h
  induction h with
  | none b h0 =>
    intro l' n' h'
    cases h' with
    | none => exact ⟨rfl, rfl⟩
    | some _ _ _ h1 _ => exact absurd h0 h1
  | some b l n h0 _ ih =>
    intro l' n' h'
    cases h' with
    | none _ h1 => exact absurd h1 h0
    | some _ l2 n2 _ h2 =>
      obtain ⟨rfl, rfl⟩ := ih h2
      exact ⟨rfl, rfl⟩
end Go.Proofs.Ytjndoihnpnmbjaa.PFrameSums
