/- Numbers as bytes, there and back: plain facts. -/
import Derived.Test.YtjndoihnpnmbjaaFrPlain2
import Derived.Laws.Bits64
namespace Go.Proofs.Ytjndoihnpnmbjaa.PFrameSums
open Go.RowKit Go.Proofs.YtjndoihnpnmbjaaW.PrintWords Go.Proofs.YtjndoihnpnmbjaaW.PrintLast Go.Proofs.YtjndoihnpnmbjaaW.PrintMore
open Go.Proofs.Ytjndoihnpnmbjaa.Flow
set_option linter.unusedVariables false
set_option linter.unusedSimpArgs false
def I64 (n : Int) : Prop := -9223372036854775808 ≤ n ∧ n ≤ 9223372036854775807
/-- A number with its sign lowest, and back. -/
def tn (n : Int) : Nat := if 0 ≤ n then 2 * n.toNat else 2 * (-n - 1).toNat + 1
def bk (u : Nat) : Int := if u % 2 = 0 then ((u / 2 : Nat) : Int) else -((u / 2 : Nat) : Int) - 1
theorem tn_lt {n : Int} (h : I64 n) : tn n < 18446744073709551616 := by
  have h1 := h.1
  have h2 := h.2
  unfold tn
  split <;> omega
theorem bk_tn (n : Int) : bk (tn n) = n := by
  unfold bk tn
  split <;> split <;> omega
theorem tn_bk (u : Nat) : tn (bk u) = u := by
  unfold bk tn
  split <;> split <;> omega
theorem bk_range {u : Nat} (h : u < 18446744073709551616) : I64 (bk u) := by
  unfold bk I64
  split <;> omega
theorem xor_ones64 (x : Nat) (hx : x < 18446744073709551616) : Go.bits .xor .u64 (x : Int) 18446744073709551615 = ((18446744073709551615 - x : Nat) : Int) := by
  show IntKind.u64.wrap ((BitVec.ofInt 64 (x : Int) ^^^ BitVec.ofInt 64 18446744073709551615).toNat : Int) = _
  have h3 : BitVec.ofInt 64 18446744073709551615 = BitVec.allOnes 64 := by decide
  rw [h3, BitVec.xor_allOnes, BitVec.toNat_not, BitVec.toNat_ofInt]
  rw [u64_wrap]
  omega
theorem xor_zero64 (x : Nat) (hx : x < 18446744073709551616) : Go.bits .xor .u64 (x : Int) 0 = (x : Int) := by
  have h := bits_xor_u64_nat x 0 hx (by omega)
  rw [Nat.xor_zero] at h
  exact h
theorem turned_f (n : Int) (h : I64 n) : frame_turned.f n = some ((tn n : Nat) : Int) := by
  have h1 := h.1
  have h2 := h.2
  unfold frame_turned.f
  congr 1
  by_cases h0 : 0 ≤ n
  · have e1 : n / 9223372036854775808 = 0 := by omega
    have e2 : IntKind.u64.wrap (IntKind.u64.wrap n * 2) = ((tn n : Nat) : Int) := by
      rw [u64_wrap, u64_wrap]
      unfold tn
      rw [if_pos h0]
      omega
    rw [e1, e2, show IntKind.u64.wrap 0 = 0 from rfl]
    exact xor_zero64 _ (tn_lt h)
  · have e1 : n / 9223372036854775808 = -1 := by omega
    obtain ⟨x, hx⟩ : ∃ x : Nat, x = 18446744073709551615 - tn n := ⟨_, rfl⟩
    have ht : tn n = 2 * (-n - 1).toNat + 1 := by unfold tn; rw [if_neg h0]
    have e2 : IntKind.u64.wrap (IntKind.u64.wrap n * 2) = (x : Int) := by
      rw [u64_wrap, u64_wrap]
      omega
    rw [e1, e2, show IntKind.u64.wrap (-1) = 18446744073709551615 by rw [u64_wrap]; decide, xor_ones64 x (by omega)]
    omega
theorem xor_i64_ones (x : Nat) (hx : x < 9223372036854775808) : Go.bits .xor .i64 (x : Int) (-1) = -(x : Int) - 1 := by
  show IntKind.i64.wrap ((BitVec.ofInt 64 (x : Int) ^^^ BitVec.ofInt 64 (-1)).toNat : Int) = _
  have h3 : BitVec.ofInt 64 (-1) = BitVec.allOnes 64 := by decide
  rw [h3, BitVec.xor_allOnes, BitVec.toNat_not, BitVec.toNat_ofInt]
  simp [IntKind.wrap, IntKind.bits, IntKind.signed]
  omega
theorem xor_i64_zero (x : Nat) (hx : x < 9223372036854775808) : Go.bits .xor .i64 (x : Int) 0 = (x : Int) := by
  show IntKind.i64.wrap ((BitVec.ofInt 64 (x : Int) ^^^ BitVec.ofInt 64 0).toNat : Int) = _
  have h3 : BitVec.ofInt 64 0 = 0#64 := by decide
  rw [h3, BitVec.xor_zero, BitVec.toNat_ofInt]
  simp [IntKind.wrap, IntKind.bits, IntKind.signed]
  omega
theorem back_f (u : Nat) (hu : u < 18446744073709551616) : frame_back.f (u : Int) = some (bk u) := by
  unfold frame_back.f
  congr 1
  have e1 : Go.bits .and .u64 (u : Int) 1 = ((u % 2 : Nat) : Int) := by
    have h := bits_and_u64_nat u 1 hu (by omega)
    rw [Nat.and_one_is_mod] at h
    exact h
  have e2 : wrap64 ((u : Int) / 2) = ((u / 2 : Nat) : Int) := by rw [wrap_id (x := (u : Int) / 2) (by omega) (by omega)]; omega
  rw [e1, e2]
  unfold bk
  by_cases h : u % 2 = 0
  · rw [if_pos h, h]
    rw [show wrap64 (-(wrap64 ((0 : Nat) : Int))) = 0 by unfold wrap64; omega]
    exact xor_i64_zero (u / 2) (by omega)
  · rw [if_neg h, show u % 2 = 1 by omega]
    rw [show wrap64 (-(wrap64 ((1 : Nat) : Int))) = -1 by unfold wrap64; omega]
    exact xor_i64_ones (u / 2) (by omega)
/-- How many bytes, and a number's bytes. -/
def szN (u : Nat) : Nat := (blen u + 7) / 8
def numB (n : Int) : List Int := ((szN (tn n) : Nat) : Int) :: lowl ((tn n : Nat) : Int) (szN (tn n)) 0
def PB (ys : List Int) : List Int := (ys.map numB).flatten
theorem szN_le {u : Nat} (h : u < 18446744073709551616) : szN u ≤ 8 := by
  have h1 : blen u ≤ 64 := blen_le u 64 h
  unfold szN
  omega
theorem numB_len (n : Int) : (numB n).length = 1 + szN (tn n) := by
  unfold numB
  rw [List.length_cons, lowl_len]
  omega
theorem numB_bytes (n : Int) (h : I64 n) : Bytes (numB n) := fun c hc => by
  have h1 := szN_le (tn_lt h)
  unfold numB at hc
  rcases List.mem_cons.1 hc with rfl | hc
  · omega
  · exact lowl_bytes _ _ _ c hc
theorem PB_len (ys : List Int) (h : ∀ y ∈ ys, I64 y) : (PB ys).length ≤ 9 * ys.length := by
  induction ys with
  | nil => simp [PB]
  | cons y ys ih =>
    have h1 := szN_le (tn_lt (h y (by simp)))
    have h2 := numB_len y
    have h3 := ih (fun x hx => h x (List.mem_cons_of_mem _ hx))
    simp only [PB, List.map_cons, List.flatten_cons, List.length_append, List.length_cons] at h3 ⊢
    omega
theorem PB_bytes (ys : List Int) (h : ∀ y ∈ ys, I64 y) : Bytes (PB ys) := by
  induction ys with
  | nil => exact fun c hc => by simp [PB] at hc
  | cons y ys ih => exact (numB_bytes y (h y (by simp))).append (ih (fun x hx => h x (List.mem_cons_of_mem _ hx)))
theorem len_f (k u : Nat) (h : u < 18446744073709551616) : bits_Len64.f k (u : Int) = some ((blen u : Nat) : Int) := by
  unfold bits_Len64.f
  rw [if_pos (by omega), Int.toNat_natCast]
theorem size_w (u : Nat) (h : u < 18446744073709551616) : wrap64 (Int.tdiv (wrap64 (((blen u : Nat) : Int) + 7)) 8) = ((szN u : Nat) : Int) := by
  have hb : blen u ≤ 64 := blen_le _ 64 h
  rw [wrap_id (x := ((blen u : Nat) : Int) + 7) (by omega) (by omega), Int.tdiv_eq_ediv_of_nonneg (by omega)]
  unfold szN
  rw [wrap_id (by omega) (by omega)]
  omega
theorem put_step (ys : List Int) (i k : Nat) (x : List Int) (hk : 9 ≤ k) (hlt : i < ys.length) (hr : I64 ys[i]) (hl : ys.length ≤ 9223372036854775806) (hx : x.length ≤ 100000000) : frame_put.l0 (k + 1) x ys (ys.length : Int) (i : Int) = frame_put.l0 k (x ++ numB ys[i]) ys (ys.length : Int) ((i + 1 : Nat) : Int) := by
  have ht := tn_lt hr
  have hs := szN_le ht
  have e2 : wrap64 ((i : Int) + 1) = ((i + 1 : Nat) : Int) := wrap_id (by omega) (by omega)
  rw [frame_put.l0, if_pos (by omega), if_pos (by omega), if_pos (by omega), rd_at ys i hlt, turned_f _ hr, Option.bind_some, len_f k _ ht, Option.bind_some, if_pos (by omega), size_w _ ht, show ((szN (tn ys[i]) : Nat) : Int) % 256 = ((szN (tn ys[i]) : Nat) : Int) by omega]
  rw [low_f k _ _ (szN (tn ys[i])) hs (by omega) (by simp; omega), Option.bind_some, e2]
  simp only [numB, List.append_assoc, List.singleton_append]
theorem put_l0 (ys : List Int) (hy : ∀ y ∈ ys, I64 y) (hl : ys.length ≤ 9223372036854775806) : ∀ (m K i : Nat) (x : List Int), m + 12 ≤ K → i + m = ys.length → x.length + 9 * m ≤ 100000000 → frame_put.l0 K x ys (ys.length : Int) (i : Int) = some (x ++ PB (ys.drop i)) := by
  intro m
  induction m with
  | zero =>
    intro K i x hK hi hx
    obtain ⟨k, rfl⟩ : ∃ k, K = k + 1 := ⟨K - 1, by omega⟩
    rw [frame_put.l0, if_neg (by omega), List.drop_of_length_le (by omega)]
    simp [PB]
  | succ m ih =>
    intro K i x hK hi hx
    obtain ⟨k, rfl⟩ : ∃ k, K = k + 1 := ⟨K - 1, by omega⟩
    have hlt : i < ys.length := by omega
    have hr := hy ys[i] (List.getElem_mem hlt)
    have hn := numB_len ys[i]
    have hs := szN_le (tn_lt hr)
    rw [put_step ys i k x (by omega) hlt hr hl (by omega), ih k (i + 1) _ (by omega) (by omega) (by rw [List.length_append]; omega)]
    rw [List.drop_eq_getElem_cons hlt]
    simp only [PB, List.map_cons, List.flatten_cons, List.append_assoc]
theorem put_f (ys : List Int) (hy : ∀ y ∈ ys, I64 y) (hl : ys.length ≤ 1000000) : frame_put.f (ys.length + 12) [] ys = some (PB ys) := by
  unfold frame_put.f
  have h := put_l0 ys hy (by omega) ys.length (ys.length + 12) 0 [] (by omega) (by omega) (by simp; omega)
  simpa using h
/-- The number that bytes begin with, and how many bytes it has. -/
def takeP (b : List Int) : Int × Nat :=
  if b.length = 0 then (0, 0) else if 8 < rd b 0 then (0, 0) else if (b.length : Int) - 1 < rd b 0 then (0, 0)
  else if 0 < rd b 0 ∧ rd b (rd b 0) = 0 then (0, 0) else (bk (valN ((b.take (1 + (rd b 0).toNat)).drop 1)), 1 + (rd b 0).toNat)
theorem rd_range {b : List Int} (hb : Bytes b) (i : Nat) (h : i < b.length) : 0 ≤ rd b (i : Int) ∧ rd b (i : Int) < 256 := by
  rw [rd_at b i h]
  exact hb _ (List.getElem_mem h)
theorem top_byte (u : Nat) (hu : u < 18446744073709551616) (h : 0 < szN u) : (u / 2 ^ (8 * (szN u - 1))) % 256 ≠ 0 := by
  have h0 : u ≠ 0 := fun h1 => by
    rw [h1] at h
    simp [szN, blen] at h
  have h1 := blen_ge u h0
  have h2 := blen_lt u
  have h3 : 8 * (szN u - 1) ≤ blen u - 1 := by unfold szN at h ⊢; omega
  have h4 : blen u ≤ 8 * (szN u - 1) + 8 := by unfold szN at h ⊢; omega
  have h5 : 2 ^ (8 * (szN u - 1)) ≤ u := Nat.le_trans (Nat.pow_le_pow_right (by omega) h3) h1
  have h6 : u < 2 ^ (8 * (szN u - 1)) * 256 := by
    have : u < 2 ^ (8 * (szN u - 1) + 8) := Nat.lt_of_lt_of_le h2 (Nat.pow_le_pow_right (by omega) h4)
    rwa [Nat.pow_add] at this
  have hp : 0 < 2 ^ (8 * (szN u - 1)) := Nat.pow_pos (by omega)
  have h7 : u / 2 ^ (8 * (szN u - 1)) < 256 := Nat.div_lt_of_lt_mul h6
  have h8 : 0 < u / 2 ^ (8 * (szN u - 1)) := Nat.div_pos h5 hp
  rw [Nat.mod_eq_of_lt h7]
  omega
theorem lowl_get (u : Nat) : ∀ (n i j : Nat) (h : j < n), i + n ≤ 8 → (lowl (u : Int) n i)[j]? = some (((u / 2 ^ (8 * (i + j))) % 256 : Nat) : Int)
  | n + 1, i, 0, h, hi => by
    rw [lowl, shr_nat u i (by omega)]
    simp
  | n + 1, i, j + 1, h, hi => by
    rw [lowl, List.getElem?_cons_succ, lowl_get u n (i + 1) j (by omega) (by omega)]
    rw [show i + 1 + j = i + (j + 1) by omega]
theorem take_num (n : Int) (hn : I64 n) (r : List Int) : takeP (numB n ++ r) = (n, 1 + szN (tn n)) := by
  have ht := tn_lt hn
  have hs := szN_le ht
  have hlen := numB_len n
  have e0 : rd (numB n ++ r) 0 = ((szN (tn n) : Nat) : Int) := by
    have := rd_at (numB n ++ r) 0 (by rw [List.length_append]; omega)
    rw [show ((0 : Nat) : Int) = 0 from rfl] at this
    rw [this]
    simp [numB]
  unfold takeP
  rw [e0, List.length_append, if_neg (by omega), if_neg (by omega), if_neg (by omega), if_neg]
  · have e1 : (((szN (tn n) : Nat) : Int)).toNat = szN (tn n) := by omega
    have e2 : ((numB n ++ r).take (1 + szN (tn n))).drop 1 = lowl ((tn n : Nat) : Int) (szN (tn n)) 0 := by
      rw [← hlen, List.take_left]
      simp [numB]
    rw [e1, e2, valN_lowl (tn n) _ 0 (by omega)]
    simp only [Nat.mul_zero, Nat.pow_zero, Nat.div_one]
    have h3 : tn n < 2 ^ (8 * szN (tn n)) := Nat.lt_of_lt_of_le (blen_lt _) (Nat.pow_le_pow_right (by omega) (by unfold szN; omega))
    rw [Nat.mod_eq_of_lt h3, bk_tn]
  · rintro ⟨h1, h2⟩
    have h3 : 0 < szN (tn n) := by omega
    have h4 := lowl_get (tn n) (szN (tn n)) 0 (szN (tn n) - 1) (by omega) (by omega)
    have h5 : (numB n ++ r)[szN (tn n)]? = some (((tn n / 2 ^ (8 * (0 + (szN (tn n) - 1)))) % 256 : Nat) : Int) := by
      rw [List.getElem?_append_left (by omega)]
      unfold numB
      rw [show szN (tn n) = (szN (tn n) - 1) + 1 by omega, List.getElem?_cons_succ, ← show szN (tn n) = (szN (tn n) - 1) + 1 by omega]
      exact h4
    rw [rd_at _ _ (by rw [List.length_append]; omega)] at h2
    rw [List.getElem?_eq_getElem (by rw [List.length_append]; omega), h2] at h5
    have h6 := top_byte (tn n) ht h3
    rw [show 0 + (szN (tn n) - 1) = szN (tn n) - 1 by omega] at h5
    have h7 := Option.some.inj h5
    omega
theorem valN_append (l m : List Int) : valN (l ++ m) = valN l + 2 ^ (8 * l.length) * valN m := by
  induction l with
  | nil => simp [valN]
  | cons c l ih =>
    have e : 2 ^ (8 * (c :: l).length) = 2 ^ (8 * l.length) * 256 := by rw [List.length_cons, show 8 * (l.length + 1) = 8 * l.length + 8 by omega, Nat.pow_add]
    rw [List.cons_append, valN, valN, ih, e, Nat.mul_add, Nat.mul_left_comm 256, Nat.mul_assoc (2 ^ (8 * l.length)), Nat.add_assoc]
theorem szN_of {u z : Nat} (hz : z ≤ 8) (h1 : u < 2 ^ (8 * z)) (h2 : 0 < z → 2 ^ (8 * (z - 1)) ≤ u) : szN u = z := by
  rcases Nat.eq_zero_or_pos z with h0 | h0
  · subst h0
    have : u = 0 := by simpa using h1
    subst this
    rfl
  · have h3 := h2 h0
    have h4 : blen u ≤ 8 * z := blen_le u _ h1
    have h5 : 8 * (z - 1) < blen u := by
      rcases Nat.lt_or_ge (8 * (z - 1)) (blen u) with h | h
      · exact h
      · have h6 := blen_lt u
        have h7 : 2 ^ blen u ≤ 2 ^ (8 * (z - 1)) := Nat.pow_le_pow_right (by omega) h
        omega
    unfold szN
    omega
/-- What is taken is that number's bytes. -/
theorem take_back (b : List Int) (hb : Bytes b) (h : (takeP b).2 ≠ 0) : numB (takeP b).1 ++ b.drop (takeP b).2 = b ∧ I64 (takeP b).1 ∧ (takeP b).2 ≤ b.length ∧ (takeP b).2 ≤ 9 := by
  unfold takeP at h ⊢
  by_cases c1 : b.length = 0
  · rw [if_pos c1] at h
    exact absurd rfl h
  rw [if_neg c1] at h ⊢
  by_cases c2 : 8 < rd b 0
  · rw [if_pos c2] at h
    exact absurd rfl h
  rw [if_neg c2] at h ⊢
  by_cases c3 : (b.length : Int) - 1 < rd b 0
  · rw [if_pos c3] at h
    exact absurd rfl h
  rw [if_neg c3] at h ⊢
  by_cases c4 : 0 < rd b 0 ∧ rd b (rd b 0) = 0
  · rw [if_pos c4] at h
    exact absurd rfl h
  rw [if_neg c4] at h ⊢
  have hr0 := rd_range hb 0 (by omega)
  rw [show ((0 : Nat) : Int) = 0 from rfl] at hr0
  obtain ⟨z, hz⟩ : ∃ z : Nat, rd b 0 = (z : Int) := ⟨(rd b 0).toNat, by omega⟩
  have hzn : (rd b 0).toNat = z := by omega
  rw [hzn]
  simp only
  rw [hz] at c2 c3 c4
  have hzl : 1 + z ≤ b.length := by omega
  obtain ⟨L, hL⟩ : ∃ L, L = (b.take (1 + z)).drop 1 := ⟨_, rfl⟩
  have hLl : L.length = z := by rw [hL, List.length_drop, List.length_take]; omega
  have hLb : Bytes L := by rw [hL]; exact (hb.take _).drop _
  have hu := valN_lt L hLb
  rw [hLl] at hu
  have hu64 : valN L < 18446744073709551616 := Nat.lt_of_lt_of_le hu (by have h9 : 2 ^ (8 * z) ≤ 2 ^ 64 := Nat.pow_le_pow_right (by omega) (by omega); exact h9)
  have hsz : szN (valN L) = z := by
    refine szN_of (by omega) hu (fun hz0 => ?_)
    have hne : ¬ rd b ((z : Nat) : Int) = 0 := fun h0 => c4 ⟨by omega, h0⟩
    rw [rd_at b z (by omega)] at hne
    have hr := hb b[z] (List.getElem_mem (by omega))
    have hsp : L = L.take (z - 1) ++ [b[z]] := by
      have h1 : L = L.take (z - 1) ++ L.drop (z - 1) := (List.take_append_drop _ _).symm
      have h2 : L.drop (z - 1) = [b[z]] := by
        rw [List.drop_eq_getElem_cons (by omega), List.drop_of_length_le (by omega)]
        congr 1
        subst hL
        rw [List.getElem_drop, List.getElem_take]
        congr 1
        omega
      rw [h2] at h1
      exact h1
    have hlt : (L.take (z - 1)).length = z - 1 := by rw [List.length_take]; omega
    rw [hsp, valN_append, hlt, valN, valN]
    have h3 : 2 ^ (8 * (z - 1)) * 1 ≤ 2 ^ (8 * (z - 1)) * (b[z].toNat + 256 * 0) := Nat.mul_le_mul_left _ (by omega)
    omega
  rw [← hL]
  have hnum : numB (bk (valN L)) = (z : Int) :: L := by
    unfold numB
    rw [tn_bk, hsz]
    congr 1
    refine valN_inj _ _ (lowl_bytes _ _ _) hLb (by rw [lowl_len, hLl]) ?_
    rw [valN_lowl _ _ 0 (by omega)]
    simp only [Nat.mul_zero, Nat.pow_zero, Nat.div_one]
    exact Nat.mod_eq_of_lt hu
  refine ⟨?_, bk_range hu64, hzl, by omega⟩
  rw [hnum, hL]
  have h1 : b = b.take (1 + z) ++ b.drop (1 + z) := (List.take_append_drop _ _).symm
  have h2 : b.take (1 + z) = (z : Int) :: (b.take (1 + z)).drop 1 := by
    have h3 : 0 < (b.take (1 + z)).length := by rw [List.length_take]; omega
    have h4 := List.drop_eq_getElem_cons h3
    rw [List.drop_zero] at h4
    rw [show 0 + 1 = 1 by rfl] at h4
    rw [List.getElem_take] at h4
    have h5 : b[0] = (z : Int) := by
      have := rd_at b 0 (by omega)
      rw [show ((0 : Nat) : Int) = 0 from rfl, hz] at this
      exact this.symm
    rw [h5] at h4
    exact h4
  rw [← h2]
  exact h1.symm
end Go.Proofs.Ytjndoihnpnmbjaa.PFrameSums
