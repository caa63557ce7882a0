/- Frames: bytes as numbers, which frame bytes begin with, a byte that is another one. -/
import Derived.Test.YtjndoihnpnmbjaaFrCut2
import Derived.Laws.Bits64b
namespace Go.Proofs.Ytjndoihnpnmbjaa.PFrameSums
open Go.RowKit Go.Proofs.YtjndoihnpnmbjaaW.PrintWords Go.Proofs.YtjndoihnpnmbjaaW.PrintLast Go.Proofs.YtjndoihnpnmbjaaW.PrintMore
open Go.Proofs.Ytjndoihnpnmbjaa.Flow
set_option linter.unusedVariables false
set_option linter.unusedSimpArgs false
def Bytes (l : List Int) : Prop := ∀ c ∈ l, 0 ≤ c ∧ c < 256
def valN : List Int → Nat
  | [] => 0
  | c :: r => c.toNat + 256 * valN r
theorem Bytes.tail {c : Int} {r : List Int} (h : Bytes (c :: r)) : Bytes r := fun x hx => h x (List.mem_cons_of_mem _ hx)
theorem Bytes.take {l : List Int} (h : Bytes l) (n : Nat) : Bytes (l.take n) := fun x hx => h x (List.mem_of_mem_take hx)
theorem Bytes.drop {l : List Int} (h : Bytes l) (n : Nat) : Bytes (l.drop n) := fun x hx => h x (List.mem_of_mem_drop hx)
theorem Bytes.append {l m : List Int} (h : Bytes l) (k : Bytes m) : Bytes (l ++ m) := fun x hx => (List.mem_append.1 hx).elim (h x) (k x)
theorem Bytes.set {l : List Int} (h : Bytes l) (i : Nat) {c : Int} (hc : 0 ≤ c ∧ c < 256) : Bytes (l.set i c) := fun x hx => by
  rcases List.mem_or_eq_of_mem_set hx with h1 | h1
  · exact h x h1
  · rw [h1]
    exact hc
theorem valN_lt : ∀ (l : List Int), Bytes l → valN l < 2 ^ (8 * l.length)
  | [], _ => by simp [valN]
  | c :: r, h => by
    have h1 := valN_lt r h.tail
    have h2 := h c (by simp)
    have e : 2 ^ (8 * (c :: r).length) = 256 * 2 ^ (8 * r.length) := by
      rw [List.length_cons, show 8 * (r.length + 1) = 8 * r.length + 8 by omega, Nat.pow_add, Nat.mul_comm]
    rw [e, valN]
    omega
theorem valN_inj : ∀ (l m : List Int), Bytes l → Bytes m → l.length = m.length → valN l = valN m → l = m
  | [], [], _, _, _, _ => rfl
  | c :: r, d :: s, h, k, hl, hv => by
    have h2 := h c (by simp)
    have k2 := k d (by simp)
    rw [valN, valN] at hv
    have e1 : c = d := by omega
    have e2 : valN r = valN s := by omega
    rw [e1, valN_inj r s h.tail k.tail (by simpa using hl) e2]
theorem shl_nat (C i : Nat) (hC : C < 256) (hi : i ≤ 7) : shl .u64 ((C : Int)) (8 * (i : Int)) = ((C * 2 ^ (8 * i) : Nat) : Int) := by
  have hp : C * 2 ^ (8 * i) < 2 ^ 64 := by
    have h1 : C * 2 ^ (8 * i) < 2 ^ 8 * 2 ^ (8 * i) := Nat.mul_lt_mul_of_pos_right hC (Nat.pow_pos (by omega))
    rw [← Nat.pow_add] at h1
    exact Nat.lt_of_lt_of_le h1 (Nat.pow_le_pow_right (by omega) (by omega))
  have e0 : min ((8 * (i : Int)).toNat) (IntKind.u64.bits) = 8 * i := by
    have : IntKind.u64.bits = 64 := rfl
    omega
  unfold shl
  rw [e0]
  have e1 : (C : Int) * 2 ^ (8 * i) = ((C * 2 ^ (8 * i) : Nat) : Int) := by push_cast; rfl
  rw [e1, u64_wrap]
  have hp2 : C * 2 ^ (8 * i) < 18446744073709551616 := hp
  generalize C * 2 ^ (8 * i) = z at hp2 ⊢
  omega
theorem or_step (x C i : Nat) (hx : x < 2 ^ (8 * i)) (hC : C < 256) (hi : i ≤ 7) : Go.bits .or .u64 (x : Int) (shl .u64 (C : Int) (8 * (i : Int))) = ((x + 2 ^ (8 * i) * C : Nat) : Int) := by
  rw [shl_nat C i hC hi]
  have hx2 : x < 2 ^ 64 := Nat.lt_of_lt_of_le hx (Nat.pow_le_pow_right (by omega) (by omega))
  have hp : C * 2 ^ (8 * i) < 2 ^ 64 := by
    have h1 : C * 2 ^ (8 * i) < 2 ^ 8 * 2 ^ (8 * i) := Nat.mul_lt_mul_of_pos_right hC (Nat.pow_pos (by omega))
    rw [← Nat.pow_add] at h1
    exact Nat.lt_of_lt_of_le h1 (Nat.pow_le_pow_right (by omega) (by omega))
  rw [bits_or_u64_nat x (C * 2 ^ (8 * i)) hx2 hp]
  congr 1
  rw [Nat.or_comm, Nat.mul_comm C, ← Nat.two_pow_add_eq_or_of_lt hx, Nat.add_comm]
theorem rd_at (l : List Int) (i : Nat) (h : i < l.length) : rd l (i : Int) = l[i] := by
  unfold rd
  rw [List.getD_eq_getElem?_getD, show ((i : Int)).toNat = i by omega, List.getElem?_eq_getElem h]
  rfl
theorem high_l0 (l : List Int) (hb : Bytes l) (hl : l.length ≤ 8) : ∀ (m K i x : Nat), m + 1 ≤ K → i + m = l.length → x < 2 ^ (8 * i) → frame_high.l0 K (x : Int) l (l.length : Int) (i : Int) = some ((x + 2 ^ (8 * i) * valN (l.drop i) : Nat) : Int)
  | 0, K, i, x, hK, hi, hx => by
    obtain ⟨k, rfl⟩ : ∃ k, K = k + 1 := ⟨K - 1, by omega⟩
    rw [frame_high.l0, if_neg (by omega), List.drop_of_length_le (by omega)]
    simp [valN]
  | m + 1, K, i, x, hK, hi, hx => by
    obtain ⟨k, rfl⟩ : ∃ k, K = k + 1 := ⟨K - 1, by omega⟩
    have hlt : i < l.length := by omega
    have e1 : wrap64 (8 * (i : Int)) = 8 * (i : Int) := wrap_id (by omega) (by omega)
    have e2 : wrap64 ((i : Int) + 1) = ((i + 1 : Nat) : Int) := wrap_id (by omega) (by omega)
    have hc := hb l[i] (List.getElem_mem hlt)
    have e3 : IntKind.u64.wrap (rd l (i : Int)) = ((l[i].toNat : Nat) : Int) := by
      rw [rd_at l i hlt, u64_wrap]
      omega
    rw [frame_high.l0, if_pos (by omega), if_pos (by omega), if_pos (by omega), e1, if_pos (by omega), e2, e3, or_step x l[i].toNat i hx (by omega) (by omega)]
    have hp : 2 ^ (8 * (i + 1)) = 2 ^ (8 * i) * 256 := by rw [show 8 * (i + 1) = 8 * i + 8 by omega, Nat.pow_add]
    have hx2 : x + 2 ^ (8 * i) * l[i].toNat < 2 ^ (8 * (i + 1)) := by
      have h1 : 2 ^ (8 * i) * l[i].toNat ≤ 2 ^ (8 * i) * 255 := Nat.mul_le_mul_left _ (by omega)
      omega
    rw [high_l0 l hb hl m k (i + 1) _ (by omega) (by omega) hx2, List.drop_eq_getElem_cons hlt, valN, hp, Nat.mul_add, Nat.mul_assoc]
    congr 2
    omega
theorem high_f (l : List Int) (hb : Bytes l) (hl : l.length ≤ 8) (K : Nat) (hK : 9 ≤ K) : frame_high.f K l = some ((valN l : Nat) : Int) := by
  unfold frame_high.f
  have h := high_l0 l hb hl l.length K 0 0 (by omega) (by omega) (by simp)
  simpa using h
theorem shr_nat (U i : Nat) (hi : i ≤ 8) : shr .u64 (U : Int) (8 * (i : Int)) = ((U / 2 ^ (8 * i) : Nat) : Int) := by
  have e0 : min ((8 * (i : Int)).toNat) (IntKind.u64.bits) = 8 * i := by
    have : IntKind.u64.bits = 64 := rfl
    omega
  unfold shr
  rw [e0]
  push_cast
  rfl
theorem lowl_bytes (u : Int) : ∀ n i, Bytes (lowl u n i)
  | 0, i => fun c hc => by simp [lowl] at hc
  | n + 1, i => fun c hc => by
    rw [lowl] at hc
    rcases List.mem_cons.1 hc with rfl | hc
    · exact ⟨Int.emod_nonneg _ (by decide), Int.emod_lt_of_pos _ (by decide)⟩
    · exact lowl_bytes u n (i + 1) c hc
theorem valN_lowl (U : Nat) : ∀ n i, i + n ≤ 8 → valN (lowl (U : Int) n i) = (U / 2 ^ (8 * i)) % 2 ^ (8 * n)
  | 0, i, h => by simp [lowl, valN, Nat.mod_one]
  | n + 1, i, h => by
    rw [lowl, valN, valN_lowl U n (i + 1) (by omega), shr_nat U i (by omega)]
    have e1 : U / 2 ^ (8 * (i + 1)) = U / 2 ^ (8 * i) / 256 := by rw [Nat.div_div_eq_div_mul, show 8 * (i + 1) = 8 * i + 8 by omega, Nat.pow_add]
    have e2 : 2 ^ (8 * (n + 1)) = 256 * 2 ^ (8 * n) := by rw [show 8 * (n + 1) = 8 * n + 8 by omega, Nat.pow_add, Nat.mul_comm]
    rw [e1, e2, Nat.mod_mul]
    congr 1
theorem valN_low4 (U : Nat) (h : U < 4294967296) : valN (lowl (U : Int) 4 0) = U := by
  rw [valN_lowl U 4 0 (by omega)]
  simp
  omega
/-- How many bytes the frame has that bytes begin with. -/
def wholeP (b : List Int) : Nat :=
  if b.length < 8 then 0 else if 16376 < valN (b.take 4) then 0 else if b.length < 8 + valN (b.take 4) then 0
  else if fnv 2166136261 ((b.drop 8).take (valN (b.take 4))) = ((valN ((b.take 8).drop 4) : Nat) : Int) then 8 + valN (b.take 4) else 0
theorem xor_u32_nat (a b : Nat) (ha : a < 4294967296) (hb : b < 4294967296) : Go.bits .xor .u32 (a : Int) (b : Int) = ((a ^^^ b : Nat) : Int) := by
  show IntKind.u32.wrap ((BitVec.ofInt 32 (a : Int) ^^^ BitVec.ofInt 32 (b : Int)).toNat : Int) = _
  have h1 : (BitVec.ofInt 32 (a : Int) ^^^ BitVec.ofInt 32 (b : Int)).toNat = a ^^^ b := by
    rw [BitVec.toNat_xor, BitVec.toNat_ofInt, BitVec.toNat_ofInt]
    congr 1 <;> omega
  rw [h1]
  have h2 : a ^^^ b < 2 ^ 32 := Nat.xor_lt_two_pow (by omega) (by omega)
  simp [IntKind.wrap, IntKind.bits, IntKind.signed]
  omega
theorem xor_u8_nat (a b : Nat) (ha : a < 256) (hb : b < 256) : Go.bits .xor .u8 (a : Int) (b : Int) = ((a ^^^ b : Nat) : Int) := by
  show IntKind.u8.wrap ((BitVec.ofInt 8 (a : Int) ^^^ BitVec.ofInt 8 (b : Int)).toNat : Int) = _
  have h1 : (BitVec.ofInt 8 (a : Int) ^^^ BitVec.ofInt 8 (b : Int)).toNat = a ^^^ b := by
    rw [BitVec.toNat_xor, BitVec.toNat_ofInt, BitVec.toNat_ofInt]
    congr 1 <;> omega
  rw [h1]
  have h2 : a ^^^ b < 2 ^ 8 := Nat.xor_lt_two_pow (by omega) (by omega)
  simp [IntKind.wrap, IntKind.bits, IntKind.signed]
  omega
theorem xor_cancel_r {a b c : Nat} (h : a ^^^ c = b ^^^ c) : a = b := by
  have h1 : (a ^^^ c) ^^^ c = (b ^^^ c) ^^^ c := by rw [h]
  rwa [Nat.xor_assoc, Nat.xor_assoc, Nat.xor_self, Nat.xor_zero, Nat.xor_zero] at h1
theorem xor_cancel_l {a c d : Nat} (h : a ^^^ c = a ^^^ d) : c = d := by
  rw [Nat.xor_comm a c, Nat.xor_comm a d] at h
  exact xor_cancel_r h
theorem mod_diff {A B : Int} (h : A % 4294967296 = B % 4294967296) : ∃ q : Int, A - B = 4294967296 * q := by
  refine ⟨A / 4294967296 - B / 4294967296, ?_⟩
  omega
theorem unit_inv {d q : Int} (h2 : 16777619 * d = 4294967296 * q) : d = 4294967296 * (899433627 * q - 3513497 * d) := by
  have h3 : 899433627 * (16777619 * d) = 899433627 * (4294967296 * q) := by rw [h2]
  rw [← Int.mul_assoc, ← Int.mul_assoc] at h3
  rw [Int.mul_sub, ← Int.mul_assoc, ← Int.mul_assoc, Int.mul_comm 4294967296 899433627, ← h3, ← Int.sub_mul]
  simp
theorem small_zero {d t : Int} (h : d = 4294967296 * t) (h1 : -4294967296 < d) (h2 : d < 4294967296) : d = 0 := by
  omega
theorem prime_inj {x y : Nat} (hx : x < 4294967296) (hy : y < 4294967296) (h : ((x : Int) * 16777619) % 4294967296 = ((y : Int) * 16777619) % 4294967296) : x = y := by
  have h5 : -4294967296 < (x : Int) - y := by clear h; omega
  have h6 : (x : Int) - y < 4294967296 := by clear h; omega
  obtain ⟨q, hq⟩ := mod_diff h
  clear h
  have h2 : 16777619 * ((x : Int) - y) = 4294967296 * q := by rw [← hq, Int.mul_sub, Int.mul_comm, Int.mul_comm 16777619]
  have h3 := small_zero (unit_inv h2) h5 h6
  clear h2 hq
  omega
def stepS (s c : Int) : Int := ((Go.bits .xor .u32 s (c % 4294967296)) * 16777619) % 4294967296
theorem stepS_eq (s c : Nat) (hs : s < 4294967296) (hc : c < 256) : stepS (s : Int) (c : Int) = (((s ^^^ c : Nat) : Int) * 16777619) % 4294967296 := by
  unfold stepS
  rw [show ((c : Int) % 4294967296) = (c : Int) by omega, xor_u32_nat s c hs (by omega)]
theorem stepS_inj_s {s t c : Int} (hs : 0 ≤ s ∧ s < 4294967296) (ht : 0 ≤ t ∧ t < 4294967296) (hc : 0 ≤ c ∧ c < 256) (h : stepS s c = stepS t c) : s = t := by
  obtain ⟨s, rfl⟩ := Int.eq_ofNat_of_zero_le hs.1
  obtain ⟨t, rfl⟩ := Int.eq_ofNat_of_zero_le ht.1
  obtain ⟨c, rfl⟩ := Int.eq_ofNat_of_zero_le hc.1
  rw [stepS_eq s c (by omega) (by omega), stepS_eq t c (by omega) (by omega)] at h
  have h1 : s ^^^ c < 2 ^ 32 := Nat.xor_lt_two_pow (by omega) (by omega)
  have h2 : t ^^^ c < 2 ^ 32 := Nat.xor_lt_two_pow (by omega) (by omega)
  rw [xor_cancel_r (prime_inj h1 h2 h)]
theorem stepS_inj_c {s c d : Int} (hs : 0 ≤ s ∧ s < 4294967296) (hc : 0 ≤ c ∧ c < 256) (hd : 0 ≤ d ∧ d < 256) (h : stepS s c = stepS s d) : c = d := by
  obtain ⟨s, rfl⟩ := Int.eq_ofNat_of_zero_le hs.1
  obtain ⟨c, rfl⟩ := Int.eq_ofNat_of_zero_le hc.1
  obtain ⟨d, rfl⟩ := Int.eq_ofNat_of_zero_le hd.1
  rw [stepS_eq s c (by omega) (by omega), stepS_eq s d (by omega) (by omega)] at h
  have h1 : s ^^^ c < 2 ^ 32 := Nat.xor_lt_two_pow (by omega) (by omega)
  have h2 : s ^^^ d < 2 ^ 32 := Nat.xor_lt_two_pow (by omega) (by omega)
  rw [xor_cancel_l (prime_inj h1 h2 h)]
theorem stepS_range (s c : Int) : 0 ≤ stepS s c ∧ stepS s c < 4294967296 := ⟨Int.emod_nonneg _ (by decide), Int.emod_lt_of_pos _ (by decide)⟩
theorem fnv_inj : ∀ (l : List Int) (s t : Int), Bytes l → 0 ≤ s ∧ s < 4294967296 → 0 ≤ t ∧ t < 4294967296 → fnv s l = fnv t l → s = t
  | [], s, t, _, _, _, h => h
  | c :: r, s, t, hb, hs, ht, h => stepS_inj_s hs ht (hb c (by simp)) (fnv_inj r (stepS s c) (stepS t c) hb.tail (stepS_range _ _) (stepS_range _ _) h)
theorem fnv_set : ∀ (l : List Int) (s : Int) (i : Nat) (c : Int) (hi : i < l.length), Bytes l → 0 ≤ c ∧ c < 256 → 0 ≤ s ∧ s < 4294967296 → fnv s (l.set i c) = fnv s l → c = l[i]
  | d :: r, s, 0, c, hi, hb, hc, hs, h => stepS_inj_c hs hc (hb d (by simp)) (fnv_inj r (stepS s c) (stepS s d) hb.tail (stepS_range _ _) (stepS_range _ _) h)
  | d :: r, s, i + 1, c, hi, hb, hc, hs, h => by
    have := fnv_set r (stepS s d) i c (by simpa using hi) hb.tail hc (stepS_range _ _) h
    simpa using this
theorem frameB_parts (l : List Int) (hl : l.length ≤ 16376) : ∃ a b, frameB l = a ++ b ++ l ∧ a = lowl (l.length : Int) 4 0 ∧ b = lowl (fnv 2166136261 l) 4 0 ∧ a.length = 4 ∧ b.length = 4 := by
  refine ⟨_, _, ?_, rfl, rfl, lowl_len _ _ _, lowl_len _ _ _⟩
  unfold frameB
  rw [if_neg (by omega)]
theorem frameB_len (l : List Int) (hl : l.length ≤ 16376) : (frameB l).length = 8 + l.length := by
  obtain ⟨a, b, h, _, _, h1, h2⟩ := frameB_parts l hl
  rw [h]
  simp only [List.length_append]
  omega
theorem frameB_bytes (l : List Int) (hb : Bytes l) : Bytes (frameB l) := by
  unfold frameB
  split
  · exact fun c hc => by simp at hc
  · exact ((lowl_bytes _ _ _).append (lowl_bytes _ _ _)).append hb
theorem take4 (l : List Int) (hl : l.length ≤ 16376) (r : List Int) : valN ((frameB l ++ r).take 4) = l.length := by
  obtain ⟨a, b, h, ha, hb, h1, h2⟩ := frameB_parts l hl
  have e : (frameB l ++ r).take 4 = a := by
    rw [h, List.append_assoc, List.append_assoc, ← h1]
    exact List.take_left
  rw [e, ha]
  exact valN_low4 _ (by omega)
/-- No beginning of a frame is one. -/
theorem whole_cut (l : List Int) (hl : l.length ≤ 16376) (k : Nat) (hk : k < (frameB l).length) : wholeP ((frameB l).take k) = 0 := by
  have hf := frameB_len l hl
  have hlen : ((frameB l).take k).length = k := by rw [List.length_take]; omega
  unfold wholeP
  rw [hlen]
  split
  · rfl
  · have e : ((frameB l).take k).take 4 = (frameB l ++ []).take 4 := by rw [List.append_nil, List.take_take, Nat.min_eq_left (by omega)]
    rw [e, take4 l hl, if_neg (by omega), if_pos (by omega)]
/-- A frame with another byte behind its length isn't one. -/
theorem whole_turned (l : List Int) (hb : Bytes l) (hl : l.length ≤ 16376) (k : Nat) (h4 : 4 ≤ k) (hk : k < (frameB l).length) (c : Int) (hc : 0 ≤ c ∧ c < 256) (hne : c ≠ (frameB l)[k]) : wholeP ((frameB l).set k c) = 0 := by
  have hf := frameB_len l hl
  obtain ⟨a, b, h, ha, hb2, h1, h2⟩ := frameB_parts l hl
  have hS := fnv_range l 2166136261 (by omega)
  obtain ⟨S, hSn⟩ := Int.eq_ofNat_of_zero_le hS.1
  have hvb : valN b = S := by rw [hb2, hSn]; exact valN_low4 S (by omega)
  have ht4 : ((frameB l).set k c).take 4 = a := by
    rw [List.take_set_of_le (by omega), h, List.append_assoc, ← h1]
    exact List.take_left
  have hva : valN a = l.length := by rw [ha]; exact valN_low4 _ (by omega)
  unfold wholeP
  rw [ht4, hva, List.length_set, if_neg (by omega), if_neg (by omega), if_neg (by omega), if_neg]
  by_cases hk8 : k < 8
  · have e1 : (((frameB l).set k c).drop 8).take l.length = l := by
      rw [List.drop_set_of_lt (by omega), h, show (8 : Nat) = (a ++ b).length by simp; omega, List.drop_left, List.take_length]
    have e2 : (((frameB l).set k c).take 8).drop 4 = b.set (k - 4) c := by
      rw [h, List.set_append_left _ _ (by simp; omega), List.set_append_right _ _ (by omega), h1, List.take_append_of_le_length (by simp; omega), List.take_of_length_le (by simp; omega), ← h1, List.drop_left]
    rw [e1, e2, hSn]
    intro he
    have he' : valN b = valN (b.set (k - 4) c) := by omega
    have hbb : Bytes b := by rw [hb2]; exact lowl_bytes _ _ _
    have he2 := valN_inj b (b.set (k - 4) c) hbb (hbb.set _ hc) (by simp) he'
    have h3 : k - 4 < b.length := by omega
    have h5 : (b.set (k - 4) c)[k - 4]'(by simpa using h3) = c := by simp
    have h6 : b[k - 4] = c := by
      have := congrArg (fun z => z[k - 4]?) he2
      simp only [List.getElem?_eq_getElem h3, List.getElem?_set_self h3] at this
      exact Option.some.inj this
    refine hne ?_
    have : (frameB l)[k]? = some c := by
      rw [h, List.getElem?_append_left (by simp; omega), List.getElem?_append_right (by omega), h1, List.getElem?_eq_getElem h3, h6]
    rw [List.getElem?_eq_getElem hk] at this
    exact (Option.some.inj this).symm
  · have e1 : (((frameB l).set k c).drop 8).take l.length = l.set (k - 8) c := by
      rw [h, List.set_append_right _ _ (by simp; omega), show (8 : Nat) = (a ++ b).length by simp; omega, List.drop_left, List.take_of_length_le (by simp)]
    have e2 : (((frameB l).set k c).take 8).drop 4 = b := by
      rw [List.take_set_of_le (by omega), h, List.take_append_of_le_length (by simp; omega), List.take_of_length_le (by simp; omega), ← h1, List.drop_left]
    rw [e1, e2, hvb, ← hSn]
    intro he
    have hkl : k - 8 < l.length := by omega
    have h6 := fnv_set l 2166136261 (k - 8) c hkl hb hc (by omega) he
    refine hne ?_
    have : (frameB l)[k]? = some c := by
      rw [h, List.getElem?_append_right (by simp; omega), show k - (a ++ b).length = k - 8 by simp; omega, List.getElem?_eq_getElem hkl, h6]
    rw [List.getElem?_eq_getElem hk] at this
    exact (Option.some.inj this).symm
theorem xor_other (a y : Int) (ha : 0 ≤ a ∧ a < 256) (hy : 0 < y ∧ y < 256) : (0 ≤ Go.bits .xor .u8 a y ∧ Go.bits .xor .u8 a y < 256) ∧ Go.bits .xor .u8 a y ≠ a := by
  obtain ⟨a, rfl⟩ := Int.eq_ofNat_of_zero_le ha.1
  obtain ⟨y, rfl⟩ := Int.eq_ofNat_of_zero_le (show 0 ≤ y by omega)
  rw [xor_u8_nat a y (by omega) (by omega)]
  have h2 : a ^^^ y < 2 ^ 8 := Nat.xor_lt_two_pow (by omega) (by omega)
  refine ⟨by omega, fun h => ?_⟩
  have h3 : a ^^^ y = a ^^^ 0 := by rw [Nat.xor_zero]; omega
  have := xor_cancel_l h3
  omega
end Go.Proofs.Ytjndoihnpnmbjaa.PFrameSums
