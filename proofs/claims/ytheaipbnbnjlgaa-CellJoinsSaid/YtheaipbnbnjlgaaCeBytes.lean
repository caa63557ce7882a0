/- Wide numbers as sixteen bytes; the document's Bits: plain. -/
import Derived.Test.YtheaipbnbnjlgaaCeRefB
namespace Go.Proofs.Ytheaipbnbnjlgaa.Ce
open Go.RowKit Go.Proofs.YtheaipbnbnjlgaaW.PrintWords Go.Proofs.YtheaipbnbnjlgaaW.PrintLast Go.Proofs.YtheaipbnbnjlgaaW.PrintMore
set_option linter.unusedVariables false
set_option linter.unusedSimpArgs false

def wh (ah al bh bl : Int) : Int := wrap64 (ah + bh + (al + bl) / 18446744073709551616)
def wl (al bl : Int) : Int := (al + bl) % 18446744073709551616
/-- So many bytes of a number, the lowest first; the number of bytes. -/
def dg : Nat → Int → List Int
  | 0, _ => []
  | n + 1, x => (x % 256) :: dg n (x / 256)
def val : List Int → Int
  | [] => 0
  | b :: r => b + 256 * val r
def Byt (l : List Int) : Prop := ∀ b ∈ l, 0 ≤ b ∧ b < 256
theorem dg_len : ∀ (n : Nat) (x : Int), (dg n x).length = n
  | 0, _ => rfl
  | n + 1, x => by simp [dg, dg_len n]
theorem dg_byt : ∀ (n : Nat) (x : Int), Byt (dg n x)
  | 0, _ => fun b hb => by simp [dg] at hb
  | n + 1, x => fun b hb => by
    simp only [dg, List.mem_cons] at hb
    rcases hb with rfl | hb
    · omega
    · exact dg_byt n _ b hb
theorem val_append : ∀ (l m : List Int), val (l ++ m) = val l + 256 ^ l.length * val m
  | [], m => by simp [val]
  | b :: l, m => by
    simp only [List.cons_append, val, List.length_cons, Int.pow_succ, val_append l m, Int.mul_add]
    rw [Int.mul_comm (256 ^ l.length) 256, Int.mul_assoc]
    omega
theorem val_dg8 (x : Int) (h : 0 ≤ x ∧ x < 18446744073709551616) : val (dg 8 x) = x := by
  simp only [dg, val]
  omega
theorem val_nonneg : ∀ (l : List Int), Byt l → 0 ≤ val l
  | [], _ => by simp [val]
  | b :: l, h => by
    have h1 := h b (by simp)
    have h2 := val_nonneg l (fun c hc => h c (by simp [hc]))
    simp only [val]
    omega
theorem val_lt : ∀ (l : List Int), Byt l → val l < 256 ^ l.length
  | [], _ => by simp [val]
  | b :: l, h => by
    have h1 := h b (by simp)
    have h2 := val_lt l (fun c hc => h c (by simp [hc]))
    simp only [val, List.length_cons, Int.pow_succ]
    omega
theorem bytes_l1 : ∀ (n k : Nat) (xs : List Int) (hi i : Int), i + n = 8 → 0 ≤ i → 0 ≤ hi ∧ hi < 18446744073709551616 → xs.length + n ≤ 100 → estuaryref01_Bytes.l1 (k + n + 1) xs hi i = some (xs ++ dg n hi)
  | 0, k, xs, hi, i, h1, h2, h3, h4 => by
    unfold estuaryref01_Bytes.l1
    rw [if_neg (by omega)]
    simp [dg]
  | n + 1, k, xs, hi, i, h1, h2, h3, h4 => by
    rw [show k + (n + 1) + 1 = (k + n + 1) + 1 by omega]
    unfold estuaryref01_Bytes.l1
    rw [if_pos (by omega), if_pos (by omega)]
    have e1 : Int.tmod hi 256 = hi % 256 := Int.tmod_eq_emod_of_nonneg h3.1
    have e2 : Int.tdiv hi 256 = hi / 256 := Int.tdiv_eq_ediv_of_nonneg h3.1
    rw [e1, e2, wrap_id (x := hi % 256) (by omega) (by omega), wrap_id (x := i + 1) (by omega) (by omega), show IntKind.u64.wrap (hi / 256) = hi / 256 by rw [u64_wrap]; omega]
    rw [bytes_l1 n k (xs ++ [hi % 256]) (hi / 256) (i + 1) (by omega) (by omega) (by omega) (by simp; omega)]
    simp [dg]
theorem bytes_l0 : ∀ (n k : Nat) (xs : List Int) (lo hi i : Int), i + n = 8 → 0 ≤ i → 0 ≤ lo ∧ lo < 18446744073709551616 → 0 ≤ hi ∧ hi < 18446744073709551616 → xs.length + n ≤ 50 → estuaryref01_Bytes.l0 (k + n + 10) xs lo hi i = some (xs ++ dg n lo ++ dg 8 hi)
  | 0, k, xs, lo, hi, i, h1, h2, h3, h4, h5 => by
    unfold estuaryref01_Bytes.l0
    rw [if_neg (by omega), show k + 0 + 9 = k + 8 + 1 by omega, bytes_l1 8 k xs hi 0 (by omega) (by omega) h4 (by omega)]
    simp [dg]
  | n + 1, k, xs, lo, hi, i, h1, h2, h3, h4, h5 => by
    rw [show k + (n + 1) + 10 = (k + n + 10) + 1 by omega]
    unfold estuaryref01_Bytes.l0
    rw [if_pos (by omega), if_pos (by omega)]
    have e1 : Int.tmod lo 256 = lo % 256 := Int.tmod_eq_emod_of_nonneg h3.1
    have e2 : Int.tdiv lo 256 = lo / 256 := Int.tdiv_eq_ediv_of_nonneg h3.1
    rw [e1, e2, wrap_id (x := lo % 256) (by omega) (by omega), wrap_id (x := i + 1) (by omega) (by omega), show IntKind.u64.wrap (lo / 256) = lo / 256 by rw [u64_wrap]; omega]
    rw [bytes_l0 n k (xs ++ [lo % 256]) (lo / 256) hi (i + 1) (by omega) (by omega) (by omega) h4 (by simp; omega)]
    simp [dg]
/-- A wide number's bytes. -/
def wb (ah al : Int) : List Int := dg 8 al ++ dg 8 (IntKind.u64.wrap ah)
theorem wb_len (ah al : Int) : (wb ah al).length = 16 := by simp [wb, dg_len]
theorem wb_byt (ah al : Int) : Byt (wb ah al) := fun b hb => by
  rcases List.mem_append.1 hb with h | h
  · exact dg_byt _ _ b h
  · exact dg_byt _ _ b h
theorem wb_val (ah al : Int) (h : 0 ≤ al ∧ al < 18446744073709551616) : val (wb ah al) = al + 18446744073709551616 * IntKind.u64.wrap ah := by
  rw [wb, val_append, val_dg8 al h, val_dg8 _ (u64_range ah), dg_len]
  congr 1
theorem bytes_f (k : Nat) (ah al : Int) (h : 0 ≤ al ∧ al < 18446744073709551616) : estuaryref01_Bytes.f (k + 18) ah al = some (wb ah al) := by
  unfold estuaryref01_Bytes.f
  exact bytes_l0 8 k [] al _ 0 (by omega) (by omega) h (u64_range ah) (by simp)
theorem rd_byt {l : List Int} (h : Byt l) (i : Int) (h0 : 0 ≤ i) (h1 : i < l.length) : 0 ≤ rd l i ∧ rd l i < 256 := by
  have h2 : i.toNat < l.length := by omega
  have e : rd l i = l[i.toNat] := by
    unfold rd
    simp [List.getD_eq_getElem?_getD, List.getElem?_eq_getElem h2]
  rw [e]
  exact h _ (List.getElem_mem h2)
theorem wide_step (k : Nat) (l : List Int) (x y i m j : Int) (hl : l.length = 16) (hb : Byt l) (hi : 0 ≤ i ∧ i < 8) (hm : m = 8 + i) (hj : j = i - 1) (hx : 0 ≤ x ∧ x < 72057594037927936) (hy : 0 ≤ y ∧ y < 72057594037927936) :
    estuaryref01_Wide.l0 (k + 1) l x y i = estuaryref01_Wide.l0 k l (x * 256 + rd l i) (y * 256 + rd l m) j := by
  subst hm hj
  have h1 := rd_byt hb i hi.1 (by omega)
  have h2 := rd_byt hb (8 + i) (by omega) (by omega)
  have u : ∀ z : Int, 0 ≤ z → z < 18446744073709551616 → IntKind.u64.wrap z = z := fun z a b => by rw [u64_wrap]; omega
  conv => lhs; unfold estuaryref01_Wide.l0
  rw [if_pos (by omega), if_pos (by omega), if_pos (by omega), wrap_id (x := 8 + i) (by omega) (by omega), if_pos (by omega), if_pos (by omega), wrap_id (x := i - 1) (by omega) (by omega),
    u (x * 256) (by omega) (by omega), u (rd l i) (by omega) (by omega), u (x * 256 + rd l i) (by omega) (by omega), u (y * 256) (by omega) (by omega), u (rd l (8 + i)) (by omega) (by omega), u (y * 256 + rd l (8 + i)) (by omega) (by omega)]
theorem val16 (l : List Int) (hl : l.length = 16) : val l = rd l 0 + 256 * (rd l 1 + 256 * (rd l 2 + 256 * (rd l 3 + 256 * (rd l 4 + 256 * (rd l 5 + 256 * (rd l 6 + 256 * (rd l 7 + 256 * (rd l 8 + 256 * (rd l 9 + 256 * (rd l 10 + 256 * (rd l 11 + 256 * (rd l 12 + 256 * (rd l 13 + 256 * (rd l 14 + 256 * (rd l 15 + 256 * 0))))))))))))))) := by
  match l, hl with
  | [a0, a1, a2, a3, a4, a5, a6, a7, b0, b1, b2, b3, b4, b5, b6, b7], hl => rfl
theorem wide_f (k : Nat) (l : List Int) (hl : l.length = 16) (hb : Byt l) : estuaryref01_Wide.f (k + 9) l = some (wrap64 (val l / 18446744073709551616), val l % 18446744073709551616) := by
  have r0 := rd_byt hb 0 (by omega) (by omega)
  have r1 := rd_byt hb 1 (by omega) (by omega)
  have r2 := rd_byt hb 2 (by omega) (by omega)
  have r3 := rd_byt hb 3 (by omega) (by omega)
  have r4 := rd_byt hb 4 (by omega) (by omega)
  have r5 := rd_byt hb 5 (by omega) (by omega)
  have r6 := rd_byt hb 6 (by omega) (by omega)
  have r7 := rd_byt hb 7 (by omega) (by omega)
  have r8 := rd_byt hb 8 (by omega) (by omega)
  have r9 := rd_byt hb 9 (by omega) (by omega)
  have r10 := rd_byt hb 10 (by omega) (by omega)
  have r11 := rd_byt hb 11 (by omega) (by omega)
  have r12 := rd_byt hb 12 (by omega) (by omega)
  have r13 := rd_byt hb 13 (by omega) (by omega)
  have r14 := rd_byt hb 14 (by omega) (by omega)
  have r15 := rd_byt hb 15 (by omega) (by omega)
  unfold estuaryref01_Wide.f
  rw [wide_step (k + 8) l _ _ 7 15 6 hl hb (by omega) (by omega) (by omega) (by omega) (by omega)]
  rw [wide_step (k + 7) l _ _ 6 14 5 hl hb (by omega) (by omega) (by omega) (by omega) (by omega)]
  rw [wide_step (k + 6) l _ _ 5 13 4 hl hb (by omega) (by omega) (by omega) (by omega) (by omega)]
  rw [wide_step (k + 5) l _ _ 4 12 3 hl hb (by omega) (by omega) (by omega) (by omega) (by omega)]
  rw [wide_step (k + 4) l _ _ 3 11 2 hl hb (by omega) (by omega) (by omega) (by omega) (by omega)]
  rw [wide_step (k + 3) l _ _ 2 10 1 hl hb (by omega) (by omega) (by omega) (by omega) (by omega)]
  rw [wide_step (k + 2) l _ _ 1 9 0 hl hb (by omega) (by omega) (by omega) (by omega) (by omega)]
  rw [wide_step (k + 1) l _ _ 0 8 (-1) hl hb (by omega) (by omega) (by omega) (by omega) (by omega)]
  conv => lhs; unfold estuaryref01_Wide.l0
  rw [if_neg (by omega), val16 l hl]
  congr 2
  · congr 1
    omega
  · omega
def addc : List Int → List Int → Int → List Int
  | x :: r, y :: t, c => (x + y + c) % 256 :: addc r t ((x + y + c) / 256)
  | _, _, _ => []
theorem addc_len : ∀ (l m : List Int) (c : Int), l.length = m.length → (addc l m c).length = l.length
  | [], [], _, _ => rfl
  | x :: r, y :: t, c, h => by simp [addc, addc_len r t _ (by simpa using h)]
theorem addc_byt : ∀ (l m : List Int) (c : Int), Byt (addc l m c)
  | [], _, _ => fun b hb => by simp [addc] at hb
  | x :: r, [], _ => fun b hb => by simp [addc] at hb
  | x :: r, y :: t, c => fun b hb => by
    simp only [addc, List.mem_cons] at hb
    rcases hb with rfl | hb
    · omega
    · exact addc_byt r t _ b hb
theorem addc_val : ∀ (l m : List Int) (c : Int), l.length = m.length → ∃ q, val (addc l m c) + 256 ^ l.length * q = val l + val m + c
  | [], [], c, _ => ⟨c, by simp [addc, val]⟩
  | x :: r, y :: t, c, h => by
    obtain ⟨q, hq⟩ := addc_val r t ((x + y + c) / 256) (by simpa using h)
    refine ⟨q, ?_⟩
    simp only [addc, val, List.length_cons, Int.pow_succ, Int.mul_assoc]
    have e : (256 : Int) ^ r.length * (256 * q) = 256 * (256 ^ r.length * q) := by rw [← Int.mul_assoc, ← Int.mul_assoc, Int.mul_comm _ 256]
    rw [e]
    omega
theorem addc16 (l m : List Int) (hl : l.length = 16) (hm : m.length = 16) : val (addc l m 0) = (val l + val m) % 340282366920938463463374607431768211456 := by
  obtain ⟨q, hq⟩ := addc_val l m 0 (by omega)
  have h1 := val_nonneg _ (addc_byt l m 0)
  have h2 := val_lt _ (addc_byt l m 0)
  rw [addc_len l m 0 (by omega), hl] at h2
  rw [hl] at hq
  rw [show (256 : Int) ^ 16 = 340282366920938463463374607431768211456 by decide] at h2 hq
  omega
/-- What the loop of Add holds. -/
def AInv (ah al bh bl : Int) (m : Nat) (pre post ypre ypost : List Int) (c : Int) : Prop :=
  post.length = m ∧ ypost.length = m ∧ pre.length + m = 16 ∧ ypre.length = pre.length ∧ Byt post ∧ Byt ypost ∧ (0 ≤ c ∧ c ≤ 1) ∧ ypre ++ ypost = wb bh bl ∧ pre ++ addc post ypost c = addc (wb ah al) (wb bh bl) 0
theorem AInv.start (ah al bh bl : Int) : AInv ah al bh bl 16 [] (wb ah al) [] (wb bh bl) 0 :=
  ⟨wb_len ah al, wb_len bh bl, rfl, rfl, wb_byt ah al, wb_byt bh bl, by omega, rfl, rfl⟩
theorem AInv.step {ah al bh bl x y c : Int} {m : Nat} {pre r ypre t : List Int} (h : AInv ah al bh bl (m + 1) pre (x :: r) ypre (y :: t) c) : AInv ah al bh bl m (pre ++ [(x + y + c) % 256]) r (ypre ++ [y]) t ((x + y + c) / 256) := by
  obtain ⟨h1, h2, h3, h4, h5, h6, h7, h8, h9⟩ := h
  have hx := h5 x (by simp)
  have hy := h6 y (by simp)
  refine ⟨by simpa using h1, by simpa using h2, by simp; omega, by simp [h4], fun b hb => h5 b (by simp [hb]), fun b hb => h6 b (by simp [hb]), by omega, by simpa using h8, ?_⟩
  rw [← h9]
  simp [addc]
theorem blen_half (n : Nat) (h : n ≠ 0) : blen n = blen (n / 2) + 1 := by
  by_cases h1 : n = 1
  · subst h1
    decide
  · have := blen_shift n 1 (by omega)
    rw [this]
    simp
    omega
theorem ref_l1 : ∀ (k n : Nat) (j : Nat), n < 2 ^ k → n ≤ 9223372036854775807 → j + k ≤ 100 → estuaryref01_Bits.l1 (k + 1) (n : Int) (j : Int) = some ((j + blen n : Nat) : Int)
  | k, 0, j, _, _, _ => by simp [estuaryref01_Bits.l1, blen]
  | 0, n + 1, j, h, _, _ => by simp at h
  | k + 1, n + 1, j, h, hn, hj => by
    rw [estuaryref01_Bits.l1, if_pos (by omega)]
    have e1 : wrap64 (Int.tdiv ((n + 1 : Nat) : Int) 2) = (((n + 1) / 2 : Nat) : Int) := by
      rw [Int.tdiv_eq_ediv_of_nonneg (by omega)]
      unfold wrap64
      omega
    have e2 : wrap64 ((j : Int) + 1) = ((j + 1 : Nat) : Int) := by
      unfold wrap64
      omega
    rw [e1, e2, ref_l1 k ((n + 1) / 2) (j + 1) (by rw [Nat.pow_succ] at h; omega) (by omega) (by omega), blen_half (n + 1) (by omega)]
    congr 2
    omega
/- the amount less one, m: p = 2 ^ j - 1 -/
theorem ref_l0 : ∀ (k m j : Nat), m ≤ 9223372036854775807 → 2 ^ j ≤ 2 * m + 1 → 64 ≤ j + k → estuaryref01_Bits.l0 (k + 1) (m : Int) (j : Int) (((2 : Int) ^ j) - 1) = some ((blen (m + 1) : Nat) : Int)
  | k, m, j, hm, hj, hk => by
    have hz : (2 : Int) ^ j = ((2 ^ j : Nat) : Int) := by push_cast; rfl
    have hp : 0 < 2 ^ j := Nat.two_pow_pos _
    rw [estuaryref01_Bits.l0]
    by_cases h1 : ((2 : Int) ^ j) - 1 < (m : Int)
    · rw [if_pos h1]
      have hj63 : j < 63 := by
        rcases Nat.lt_or_ge j 63 with hc | hc
        · exact hc
        exfalso
        have : (2 : Nat) ^ 63 ≤ 2 ^ j := Nat.pow_le_pow_right (by omega) (by omega)
        simp at this
        omega
      have hp62 : 2 ^ j ≤ 4611686018427387904 := by
        have := Nat.pow_le_pow_right (n := 2) (by omega) (show j ≤ 62 by omega)
        simpa using this
      obtain ⟨k', rfl⟩ : ∃ k', k = k' + 1 := ⟨k - 1, by omega⟩
      have h2 : 2 ^ (j + 1) = 2 ^ j * 2 := Nat.pow_succ 2 j
      have e1 : wrap64 ((j : Int) + 1) = ((j + 1 : Nat) : Int) := by unfold wrap64; omega
      have e2 : wrap64 ((wrap64 (2 * (((2 : Int) ^ j) - 1))) + 1) = ((2 : Int) ^ (j + 1)) - 1 := by
        rw [Int.pow_succ, hz]
        unfold wrap64
        omega
      rw [e1, e2]
      exact ref_l0 k' m (j + 1) hm (by omega) (by omega)
    · rw [if_neg h1]
      have hj64 : j ≤ 64 := by
        rcases Nat.lt_or_ge 64 j with hc | hc
        rotate_left
        · exact hc
        exfalso
        have : (2 : Nat) ^ 65 ≤ 2 ^ j := Nat.pow_le_pow_right (by omega) (by omega)
        simp at this
        omega
      by_cases h3 : ((2 : Int) ^ j) - 1 = (m : Int)
      · rw [if_pos h3]
        have e1 : wrap64 ((j : Int) + 1) = ((j + 1 : Nat) : Int) := by unfold wrap64; omega
        rw [e1, show m + 1 = 2 ^ j by omega, blen_spec (2 ^ j) (j + 1) (by rw [Nat.pow_succ]; omega) (Or.inr (by simp))]
      · rw [if_neg h3]
        rw [blen_spec (m + 1) j (by omega) ?_]
        by_cases hj0 : j = 0
        · exact Or.inl hj0
        · refine Or.inr ?_
          have h2 : 2 ^ (j - 1 + 1) = 2 ^ (j - 1) * 2 := Nat.pow_succ 2 (j - 1)
          rw [show j - 1 + 1 = j by omega] at h2
          omega
theorem rbits_f (n : Int) (h : -9223372036854775808 ≤ n ∧ n ≤ 9223372036854775807) : estuaryref01_Bits.f 70 n = some ((blen n.natAbs : Nat) : Int) := by
  unfold estuaryref01_Bits.f
  by_cases h0 : n = 0
  · subst h0
    rfl
  · rw [if_neg h0]
    by_cases h1 : n < 0
    · rw [if_pos h1]
      obtain ⟨m, hm⟩ := Int.eq_ofNat_of_zero_le (show 0 ≤ -(n + 1) by omega)
      have e : wrap64 (-(wrap64 (n + 1))) = (m : Int) := by unfold wrap64; omega
      rw [e]
      have := ref_l0 69 m 0 (by omega) (by omega) (by omega)
      simp at this
      rw [this, show n.natAbs = m + 1 by omega]
    · rw [if_neg h1]
      obtain ⟨m, rfl⟩ := Int.eq_ofNat_of_zero_le (show 0 ≤ n by omega)
      have := ref_l1 69 m 0 (Nat.lt_of_le_of_lt (show m ≤ 9223372036854775807 by omega) (by decide)) (by omega) (by omega)
      simp at this
      simpa using this

theorem rbits_calls (n : Int) (h : -9223372036854775808 ≤ n ∧ n ≤ 9223372036854775807) (w : World) :
    Calls Try.prog 27 #[.int .i64 n] w fun e w' => e = .returned (.int .i64 ((blen n.natAbs : Nat) : Int)) ∧ Below w.heap.size w w' := (estuaryref01_Bits.calls 70 n _ w (rbits_f n h)).mono fun _ _ h => ⟨h.1, h.2.below⟩
theorem rof_calls (a : Int) (h : -9223372036854775808 ≤ a ∧ a ≤ 9223372036854775807) (w : World) : Calls Try.prog 26 #[.int .i64 a] w fun e w' => e = .returned (.agg #[.int .i64 (a / 9223372036854775808), .int .u64 (a % 18446744073709551616)]) ∧ Below w.heap.size w w' := by
  refine (estuaryref01_Of.calls a (a / 9223372036854775808) (a % 18446744073709551616) w ?_).mono fun _ _ h => h
  unfold estuaryref01_Of.f
  rw [u64_wrap]
  split
  · rw [show a / 9223372036854775808 = -1 by omega]
  · rw [show a / 9223372036854775808 = 0 by omega]
end Go.Proofs.Ytheaipbnbnjlgaa.Ce
