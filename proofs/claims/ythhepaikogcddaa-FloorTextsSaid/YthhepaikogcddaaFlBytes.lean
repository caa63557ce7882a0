/- Wide numbers as sixteen bytes: plain facts. -/
import Derived.Test.YthhepaikogcddaaFlGroup
import Derived.Test.YthhepaikogcddaaFlRef
namespace Go.Proofs.Ythhepaikogcddaa.PFloorGroup
open Go.RowKit Go.Proofs.YthhepaikogcddaaW.PrintWords Go.Proofs.YthhepaikogcddaaW.PrintLast Go.Proofs.YthhepaikogcddaaW.PrintMore
set_option linter.unusedVariables false
set_option linter.unusedSimpArgs false
/-- So many bytes of a number, the lowest first; the number of bytes. -/
def dg : Nat → Int → List Int
  | 0, _ => []
  | n + 1, x => (x % 256) :: dg n (x / 256)
def val : List Int → Int
  | [] => 0
  | b :: r => b + 256 * val r
def Byt (l : List Int) : Prop := ∀ b ∈ l, 0 ≤ b ∧ b < 256
theorem dg_len : ∀ (n : Nat) (x : Int), (dg n x).length = n
  | 0, _ => rfl
  | n + 1, x => by simp [dg, dg_len n]
theorem dg_byt : ∀ (n : Nat) (x : Int), Byt (dg n x)
  | 0, _ => fun b hb => by simp [dg] at hb
  | n + 1, x => fun b hb => by
    simp only [dg, List.mem_cons] at hb
    rcases hb with rfl | hb
    · omega
    · exact dg_byt n _ b hb
theorem val_append : ∀ (l m : List Int), val (l ++ m) = val l + 256 ^ l.length * val m
  | [], m => by simp [val]
  | b :: l, m => by
    simp only [List.cons_append, val, List.length_cons, Int.pow_succ, val_append l m, Int.mul_add]
    rw [Int.mul_comm (256 ^ l.length) 256, Int.mul_assoc]
    omega
theorem val_dg8 (x : Int) (h : 0 ≤ x ∧ x < 18446744073709551616) : val (dg 8 x) = x := by
  simp only [dg, val]
  omega
theorem val_nonneg : ∀ (l : List Int), Byt l → 0 ≤ val l
  | [], _ => by simp [val]
  | b :: l, h => by
    have h1 := h b (by simp)
    have h2 := val_nonneg l (fun c hc => h c (by simp [hc]))
    simp only [val]
    omega
theorem val_lt : ∀ (l : List Int), Byt l → val l < 256 ^ l.length
  | [], _ => by simp [val]
  | b :: l, h => by
    have h1 := h b (by simp)
    have h2 := val_lt l (fun c hc => h c (by simp [hc]))
    simp only [val, List.length_cons, Int.pow_succ]
    omega
theorem bytes_l1 : ∀ (n k : Nat) (xs : List Int) (hi i : Int), i + n = 8 → 0 ≤ i → 0 ≤ hi ∧ hi < 18446744073709551616 → xs.length + n ≤ 100 → estuaryref01_Bytes.l1 (k + n + 1) xs hi i = some (xs ++ dg n hi)
  | 0, k, xs, hi, i, h1, h2, h3, h4 => by
    unfold estuaryref01_Bytes.l1
    rw [if_neg (by omega)]
    simp [dg]
  | n + 1, k, xs, hi, i, h1, h2, h3, h4 => by
    rw [show k + (n + 1) + 1 = (k + n + 1) + 1 by omega]
    unfold estuaryref01_Bytes.l1
    rw [if_pos (by omega), if_pos (by omega)]
    have e1 : Int.tmod hi 256 = hi % 256 := Int.tmod_eq_emod_of_nonneg h3.1
    have e2 : Int.tdiv hi 256 = hi / 256 := Int.tdiv_eq_ediv_of_nonneg h3.1
    rw [e1, e2, wrap_id (x := hi % 256) (by omega) (by omega), wrap_id (x := i + 1) (by omega) (by omega), show IntKind.u64.wrap (hi / 256) = hi / 256 by rw [u64_wrap]; omega]
    rw [bytes_l1 n k (xs ++ [hi % 256]) (hi / 256) (i + 1) (by omega) (by omega) (by omega) (by simp; omega)]
    simp [dg]
theorem bytes_l0 : ∀ (n k : Nat) (xs : List Int) (lo hi i : Int), i + n = 8 → 0 ≤ i → 0 ≤ lo ∧ lo < 18446744073709551616 → 0 ≤ hi ∧ hi < 18446744073709551616 → xs.length + n ≤ 50 → estuaryref01_Bytes.l0 (k + n + 10) xs lo hi i = some (xs ++ dg n lo ++ dg 8 hi)
  | 0, k, xs, lo, hi, i, h1, h2, h3, h4, h5 => by
    unfold estuaryref01_Bytes.l0
    rw [if_neg (by omega), show k + 0 + 9 = k + 8 + 1 by omega, bytes_l1 8 k xs hi 0 (by omega) (by omega) h4 (by omega)]
    simp [dg]
  | n + 1, k, xs, lo, hi, i, h1, h2, h3, h4, h5 => by
    rw [show k + (n + 1) + 10 = (k + n + 10) + 1 by omega]
    unfold estuaryref01_Bytes.l0
    rw [if_pos (by omega), if_pos (by omega)]
    have e1 : Int.tmod lo 256 = lo % 256 := Int.tmod_eq_emod_of_nonneg h3.1
    have e2 : Int.tdiv lo 256 = lo / 256 := Int.tdiv_eq_ediv_of_nonneg h3.1
    rw [e1, e2, wrap_id (x := lo % 256) (by omega) (by omega), wrap_id (x := i + 1) (by omega) (by omega), show IntKind.u64.wrap (lo / 256) = lo / 256 by rw [u64_wrap]; omega]
    rw [bytes_l0 n k (xs ++ [lo % 256]) (lo / 256) hi (i + 1) (by omega) (by omega) (by omega) h4 (by simp; omega)]
    simp [dg]
/-- A wide number's bytes. -/
def wb (ah al : Int) : List Int := dg 8 al ++ dg 8 (IntKind.u64.wrap ah)
theorem wb_len (ah al : Int) : (wb ah al).length = 16 := by simp [wb, dg_len]
theorem wb_byt (ah al : Int) : Byt (wb ah al) := fun b hb => by
  rcases List.mem_append.1 hb with h | h
  · exact dg_byt _ _ b h
  · exact dg_byt _ _ b h
theorem wb_val (ah al : Int) (h : 0 ≤ al ∧ al < 18446744073709551616) : val (wb ah al) = al + 18446744073709551616 * IntKind.u64.wrap ah := by
  rw [wb, val_append, val_dg8 al h, val_dg8 _ (u64_range ah), dg_len]
  congr 1
theorem bytes_f (k : Nat) (ah al : Int) (h : 0 ≤ al ∧ al < 18446744073709551616) : estuaryref01_Bytes.f (k + 18) ah al = some (wb ah al) := by
  unfold estuaryref01_Bytes.f
  exact bytes_l0 8 k [] al _ 0 (by omega) (by omega) h (u64_range ah) (by simp)
theorem rd_byt {l : List Int} (h : Byt l) (i : Int) (h0 : 0 ≤ i) (h1 : i < l.length) : 0 ≤ rd l i ∧ rd l i < 256 := by
  have h2 : i.toNat < l.length := by omega
  have e : rd l i = l[i.toNat] := by
    unfold rd
    simp [List.getD_eq_getElem?_getD, List.getElem?_eq_getElem h2]
  rw [e]
  exact h _ (List.getElem_mem h2)
theorem wide_step (k : Nat) (l : List Int) (x y i m j : Int) (hl : l.length = 16) (hb : Byt l) (hi : 0 ≤ i ∧ i < 8) (hm : m = 8 + i) (hj : j = i - 1) (hx : 0 ≤ x ∧ x < 72057594037927936) (hy : 0 ≤ y ∧ y < 72057594037927936) :
    estuaryref01_Wide.l0 (k + 1) l x y i = estuaryref01_Wide.l0 k l (x * 256 + rd l i) (y * 256 + rd l m) j := by
  subst hm hj
  have h1 := rd_byt hb i hi.1 (by omega)
  have h2 := rd_byt hb (8 + i) (by omega) (by omega)
  have u : ∀ z : Int, 0 ≤ z → z < 18446744073709551616 → IntKind.u64.wrap z = z := fun z a b => by rw [u64_wrap]; omega
  conv => lhs; unfold estuaryref01_Wide.l0
  rw [if_pos (by omega), if_pos (by omega), if_pos (by omega), wrap_id (x := 8 + i) (by omega) (by omega), if_pos (by omega), if_pos (by omega), wrap_id (x := i - 1) (by omega) (by omega),
    u (x * 256) (by omega) (by omega), u (rd l i) (by omega) (by omega), u (x * 256 + rd l i) (by omega) (by omega), u (y * 256) (by omega) (by omega), u (rd l (8 + i)) (by omega) (by omega), u (y * 256 + rd l (8 + i)) (by omega) (by omega)]
theorem val16 (l : List Int) (hl : l.length = 16) : val l = rd l 0 + 256 * (rd l 1 + 256 * (rd l 2 + 256 * (rd l 3 + 256 * (rd l 4 + 256 * (rd l 5 + 256 * (rd l 6 + 256 * (rd l 7 + 256 * (rd l 8 + 256 * (rd l 9 + 256 * (rd l 10 + 256 * (rd l 11 + 256 * (rd l 12 + 256 * (rd l 13 + 256 * (rd l 14 + 256 * (rd l 15 + 256 * 0))))))))))))))) := by
  match l, hl with
  | [a0, a1, a2, a3, a4, a5, a6, a7, b0, b1, b2, b3, b4, b5, b6, b7], hl => rfl
theorem wide_f (k : Nat) (l : List Int) (hl : l.length = 16) (hb : Byt l) : estuaryref01_Wide.f (k + 9) l = some (wrap64 (val l / 18446744073709551616), val l % 18446744073709551616) := by
  have r0 := rd_byt hb 0 (by omega) (by omega)
  have r1 := rd_byt hb 1 (by omega) (by omega)
  have r2 := rd_byt hb 2 (by omega) (by omega)
  have r3 := rd_byt hb 3 (by omega) (by omega)
  have r4 := rd_byt hb 4 (by omega) (by omega)
  have r5 := rd_byt hb 5 (by omega) (by omega)
  have r6 := rd_byt hb 6 (by omega) (by omega)
  have r7 := rd_byt hb 7 (by omega) (by omega)
  have r8 := rd_byt hb 8 (by omega) (by omega)
  have r9 := rd_byt hb 9 (by omega) (by omega)
  have r10 := rd_byt hb 10 (by omega) (by omega)
  have r11 := rd_byt hb 11 (by omega) (by omega)
  have r12 := rd_byt hb 12 (by omega) (by omega)
  have r13 := rd_byt hb 13 (by omega) (by omega)
  have r14 := rd_byt hb 14 (by omega) (by omega)
  have r15 := rd_byt hb 15 (by omega) (by omega)
  unfold estuaryref01_Wide.f
  rw [wide_step (k + 8) l _ _ 7 15 6 hl hb (by omega) (by omega) (by omega) (by omega) (by omega)]
  rw [wide_step (k + 7) l _ _ 6 14 5 hl hb (by omega) (by omega) (by omega) (by omega) (by omega)]
  rw [wide_step (k + 6) l _ _ 5 13 4 hl hb (by omega) (by omega) (by omega) (by omega) (by omega)]
  rw [wide_step (k + 5) l _ _ 4 12 3 hl hb (by omega) (by omega) (by omega) (by omega) (by omega)]
  rw [wide_step (k + 4) l _ _ 3 11 2 hl hb (by omega) (by omega) (by omega) (by omega) (by omega)]
  rw [wide_step (k + 3) l _ _ 2 10 1 hl hb (by omega) (by omega) (by omega) (by omega) (by omega)]
  rw [wide_step (k + 2) l _ _ 1 9 0 hl hb (by omega) (by omega) (by omega) (by omega) (by omega)]
  rw [wide_step (k + 1) l _ _ 0 8 (-1) hl hb (by omega) (by omega) (by omega) (by omega) (by omega)]
  conv => lhs; unfold estuaryref01_Wide.l0
  rw [if_neg (by omega), val16 l hl]
  congr 2
  · congr 1
    omega
  · omega
def mulc : List Int → Int → Int → List Int
  | [], _, _ => []
  | x :: r, m, c => (x * m + c) % 256 :: mulc r m ((x * m + c) / 256)
theorem mulc_len : ∀ (l : List Int) (m c : Int), (mulc l m c).length = l.length
  | [], _, _ => rfl
  | x :: r, m, c => by simp [mulc, mulc_len r]
theorem mulc_byt : ∀ (l : List Int) (m c : Int), Byt (mulc l m c)
  | [], _, _ => fun b hb => by simp [mulc] at hb
  | x :: r, m, c => fun b hb => by
    simp only [mulc, List.mem_cons] at hb
    rcases hb with rfl | hb
    · omega
    · exact mulc_byt r _ _ b hb
theorem mulc_val : ∀ (l : List Int) (m c : Int), ∃ q, val (mulc l m c) + 256 ^ l.length * q = val l * m + c
  | [], m, c => ⟨c, by simp [mulc, val]⟩
  | x :: r, m, c => by
    obtain ⟨q, hq⟩ := mulc_val r m ((x * m + c) / 256)
    refine ⟨q, ?_⟩
    simp only [mulc, val, List.length_cons, Int.pow_succ, Int.add_mul, Int.mul_assoc]
    have e : (256 : Int) ^ r.length * (256 * q) = 256 * (256 ^ r.length * q) := by rw [← Int.mul_assoc, ← Int.mul_assoc, Int.mul_comm _ 256]
    rw [e]
    omega
theorem set_mid (pre r : List Int) (x z : Int) : (pre ++ x :: r).set ((pre.length : Int)).toNat z = (pre ++ [z]) ++ r := by
  simp
theorem rd_mid (pre r : List Int) (x : Int) : rd (pre ++ x :: r) (pre.length : Int) = x := by
  unfold rd
  simp
theorem times_l0 (m : Int) (hm : 0 ≤ m ∧ m ≤ 10) : ∀ (post : List Int) (k : Nat) (pre : List Int) (c : Int), Byt post → 0 ≤ c ∧ c ≤ 10 → pre.length + post.length = 16 →
    estuaryref01_times.l0 (k + post.length + 1) m c (pre ++ post) (pre.length : Int) = (estuaryref01_Wide.f k (pre ++ mulc post m c)).bind fun t => some (t.1, t.2)
  | [], k, pre, c, hb, hc, hl => by
    simp at hl
    unfold estuaryref01_times.l0
    rw [if_neg (by omega)]
    rfl
  | x :: r, k, pre, c, hb, hc, hl => by
    simp only [List.length_cons] at hl ⊢
    have hx := hb x (by simp)
    have h0 : 0 ≤ x * m := Int.mul_nonneg hx.1 hm.1
    have h1 : x * m ≤ 255 * 10 := Int.mul_le_mul (by omega) hm.2 hm.1 (by omega)
    rw [show k + (r.length + 1) + 1 = (k + r.length + 1) + 1 by omega]
    conv => lhs; unfold estuaryref01_times.l0
    rw [if_pos (by omega), if_pos (by omega), if_pos (by simp; omega), rd_mid, set_mid, wrap_id (x := x * m) (by omega) (by omega), wrap_id (x := x * m + c) (by omega) (by omega),
      Int.tmod_eq_emod_of_nonneg (by omega), Int.tdiv_eq_ediv_of_nonneg (by omega), wrap_id (x := (x * m + c) / 256) (by omega) (by omega), wrap_id (x := (pre.length : Int) + 1) (by omega) (by omega)]
    have ih := times_l0 m hm r k (pre ++ [(x * m + c) % 256]) ((x * m + c) / 256) (fun b h => hb b (by simp [h])) (by omega) (by simp; omega)
    simp only [List.length_append, List.length_singleton, Int.natCast_add] at ih
    rw [show ((1 : Nat) : Int) = 1 from rfl] at ih
    rw [ih]
    simp [mulc]
theorem mulc16 (l : List Int) (m c : Int) (hl : l.length = 16) : val (mulc l m c) = (val l * m + c) % 340282366920938463463374607431768211456 := by
  obtain ⟨q, hq⟩ := mulc_val l m c
  have h1 := val_nonneg _ (mulc_byt l m c)
  have h2 := val_lt _ (mulc_byt l m c)
  rw [mulc_len, hl] at h2
  rw [hl] at hq
  rw [show (256 : Int) ^ 16 = 340282366920938463463374607431768211456 by decide] at h2 hq
  generalize val l * m + c = z at *
  omega
theorem times_f (k : Nat) (ah al m c : Int) (hal : 0 ≤ al ∧ al < 18446744073709551616) (hm : 0 ≤ m ∧ m ≤ 10) (hc : 0 ≤ c ∧ c ≤ 10) :
    estuaryref01_times.f (k + 30) ah al m c = some (wrap64 (((al + 18446744073709551616 * IntKind.u64.wrap ah) * m + c) % 340282366920938463463374607431768211456 / 18446744073709551616), ((al + 18446744073709551616 * IntKind.u64.wrap ah) * m + c) % 340282366920938463463374607431768211456 % 18446744073709551616) := by
  unfold estuaryref01_times.f
  rw [show k + 30 = (k + 12) + 18 by omega, bytes_f _ ah al hal]
  simp only [Option.bind_some]
  have h := times_l0 m hm (wb ah al) (k + 13) [] c (wb_byt ah al) hc (by simp [wb_len])
  rw [wb_len] at h
  simp only [List.nil_append, List.length_nil, Int.natCast_zero] at h
  rw [show k + 12 + 18 = k + 13 + 16 + 1 by omega]
  refine h.trans ?_
  rw [show k + 13 = (k + 4) + 9 by omega, wide_f _ _ (by simp [mulc_len, wb_len]) (mulc_byt _ _ _), mulc16 _ _ _ (wb_len ah al), wb_val ah al hal]
  rfl
def negl (l : List Int) : List Int := l.map fun x => 255 - x
theorem negl_byt (l : List Int) (h : Byt l) : Byt (negl l) := fun b hb => by
  obtain ⟨x, hx, rfl⟩ := List.mem_map.1 hb
  have := h x hx
  omega
theorem negl_val : ∀ l : List Int, val (negl l) = 256 ^ l.length - 1 - val l
  | [] => by simp [negl, val]
  | x :: r => by
    have := negl_val r
    simp only [negl, List.map_cons, val, List.length_cons, Int.pow_succ] at this ⊢
    omega
theorem neg_l0 : ∀ (post : List Int) (k : Nat) (pre : List Int), Byt post → pre.length + post.length = 16 →
    estuaryref01_Neg.l0 (k + post.length + 1) (pre ++ post) (pre.length : Int) = (estuaryref01_Wide.f k (pre ++ negl post)).bind fun t => (estuaryref01_times.f k t.1 t.2 1 1).bind fun u => some (u.1, u.2)
  | [], k, pre, hb, hl => by
    simp at hl
    unfold estuaryref01_Neg.l0
    rw [if_neg (by omega)]
    rfl
  | x :: r, k, pre, hb, hl => by
    simp only [List.length_cons] at hl ⊢
    have hx := hb x (by simp)
    rw [show k + (r.length + 1) + 1 = (k + r.length + 1) + 1 by omega]
    conv => lhs; unfold estuaryref01_Neg.l0
    rw [if_pos (by omega), if_pos (by omega), if_pos (by simp; omega), rd_mid, set_mid, wrap_id (x := 255 - x) (by omega) (by omega), wrap_id (x := (pre.length : Int) + 1) (by omega) (by omega)]
    have ih := neg_l0 r k (pre ++ [255 - x]) (fun b h => hb b (by simp [h])) (by simp; omega)
    simp only [List.length_append, List.length_singleton, Int.natCast_add] at ih
    rw [show ((1 : Nat) : Int) = 1 from rfl] at ih
    rw [ih]
    simp [negl]
theorem neg_f (k : Nat) (ah al : Int) (hah : -9223372036854775808 ≤ ah ∧ ah ≤ 9223372036854775807) (hal : 0 ≤ al ∧ al < 18446744073709551616) : estuaryref01_Neg.f (k + 50) ah al = some (nh ah al, nl al) := by
  unfold estuaryref01_Neg.f
  rw [show k + 50 = (k + 32) + 18 by omega, bytes_f _ ah al hal]
  simp only [Option.bind_some]
  have h := neg_l0 (wb ah al) (k + 33) [] (wb_byt ah al) (by simp [wb_len])
  rw [wb_len] at h
  simp only [List.nil_append, List.length_nil, Int.natCast_zero] at h
  rw [show k + 32 + 18 = k + 33 + 16 + 1 by omega]
  refine h.trans ?_
  rw [show k + 33 = (k + 24) + 9 by omega, wide_f _ _ (by simp [negl, wb_len]) (negl_byt _ (wb_byt ah al)), negl_val, wb_len, wb_val ah al hal, show (256 : Int) ^ 16 = 340282366920938463463374607431768211456 by decide]
  simp only [Option.bind_some]
  rw [show k + 24 + 9 = (k + 3) + 30 by omega, times_f _ _ _ 1 1 (by omega) (by omega) (by omega)]
  simp only [Option.bind_some]
  have hu := u64_range ah
  have e1 : IntKind.u64.wrap ah = ah % 18446744073709551616 := u64_wrap ah
  generalize IntKind.u64.wrap ah = u at *
  have e2 : ∀ z : Int, 0 ≤ z → z < 18446744073709551616 → IntKind.u64.wrap (wrap64 z) = z := fun z a b => by rw [u64_wrap]; unfold wrap64; omega
  rw [e2 _ (by omega) (by omega)]
  unfold nh nl wrap64
  congr 2
  · omega
  · omega
theorem val_take (l : List Int) (n : Nat) (h : n < l.length) : val (l.take (n + 1)) = val (l.take n) + 256 ^ n * rd l n := by
  have e : l.take (n + 1) = l.take n ++ [l[n]] := by rw [List.take_succ_eq_append_getElem h]
  have e2 : rd l n = l[n] := by
    unfold rd
    simp [List.getD_eq_getElem?_getD, List.getElem?_eq_getElem h]
  rw [e, val_append, e2, List.length_take, Nat.min_eq_left (by omega)]
  simp [val]
theorem less_l0 : ∀ (n k : Nat) (x y : List Int), x.length = 16 → y.length = 16 → Byt x → Byt y → n ≤ 16 → ∀ i : Int, i = (n : Int) - 1 → estuaryref01_Less.l0 (k + n + 1) x y i = some (decide (val (x.take n) < val (y.take n)))
  | 0, k, x, y, hx, hy, bx, by_, hn, i, hi => by
    unfold estuaryref01_Less.l0
    rw [if_neg (by omega)]
    simp [val]
  | n + 1, k, x, y, hx, hy, bx, by_, hn, i, hi => by
    have hi' : i = (n : Int) := by omega
    subst hi'
    rw [show k + (n + 1) + 1 = (k + n + 1) + 1 by omega]
    conv => lhs; unfold estuaryref01_Less.l0
    rw [if_pos (by omega), if_pos (by omega), if_pos (by omega), if_pos (by omega), wrap_id (x := (n : Int) - 1) (by omega) (by omega), val_take x n (by omega), val_take y n (by omega)]
    have ih := less_l0 n k x y hx hy bx by_ (by omega) ((n : Int) - 1) rfl
    have l1 := val_nonneg (x.take n) (fun b h => bx b (List.mem_of_mem_take h))
    have l2 := val_lt (x.take n) (fun b h => bx b (List.mem_of_mem_take h))
    have l3 := val_nonneg (y.take n) (fun b h => by_ b (List.mem_of_mem_take h))
    have l4 := val_lt (y.take n) (fun b h => by_ b (List.mem_of_mem_take h))
    rw [List.length_take, Nat.min_eq_left (by omega)] at l2 l4
    generalize val (x.take n) = a at *
    generalize val (y.take n) = b at *
    generalize rd x n = p at *
    generalize rd y n = q at *
    have hP : 0 ≤ (256 : Int) ^ n := by omega
    generalize (256 : Int) ^ n = P at *
    by_cases hpq : p = q
    · subst hpq
      rw [if_pos rfl, ih]
      congr 1
      rw [decide_eq_decide]
      omega
    · rw [if_neg hpq]
      congr 1
      rw [decide_eq_decide]
      rcases Int.lt_or_gt_of_ne hpq with h | h
      · have := Int.mul_le_mul_of_nonneg_left (show p + 1 ≤ q by omega) hP
        rw [Int.mul_add] at this
        omega
      · have := Int.mul_le_mul_of_nonneg_left (show q + 1 ≤ p by omega) hP
        rw [Int.mul_add] at this
        omega
theorem val_set15 (l : List Int) (hl : l.length = 16) (hb : Byt l) : val (l.set 15 ((rd l 15 + 128) % 256)) = (val l + 170141183460469231731687303715884105728) % 340282366920938463463374607431768211456 := by
  match l, hl with
  | [a0, a1, a2, a3, a4, a5, a6, a7, b0, b1, b2, b3, b4, b5, b6, b7], hl =>
    have A0 := hb a0 (by simp); have A1 := hb a1 (by simp); have A2 := hb a2 (by simp); have A3 := hb a3 (by simp)
    have A4 := hb a4 (by simp); have A5 := hb a5 (by simp); have A6 := hb a6 (by simp); have A7 := hb a7 (by simp)
    have B0 := hb b0 (by simp); have B1 := hb b1 (by simp); have B2 := hb b2 (by simp); have B3 := hb b3 (by simp)
    have B4 := hb b4 (by simp); have B5 := hb b5 (by simp); have B6 := hb b6 (by simp); have B7 := hb b7 (by simp)
    have e : ∀ z : Int, [a0, a1, a2, a3, a4, a5, a6, a7, b0, b1, b2, b3, b4, b5, b6, b7].set 15 z = [a0, a1, a2, a3, a4, a5, a6, a7, b0, b1, b2, b3, b4, b5, b6, z] := fun _ => rfl
    have e2 : rd [a0, a1, a2, a3, a4, a5, a6, a7, b0, b1, b2, b3, b4, b5, b6, b7] 15 = b7 := rfl
    rw [e, e2]
    simp only [val]
    omega
theorem set15_byt (l : List Int) (hb : Byt l) (z : Int) (hz : 0 ≤ z ∧ z < 256) : Byt (l.set 15 z) := fun b h => by
  rcases List.mem_or_eq_of_mem_set h with h | h
  · exact hb b h
  · subst h; exact hz
theorem less_f (k : Nat) (ah al bh bl : Int) (hah : -9223372036854775808 ≤ ah ∧ ah ≤ 9223372036854775807) (hal : 0 ≤ al ∧ al < 18446744073709551616) (hbh : -9223372036854775808 ≤ bh ∧ bh ≤ 9223372036854775807) (hbl : 0 ≤ bl ∧ bl < 18446744073709551616) :
    estuaryref01_Less.f (k + 18) ah al bh bl = some (decide (ah * 18446744073709551616 + al < bh * 18446744073709551616 + bl)) := by
  unfold estuaryref01_Less.f
  rw [bytes_f _ ah al hal, bytes_f _ bh bl hbl]
  simp only [Option.bind_some]
  have r1 := rd_byt (wb_byt ah al) 15 (by omega) (by simp [wb_len])
  have r2 := rd_byt (wb_byt bh bl) 15 (by omega) (by simp [wb_len])
  rw [if_pos (by simp [wb_len]), if_pos (by simp [wb_len]), wrap_id (x := rd (wb ah al) 15 + 128) (by omega) (by omega), wrap_id (x := rd (wb bh bl) 15 + 128) (by omega) (by omega), Int.tmod_eq_emod_of_nonneg (by omega), Int.tmod_eq_emod_of_nonneg (by omega)]
  rw [show ((15 : Int)).toNat = 15 from rfl]
  rw [show k + 18 = (k + 1) + 16 + 1 by omega, less_l0 16 (k + 1) _ _ (by simp [wb_len]) (by simp [wb_len]) (set15_byt _ (wb_byt ah al) _ (by omega)) (set15_byt _ (wb_byt bh bl) _ (by omega)) (by omega) 15 (by decide)]
  rw [List.take_of_length_le (by simp [wb_len]), List.take_of_length_le (by simp [wb_len]), val_set15 _ (wb_len ah al) (wb_byt ah al), val_set15 _ (wb_len bh bl) (wb_byt bh bl), wb_val ah al hal, wb_val bh bl hbl, u64_wrap, u64_wrap]
  congr 1
  rw [decide_eq_decide]
  omega
def addc : List Int → List Int → Int → List Int
  | x :: r, y :: t, c => (x + y + c) % 256 :: addc r t ((x + y + c) / 256)
  | _, _, _ => []
theorem addc_len : ∀ (l m : List Int) (c : Int), l.length = m.length → (addc l m c).length = l.length
  | [], [], _, _ => rfl
  | x :: r, y :: t, c, h => by simp [addc, addc_len r t _ (by simpa using h)]
theorem addc_byt : ∀ (l m : List Int) (c : Int), Byt (addc l m c)
  | [], _, _ => fun b hb => by simp [addc] at hb
  | x :: r, [], _ => fun b hb => by simp [addc] at hb
  | x :: r, y :: t, c => fun b hb => by
    simp only [addc, List.mem_cons] at hb
    rcases hb with rfl | hb
    · omega
    · exact addc_byt r t _ b hb
theorem addc_val : ∀ (l m : List Int) (c : Int), l.length = m.length → ∃ q, val (addc l m c) + 256 ^ l.length * q = val l + val m + c
  | [], [], c, _ => ⟨c, by simp [addc, val]⟩
  | x :: r, y :: t, c, h => by
    obtain ⟨q, hq⟩ := addc_val r t ((x + y + c) / 256) (by simpa using h)
    refine ⟨q, ?_⟩
    simp only [addc, val, List.length_cons, Int.pow_succ, Int.mul_assoc]
    have e : (256 : Int) ^ r.length * (256 * q) = 256 * (256 ^ r.length * q) := by rw [← Int.mul_assoc, ← Int.mul_assoc, Int.mul_comm _ 256]
    rw [e]
    omega
theorem addc16 (l m : List Int) (hl : l.length = 16) (hm : m.length = 16) : val (addc l m 0) = (val l + val m) % 340282366920938463463374607431768211456 := by
  obtain ⟨q, hq⟩ := addc_val l m 0 (by omega)
  have h1 := val_nonneg _ (addc_byt l m 0)
  have h2 := val_lt _ (addc_byt l m 0)
  rw [addc_len l m 0 (by omega), hl] at h2
  rw [hl] at hq
  rw [show (256 : Int) ^ 16 = 340282366920938463463374607431768211456 by decide] at h2 hq
  omega
/-- What the loop of Add holds. -/
def AInv (ah al bh bl : Int) (m : Nat) (pre post ypre ypost : List Int) (c : Int) : Prop :=
  post.length = m ∧ ypost.length = m ∧ pre.length + m = 16 ∧ ypre.length = pre.length ∧ Byt post ∧ Byt ypost ∧ (0 ≤ c ∧ c ≤ 1) ∧ ypre ++ ypost = wb bh bl ∧ pre ++ addc post ypost c = addc (wb ah al) (wb bh bl) 0
theorem AInv.start (ah al bh bl : Int) : AInv ah al bh bl 16 [] (wb ah al) [] (wb bh bl) 0 :=
  ⟨wb_len ah al, wb_len bh bl, rfl, rfl, wb_byt ah al, wb_byt bh bl, by omega, rfl, rfl⟩
theorem AInv.step {ah al bh bl x y c : Int} {m : Nat} {pre r ypre t : List Int} (h : AInv ah al bh bl (m + 1) pre (x :: r) ypre (y :: t) c) : AInv ah al bh bl m (pre ++ [(x + y + c) % 256]) r (ypre ++ [y]) t ((x + y + c) / 256) := by
  obtain ⟨h1, h2, h3, h4, h5, h6, h7, h8, h9⟩ := h
  have hx := h5 x (by simp)
  have hy := h6 y (by simp)
  refine ⟨by simpa using h1, by simpa using h2, by simp; omega, by simp [h4], fun b hb => h5 b (by simp [hb]), fun b hb => h6 b (by simp [hb]), by omega, by simpa using h8, ?_⟩
  rw [← h9]
  simp [addc]
end Go.Proofs.Ythhepaikogcddaa.PFloorGroup
