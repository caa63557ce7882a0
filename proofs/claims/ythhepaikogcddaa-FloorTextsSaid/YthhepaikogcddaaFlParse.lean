/- Texts of wide numbers: what the program and the document compute, in numbers. -/
import Derived.Test.YthhepaikogcddaaFlBytes
import Derived.Test.YthhepaikogcddaaFlRefT
import Derived.Test.YthhepaikogcddaaFlRefP
namespace Go.Proofs.Ythhepaikogcddaa.PFloorGroup
open Go.RowKit Go.Proofs.YthhepaikogcddaaW.PrintWords Go.Proofs.YthhepaikogcddaaW.PrintLast Go.Proofs.YthhepaikogcddaaW.PrintMore
open Go.Proofs.Ythhepaikogcddaa.Flow
set_option linter.unusedVariables false
set_option linter.unusedSimpArgs false
/-- A number as a wide one. -/
def Wh (n : Int) : Int := wrap64 (n / 18446744073709551616)
def Wl (n : Int) : Int := n % 18446744073709551616
theorem Wh_range (n : Int) : -9223372036854775808 ≤ Wh n ∧ Wh n ≤ 9223372036854775807 := by unfold Wh wrap64; omega
theorem Wl_range (n : Int) : 0 ≤ Wl n ∧ Wl n < 18446744073709551616 := by unfold Wl; omega
theorem wh_W (n m : Int) : wh (Wh n) (Wl n) (Wh m) (Wl m) = Wh (n + m) := by unfold wh Wh Wl wrap64; omega
theorem wl_W (n m : Int) : wl (Wl n) (Wl m) = Wl (n + m) := by unfold wl Wl; omega
theorem nh_W (n : Int) : nh (Wh n) (Wl n) = Wh (-n) := by unfold nh Wh Wl wrap64; omega
theorem nl_W (n : Int) : nl (Wl n) = Wl (-n) := by unfold nl Wl; omega
theorem W_back (ah al : Int) (hah : -9223372036854775808 ≤ ah ∧ ah ≤ 9223372036854775807) (hal : 0 ≤ al ∧ al < 18446744073709551616) : Wh (ah * 18446744073709551616 + al) = ah ∧ Wl (ah * 18446744073709551616 + al) = al := by unfold Wh Wl wrap64; omega
theorem W_num (n : Int) : Wl n + 18446744073709551616 * IntKind.u64.wrap (Wh n) = n % 340282366920938463463374607431768211456 := by
  rw [u64_wrap]
  unfold Wh Wl wrap64
  omega
theorem W_mod (x : Int) : wrap64 (x % 340282366920938463463374607431768211456 / 18446744073709551616) = Wh x ∧ x % 340282366920938463463374607431768211456 % 18446744073709551616 = Wl x := by
  unfold Wh Wl wrap64
  constructor <;> omega
theorem mul_mod (n c : Int) : (n % 340282366920938463463374607431768211456 * 10 + c) % 340282366920938463463374607431768211456 = (10 * n + c) % 340282366920938463463374607431768211456 := by omega
theorem times_W (k : Nat) (n c : Int) (hc : 0 ≤ c ∧ c ≤ 10) : estuaryref01_times.f (k + 30) (Wh n) (Wl n) 10 c = some (Wh (10 * n + c), Wl (10 * n + c)) := by
  rw [times_f k (Wh n) (Wl n) 10 c (Wl_range n) (by omega) hc, W_num, mul_mod, (W_mod _).1, (W_mod _).2]
/- ---------------------------------------------------------------- the document's text -/
theorem digs_len2 : ∀ (k f n : Nat) (acc : List Int), n < 10 ^ k → (digs f n acc).length ≤ k + acc.length
  | _, 0, _, acc, _ => by simp [digs]
  | 0, f + 1, n, acc, h => by
    have : n = 0 := by simpa using h
    simp [digs, this]
  | k + 1, f + 1, n, acc, h => by
    simp only [digs]
    split
    · omega
    · have := digs_len2 k f (n / 10) ((48 + ((n % 10 : Nat) : Int)) :: acc) (by rw [Nat.pow_succ] at h; omega)
      simp at this ⊢
      omega
theorem digits_len (N : Nat) (h : N < 1000000000000000000000000000000000000000) : (digits N).length ≤ 39 := by
  have := digs_len2 38 39 (N / 10) [48 + ((N % 10 : Nat) : Int)] (by have : (10 : Nat) ^ 38 = 100000000000000000000000000000000000000 := by decide
                                                                     rw [this]; omega)
  exact this
theorem digs_all : ∀ (f n : Nat) (acc : List Int), (∀ d ∈ acc, 48 ≤ d ∧ d ≤ 57) → ∀ d ∈ digs f n acc, 48 ≤ d ∧ d ≤ 57
  | 0, _, acc, h => by simpa [digs] using h
  | f + 1, n, acc, h => by
    simp only [digs]
    split
    · exact h
    · refine digs_all f (n / 10) _ ?_
      intro d hd
      rcases List.mem_cons.1 hd with rfl | hd
      · omega
      · exact h d hd
theorem digits_all (N : Nat) : ∀ d ∈ digits N, 48 ≤ d ∧ d ≤ 57 := digs_all _ _ _ (fun d hd => by
  have := List.mem_singleton.1 hd
  omega)
/-- The value of digits. -/
def lv : List Int → Int → Int
  | [], a => a
  | d :: r, a => lv r (10 * a + (d - 48))
theorem digs_lv : ∀ (f n : Nat) (acc : List Int), n < 10 ^ f → lv (digs f n acc) 0 = lv acc (n : Int)
  | 0, n, acc, h => by
    have : n = 0 := by simpa using h
    subst this
    rfl
  | f + 1, n, acc, h => by
    simp only [digs]
    split
    · rename_i h0
      subst h0
      rfl
    · rw [digs_lv f (n / 10) _ (by rw [Nat.pow_succ] at h; omega)]
      simp only [lv]
      congr 1
      omega
theorem digits_lv (N : Nat) (h : N < 1000000000000000000000000000000000000000) : lv (digits N) 0 = (N : Int) := by
  unfold digits
  rw [digs_lv 39 (N / 10) _ (Nat.lt_of_le_of_lt (show N / 10 ≤ 100000000000000000000000000000000000000 by omega) (by decide))]
  simp only [lv]
  omega
theorem digits_ne (N : Nat) : digits N ≠ [] := by
  have : ∀ (f n : Nat) (acc : List Int), acc ≠ [] → digs f n acc ≠ [] := by
    intro f
    induction f with
    | zero => intro n acc h; simpa [digs] using h
    | succ f ih =>
      intro n acc h
      simp only [digs]
      split
      · exact h
      · exact ih _ _ (by simp)
  exact this _ _ _ (by simp)
theorem son_cons (x : Int) (l : List Int) : strOfNums [x] ++ strOfNums l = strOfNums (x :: l) := by
  apply ByteArray.ext
  simp [strOfNums]
/-- One pass of the division by ten over bytes, from the highest on. -/
theorem text_l1 (s sg : ByteArray) : ∀ (m k : Nat) (pre post : List Int) (rest : Int) (more : Bool), pre.length = m → Byt pre → Byt post → 0 ≤ rest ∧ rest < 10 → m + post.length = 16 →
    ∃ q : List Int, q.length = m ∧ Byt q ∧ val q = (rest * 256 ^ m + val pre) / 10 ∧
      estuaryref01_Text.l1 (k + m) s (pre ++ post) sg rest more ((m : Int) - 1) = estuaryref01_Text.l1 k s (q ++ post) sg ((rest * 256 ^ m + val pre) % 10) (more || decide (0 < val q)) (-1)
  | 0, k, pre, post, rest, more, h1, h2, h3, h4, h5 => by
    have : pre = [] := by simpa using h1
    subst this
    refine ⟨[], rfl, fun b hb => by simp at hb, by simp [val]; omega, ?_⟩
    simp [val]
    rw [Int.emod_eq_of_lt h4.1 h4.2]
  | m + 1, k, pre, post, rest, more, h1, h2, h3, h4, h5 => by
    obtain ⟨pre', x, rfl⟩ : ∃ pre' x, pre = pre' ++ [x] := ⟨pre.dropLast, pre.getLast (by intro h; subst h; simp at h1), (List.dropLast_concat_getLast _).symm⟩
    have hl : pre'.length = m := by simpa using h1
    have hx := h2 x (by simp)
    have hb' : Byt pre' := fun b hb => h2 b (by simp [hb])
    have e0 : pre' ++ [x] ++ post = pre' ++ x :: post := by simp
    have er : rd (pre' ++ x :: post) ((m + 1 : Nat) - 1 : Int) = x := by
      have := rd_mid pre' post x
      rw [hl] at this
      rw [show ((m + 1 : Nat) : Int) - 1 = (m : Int) by omega]
      exact this
    have es : ∀ z, (pre' ++ x :: post).set (((m + 1 : Nat) - 1 : Int)).toNat z = pre' ++ z :: post := by
      intro z
      have := set_mid pre' post x z
      rw [hl] at this
      rw [show ((m + 1 : Nat) : Int) - 1 = (m : Int) by omega, this]
      simp
    have ew1 : wrap64 (wrap64 (rest * 256) + x) = rest * 256 + x := by unfold wrap64; omega
    have ew2 : wrap64 (Int.tdiv (rest * 256 + x) 10) = (rest * 256 + x) / 10 := by
      rw [Int.tdiv_eq_ediv_of_nonneg (by omega)]
      unfold wrap64
      omega
    have et : Int.tmod (rest * 256 + x) 10 = (rest * 256 + x) % 10 := Int.tmod_eq_emod_of_nonneg (by omega)
    have ej : wrap64 (((m + 1 : Nat) : Int) - 1 - 1) = (m : Int) - 1 := by unfold wrap64; omega
    generalize hz : (rest * 256 + x) / 10 = z at *
    generalize hr : (rest * 256 + x) % 10 = r at *
    obtain ⟨q, g1, g2, g3, g4⟩ := text_l1 s sg m k pre' (z :: post) r (more || decide (0 < z)) hl hb' (by
      intro b hb
      rcases List.mem_cons.1 hb with rfl | hb
      · omega
      · exact h3 b hb) (by omega) (by simp; omega)
    have hV : rest * 256 ^ (m + 1) + val (pre' ++ [x]) = 10 * (z * 256 ^ m) + (r * 256 ^ m + val pre') := by
      rw [val_append, hl]
      simp only [val]
      have : rest * 256 + x = 10 * z + r := by omega
      have h9 : (rest * 256 + x) * 256 ^ m = (10 * z + r) * 256 ^ m := by rw [this]
      rw [Int.add_mul, Int.add_mul, Int.mul_assoc, Int.mul_assoc] at h9
      rw [Int.pow_succ, Int.mul_comm (256 ^ m) 256]
      rw [Int.mul_comm (256 ^ m) (x + 256 * 0)]
      rw [show x + 256 * 0 = x by omega]
      omega
    refine ⟨q ++ [z], by simp [g1], ?_, ?_, ?_⟩
    · intro b hb
      rcases List.mem_append.1 hb with hb | hb
      · exact g2 b hb
      · have := List.mem_singleton.1 hb
        omega
    · rw [val_append, g1, g3, hV]
      simp only [val]
      rw [Int.mul_comm (256 ^ m) (z + 256 * 0), show z + 256 * 0 = z by omega]
      omega
    · rw [show k + (m + 1) = (k + m) + 1 by omega, e0]
      rw [estuaryref01_Text.l1]
      rw [if_pos (by omega), if_pos (by omega), if_pos (by simp [hl]; omega)]
      rw [er, ew1, et, ej]
      simp only [Option.bind_some]
      rw [ew2, es]
      have er2 : rd (pre' ++ z :: post) ((m + 1 : Nat) - 1 : Int) = z := by
        have := rd_mid pre' post z
        rw [hl] at this
        rw [show ((m + 1 : Nat) : Int) - 1 = (m : Int) by omega]
        exact this
      rw [er2, hV]
      have hm10 : (10 * (z * 256 ^ m) + (r * 256 ^ m + val pre')) % 10 = (r * 256 ^ m + val pre') % 10 := by omega
      have hq0 := val_nonneg q g2
      have hp : (0 : Int) < 256 ^ m := Int.pow_pos (by decide)
      have hmore : (more || decide (0 < val (q ++ [z]))) = ((more || decide (0 < z)) || decide (0 < val q)) := by
        have hv : val (q ++ [z]) = val q + 256 ^ m * z := by
          rw [val_append, g1]
          simp [val]
        rw [hv, Bool.eq_iff_iff]
        simp only [Bool.or_eq_true, decide_eq_true_iff]
        have hz0 : 0 ≤ z := by omega
        constructor
        · rintro (h | h)
          · exact Or.inl (Or.inl h)
          · by_cases h0 : 0 < z
            · exact Or.inl (Or.inr h0)
            · have : z = 0 := by omega
              subst this
              exact Or.inr (by omega)
        · rintro ((h | h) | h)
          · exact Or.inl h
          · have : 0 < 256 ^ m * z := Int.mul_pos hp h
            exact Or.inr (by omega)
          · have : 0 ≤ 256 ^ m * z := Int.mul_nonneg (by omega) hz0
            exact Or.inr (by omega)
      rw [hm10, hmore, show q ++ [z] ++ post = q ++ z :: post by simp]
      rw [← g4]
      cases more <;> simp
theorem dig_byte (x : Int) (h : 0 ≤ x ∧ x < 10) : (wrap64 (48 + x)) % 256 = 48 + x := by
  rw [wrap_id (by omega) (by omega)]
  omega
theorem text_out (sg : ByteArray) (hsg : sg.size ≤ 1) : ∀ (f k : Nat) (acc l : List Int) (N : Nat), l.length = 16 → Byt l → val l = (N : Int) → N < 10 ^ (f + 1) → acc.length + f ≤ 40 →
    estuaryref01_Text.l0 (k + 20 * (f + 1)) (strOfNums acc) l sg = some (sg ++ strOfNums (digs f (N / 10) ((48 + ((N % 10 : Nat) : Int)) :: acc)))
  | f, k, acc, l, N, h1, h2, h3, h4, h5 => by
    obtain ⟨q, g1, g2, g3, g4⟩ := text_l1 (strOfNums acc) sg 16 (k + 20 * f + 3) l [] 0 false h1 h2 (fun b hb => by simp at hb) (by omega) (by simp)
    simp only [List.append_nil] at g4
    rw [show (0 : Int) * 256 ^ 16 + val l = (N : Int) by omega] at g3 g4
    have e1 : (N : Int) % 10 = ((N % 10 : Nat) : Int) := by omega
    have e2 : (N : Int) / 10 = ((N / 10 : Nat) : Int) := by omega
    rw [e1] at g4
    rw [e2] at g3
    rw [show k + 20 * (f + 1) = (k + 20 * f + 3 + 16) + 1 by omega]
    rw [estuaryref01_Text.l0]
    rw [show (15 : Int) = ((16 : Nat) : Int) - 1 by decide, g4, Bool.false_or]
    rw [show k + 20 * f + 3 = (k + 20 * f + 2) + 1 by omega]
    rw [estuaryref01_Text.l1]
    rw [if_neg (by omega)]
    simp only [Option.bind_some]
    have ed : (wrap64 (48 + ((N % 10 : Nat) : Int))) % 256 = 48 + ((N % 10 : Nat) : Int) := dig_byte _ (by omega)
    rw [ed, son_cons, strOfNums_size, strOfNums_size, strOfNums_size]
    rw [if_pos (by simp; omega)]
    cases f with
    | zero =>
      have h0 : N / 10 = 0 := by simp at h4; omega
      rw [h0] at g3
      rw [g3, if_neg (by simp), if_pos (by simp; omega), h0]
      rfl
    | succ f =>
      by_cases h0 : N / 10 = 0
      · rw [h0] at g3
        rw [g3, if_neg (by simp), if_pos (by simp; omega), h0]
        rfl
      · rw [if_pos (by rw [g3]; simp; omega)]
        have ih := text_out sg hsg f (k + 22 - 20) ((48 + ((N % 10 : Nat) : Int)) :: acc) q (N / 10) g1 g2 g3 (by rw [Nat.pow_succ] at h4; omega) (by simp; omega)
        rw [show k + 20 * (f + 1) + 2 = k + 22 - 20 + 20 * (f + 1) by omega, ih]
        congr 3
        show _ = (if N / 10 = 0 then _ else _)
        rw [if_neg h0]
theorem top_byte (l : List Int) (hl : l.length = 16) (hb : Byt l) : 128 ≤ rd l 15 ↔ 170141183460469231731687303715884105728 ≤ val l := by
  match l, hl with
  | [a0, a1, a2, a3, a4, a5, a6, a7, b0, b1, b2, b3, b4, b5, b6, b7], hl =>
    have h0 := hb a0 (by simp)
    have h1 := hb a1 (by simp)
    have h2 := hb a2 (by simp)
    have h3 := hb a3 (by simp)
    have h4 := hb a4 (by simp)
    have h5 := hb a5 (by simp)
    have h6 := hb a6 (by simp)
    have h7 := hb a7 (by simp)
    have g0 := hb b0 (by simp)
    have g1 := hb b1 (by simp)
    have g2 := hb b2 (by simp)
    have g3 := hb b3 (by simp)
    have g4 := hb b4 (by simp)
    have g5 := hb b5 (by simp)
    have g6 := hb b6 (by simp)
    have g7 := hb b7 (by simp)
    clear hb
    have e : rd [a0, a1, a2, a3, a4, a5, a6, a7, b0, b1, b2, b3, b4, b5, b6, b7] 15 = b7 := rfl
    rw [e]
    simp only [val]
    constructor <;> intro h <;> omega
theorem top_sign (ah al : Int) (hah : -9223372036854775808 ≤ ah ∧ ah ≤ 9223372036854775807) (hal : 0 ≤ al ∧ al < 18446744073709551616) (h : ah < 0) : 170141183460469231731687303715884105728 ≤ al + 18446744073709551616 * (ah % 18446744073709551616) := by omega
theorem top_sign2 (ah al : Int) (hah : -9223372036854775808 ≤ ah ∧ ah ≤ 9223372036854775807) (hal : 0 ≤ al ∧ al < 18446744073709551616) (h : ¬ ah < 0) : ¬ 170141183460469231731687303715884105728 ≤ al + 18446744073709551616 * (ah % 18446744073709551616) ∧ al + 18446744073709551616 * (ah % 18446744073709551616) = ah * 18446744073709551616 + al := by omega
theorem neg_val (n : Int) (h : n < 0) (h2 : -170141183460469231731687303715884105728 ≤ n) : val (wb (nh (Wh n) (Wl n)) (nl (Wl n))) = -n := by
  rw [wb_val _ _ (nl_range _), nh_W, nl_W, W_num]
  omega
theorem neg_val2 (ah al : Int) (hah : -9223372036854775808 ≤ ah ∧ ah ≤ 9223372036854775807) (hal : 0 ≤ al ∧ al < 18446744073709551616) (h : ah < 0) : val (wb (nh ah al) (nl al)) = ((-(ah * 18446744073709551616 + al)).toNat : Int) := by
  have hn := neg_val (ah * 18446744073709551616 + al) (by omega) (by omega)
  rw [(W_back ah al hah hal).1, (W_back ah al hah hal).2] at hn
  rw [hn]
  omega
theorem toNat_le (ah al : Int) (hah : -9223372036854775808 ≤ ah ∧ ah ≤ 9223372036854775807) (hal : 0 ≤ al ∧ al < 18446744073709551616) : (-(ah * 18446744073709551616 + al)).toNat ≤ 340282366920938463463374607431768211456 := by omega
theorem toNat_le2 (ah al : Int) (hah : -9223372036854775808 ≤ ah ∧ ah ≤ 9223372036854775807) (hal : 0 ≤ al ∧ al < 18446744073709551616) : (ah * 18446744073709551616 + al).toNat ≤ 340282366920938463463374607431768211456 := by omega
theorem pos_val2 (v ah al : Int) (hah : -9223372036854775808 ≤ ah ∧ ah ≤ 9223372036854775807) (hal : 0 ≤ al ∧ al < 18446744073709551616) (h : ¬ ah < 0) (hv : v = ah * 18446744073709551616 + al) : v = ((ah * 18446744073709551616 + al).toNat : Int) := by omega
theorem text_fin (K : Nat) (hK : 900 ≤ K) (sg : ByteArray) (hsg : sg.size ≤ 1) (N : Nat) (l : List Int) (h1 : l.length = 16) (h2 : Byt l) (h3 : val l = (N : Int)) (h4 : N ≤ 340282366920938463463374607431768211456) : estuaryref01_Text.j0 K ⟨#[]⟩ l sg = some (sg ++ strOfNums (digits N)) := by
  have hlt : N < 10 ^ (39 + 1) := Nat.lt_of_le_of_lt h4 (by decide)
  obtain ⟨k, rfl⟩ : ∃ k, K = (k + 20 * (39 + 1)) + 1 := ⟨K - 801, by omega⟩
  have := text_out sg hsg 39 k [] l N h1 h2 h3 hlt (by simp)
  rw [estuaryref01_Text.j0]
  exact this
theorem bytes_g (K : Nat) (hK : 18 ≤ K) (ah al : Int) (h : 0 ≤ al ∧ al < 18446744073709551616) : estuaryref01_Bytes.f K ah al = some (wb ah al) := by
  obtain ⟨k, rfl⟩ : ∃ k, K = k + 18 := ⟨K - 18, by omega⟩
  exact bytes_f k ah al h
theorem neg_g (K : Nat) (hK : 50 ≤ K) (ah al : Int) (hah : -9223372036854775808 ≤ ah ∧ ah ≤ 9223372036854775807) (hal : 0 ≤ al ∧ al < 18446744073709551616) : estuaryref01_Neg.f K ah al = some (nh ah al, nl al) := by
  obtain ⟨k, rfl⟩ : ∃ k, K = k + 50 := ⟨K - 50, by omega⟩
  exact neg_f k ah al hah hal
theorem times_g (K : Nat) (hK : 30 ≤ K) (n c : Int) (hc : 0 ≤ c ∧ c ≤ 10) : estuaryref01_times.f K (Wh n) (Wl n) 10 c = some (Wh (10 * n + c), Wl (10 * n + c)) := by
  obtain ⟨k, rfl⟩ : ∃ k, K = k + 30 := ⟨K - 30, by omega⟩
  exact times_W k n c hc
theorem text_g (K : Nat) (hK : 900 ≤ K) (ah al : Int) (hah : -9223372036854775808 ≤ ah ∧ ah ≤ 9223372036854775807) (hal : 0 ≤ al ∧ al < 18446744073709551616) : estuaryref01_Text.f K ah al = some (wtext ah al) := by
  unfold estuaryref01_Text.f
  rw [bytes_g K (by omega) ah al hal]
  simp only [Option.bind_some]
  rw [if_pos (by rw [wb_len]; decide)]
  have ht := top_byte _ (wb_len ah al) (wb_byt ah al)
  rw [wb_val ah al hal, u64_wrap] at ht
  unfold wtext
  by_cases h0 : ah < 0
  · rw [if_pos (ht.2 (top_sign ah al hah hal h0)), if_pos h0, if_pos h0]
    rw [neg_g K (by omega) ah al hah hal]
    simp only [Option.bind_some]
    rw [bytes_g K (by omega) _ _ (nl_range al)]
    simp only [Option.bind_some]
    exact text_fin K hK _ (by decide) _ _ (wb_len _ _) (wb_byt _ _) (neg_val2 ah al hah hal h0) (toNat_le ah al hah hal)
  · have ht2 := top_sign2 ah al hah hal h0
    rw [if_neg (fun h => ht2.1 (ht.1 h)), if_neg h0, if_neg h0]
    have hv := wb_val ah al hal
    rw [u64_wrap, ht2.2] at hv
    exact text_fin K hK _ (by decide) _ _ (wb_len _ _) (wb_byt _ _) (pos_val2 _ ah al hah hal h0 hv) (toNat_le2 ah al hah hal)
end Go.Proofs.Ythhepaikogcddaa.PFloorGroup
