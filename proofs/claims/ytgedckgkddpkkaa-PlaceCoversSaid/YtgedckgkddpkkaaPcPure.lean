/- The cells of an operation, and when all of them are ahead of places: plain laws. -/
import Derived.Test.YtgedckgkddpkkaaPcLess
namespace Go.Proofs.Ytgedckgkddpkkaa.PPlaceCells
open Go.RowKit Go.Proofs.YtgedckgkddpkkaaW.PrintWords Go.Proofs.YtgedckgkddpkkaaW.PrintLast Go.Proofs.YtgedckgkddpkkaaW.PrintMore
set_option linter.unusedVariables false
set_option linter.unusedSimpArgs false
theorem alive_true : estuarylaw03_alive.f 3 = some true := by decide +kernel
theorem wrap_id {x : Int} (h1 : -9223372036854775808 ≤ x) (h2 : x ≤ 9223372036854775807) : wrap64 x = x := by unfold wrap64; omega
theorem ediv_range (t r : Int) (hr : 1 ≤ r) (h1 : -9223372036854775808 ≤ t) (h2 : t ≤ 9223372036854775807) : -9223372036854775808 ≤ t / r ∧ t / r ≤ 9223372036854775807 :=
  ⟨Int.le_ediv_of_mul_le (by omega) (by omega), Int.ediv_le_of_le_mul (by omega) (by omega)⟩
theorem floor_div (t r : Int) (hr : 1 ≤ r) (h1 : -9223372036854775808 ≤ t) (h2 : t ≤ 9223372036854775807) : floor_Div.f t r = some (t / r) := by
  have hq := ediv_range t r hr h1 h2
  have hm := Int.emod_lt_of_pos t (by omega : 0 < r)
  have hm0 := Int.emod_nonneg t (by omega : r ≠ 0)
  have e1 := @Int.tdiv_eq_ediv t r
  have e2 := @Int.tmod_eq_emod t r
  have hs : r.sign = 1 := Int.sign_eq_one_of_pos (by omega)
  unfold floor_Div.f
  rw [if_neg (by omega), if_neg (by omega)]
  by_cases hc : 0 ≤ t ∨ r ∣ t
  · rw [if_pos hc] at e1 e2
    rw [if_neg (by omega), e1, Int.add_zero, wrap_id hq.1 hq.2]
  · rw [if_neg hc] at e1 e2
    have h0 : t < 0 := by omega
    have h3 : t / r < 0 := Int.ediv_neg_of_neg_of_pos h0 (by omega)
    rw [if_pos (by omega), e1, hs, wrap_id (x := t / r + 1) (by omega) (by omega), wrap_id (by omega) (by omega)]
    congr 1
    omega
theorem ref_div (t r : Int) (hr : 1 ≤ r) (h1 : -9223372036854775808 ≤ t) (h2 : t ≤ 9223372036854775807) : estuaryref01_Div.f t r = some (t / r) := by
  have hq := ediv_range t r hr h1 h2
  unfold estuaryref01_Div.f
  rw [if_neg (by omega)]
  by_cases h0 : t ≥ 0
  · rw [if_pos h0, if_neg (by omega), Int.tdiv_eq_ediv_of_nonneg h0, wrap_id hq.1 hq.2]
  · rw [if_neg h0, if_neg (by omega)]
    rw [wrap_id (x := t + 1) (by omega) (by omega), wrap_id (x := -(t + 1)) (by omega) (by omega), wrap_id (x := -(-(t + 1))) (by omega) (by omega), Int.neg_neg]
    have h3 : Int.tdiv (t + 1) r = t / r + 1 := by
      have e1 : Int.tdiv (t + 1) r = -(Int.tdiv (-(t + 1)) r) := by rw [Int.neg_tdiv, Int.neg_neg]
      rw [e1, Int.tdiv_eq_ediv_of_nonneg (by omega)]
      have hm := Int.emod_lt_of_pos t (by omega : 0 < r)
      have hm0 := Int.emod_nonneg t (by omega : r ≠ 0)
      have hd := Int.mul_ediv_add_emod t r
      have : (-(t + 1)) / r = -(t / r) - 1 := by
        refine (Int.ediv_emod_unique (r := r - 1 - t % r) (by omega : 0 < r)).2 ⟨?_, by omega, by omega⟩ |>.1
        rw [Int.mul_sub, Int.mul_neg]
        omega
      rw [this]
      omega
    have h4 : t / r < 0 := Int.ediv_neg_of_neg_of_pos (by omega) (by omega)
    rw [h3, wrap_id (x := t / r + 1) (by omega) (by omega), wrap_id (by omega) (by omega)]
    congr 1
    omega
def sgn (a b : Int) : Int := if a < b then -1 else if a > b then 1 else 0
theorem compare_sgn (a b : Int) : cmp_Compare_int.f a b = some (sgn a b) := by
  unfold cmp_Compare_int.f cmp_isNaN_int.f sgn
  simp only [bne_self_eq_false, Option.bind_some, Bool.false_eq_true, if_false]
  split
  · rfl
  · split <;> rfl
theorem or_two (a b : Int) : cmp_Or_int.f 3 [a, b] = some (if a = 0 then b else a) := by
  have w0 : wrap64 1 = 1 := by decide +kernel
  have w1 : wrap64 2 = 2 := by decide +kernel
  have r0 : rd [a, b] 0 = a := rfl
  have r1 : rd [a, b] 1 = b := rfl
  unfold cmp_Or_int.f
  by_cases h : a = 0
  · by_cases h2 : b = 0
    · subst h h2
      simp [cmp_Or_int.l0, w0, w1, r0, r1]
    · subst h
      simp [cmp_Or_int.l0, w0, w1, r0, r1, h2]
  · simp [cmp_Or_int.l0, w0, w1, r0, r1, h]
def lexLt (a0 a1 b0 b1 : Int) : Bool := decide (a0 < b0 ∨ a0 = b0 ∧ a1 < b1)
theorem less_lex (a0 a1 b0 b1 : Int) : place_Less.f 3 a0 a1 b0 b1 = some (lexLt a0 a1 b0 b1) := by
  unfold place_Less.f
  rw [compare_sgn, compare_sgn]
  simp only [Option.bind_some]
  rw [or_two]
  simp only [Option.bind_some, lexLt]
  congr 1
  rw [Bool.eq_iff_iff]
  simp only [decide_eq_true_eq]
  unfold sgn
  split <;> split <;> (try split) <;> (try split) <;> omega

theorem ref_mod (t r : Int) (hr : 1 ≤ r) (hr2 : r ≤ 9223372036854775807) (h1 : -9223372036854775808 ≤ t) (h2 : t ≤ 9223372036854775807) : estuaryref01_Mod.f t r = some (t % r) := by
  have hm := Int.emod_lt_of_pos t (by omega : 0 < r)
  have hm0 := Int.emod_nonneg t (by omega : r ≠ 0)
  unfold estuaryref01_Mod.f
  rw [if_neg (by omega)]
  by_cases h0 : t ≥ 0
  · rw [if_pos h0, if_neg (by omega), Int.tmod_eq_emod_of_nonneg h0]
  · rw [if_neg h0, if_neg (by omega), wrap_id (x := t + 1) (by omega) (by omega), wrap_id (x := -(t + 1)) (by omega) (by omega), Int.tmod_eq_emod_of_nonneg (by omega)]
    have hd := Int.mul_ediv_add_emod t r
    have h3 : (-(t + 1)) % r = r - 1 - t % r := by
      refine (Int.ediv_emod_unique (q := -(t / r) - 1) (by omega : 0 < r)).2 ⟨?_, by omega, by omega⟩ |>.2
      rw [Int.mul_sub, Int.mul_neg]
      omega
    rw [h3, wrap_id (x := r - 1) (by omega) (by omega), wrap_id (by omega) (by omega)]
    congr 1
    omega
theorem and_ones (r : Int) (h1 : -9223372036854775808 ≤ r) (h2 : r ≤ 9223372036854775807) : Go.bits .and .i64 r (-1) = r := by
  show IntKind.i64.wrap ((BitVec.ofInt 64 r &&& BitVec.ofInt 64 (-1)).toNat : Int) = r
  have h3 : BitVec.ofInt 64 (-1) = BitVec.allOnes 64 := by decide
  rw [h3, BitVec.and_allOnes, BitVec.toNat_ofInt]
  simp [IntKind.wrap, IntKind.bits, IntKind.signed]
  omega
theorem and_zero (r : Int) : Go.bits .and .i64 r 0 = 0 := by
  show IntKind.i64.wrap ((BitVec.ofInt 64 r &&& BitVec.ofInt 64 0).toNat : Int) = 0
  have h3 : BitVec.ofInt 64 0 = 0#64 := by decide
  rw [h3, BitVec.and_zero]
  rfl
def divZ (t r : Int) : Int := if r < 1 then 0 else t / r
def modZ (t r : Int) : Int := if r < 1 then 0 else t % r
theorem fdiv_Z (t r : Int) (h1 : -9223372036854775808 ≤ t) (h2 : t ≤ 9223372036854775807) : floor_Div.f t r = some (divZ t r) := by
  unfold divZ
  by_cases hr : r < 1
  · rw [if_pos hr]; unfold floor_Div.f; rw [if_pos hr]
  · rw [if_neg hr]; exact floor_div t r (by omega) h1 h2
theorem rdiv_Z (t r : Int) (h1 : -9223372036854775808 ≤ t) (h2 : t ≤ 9223372036854775807) : estuaryref01_Div.f t r = some (divZ t r) := by
  unfold divZ
  by_cases hr : r < 1
  · rw [if_pos hr]; unfold estuaryref01_Div.f; rw [if_pos hr]
  · rw [if_neg hr]; exact ref_div t r (by omega) h1 h2
theorem rmod_Z (t r : Int) (hr2 : r ≤ 9223372036854775807) (h1 : -9223372036854775808 ≤ t) (h2 : t ≤ 9223372036854775807) : estuaryref01_Mod.f t r = some (modZ t r) := by
  unfold modZ
  by_cases hr : r < 1
  · rw [if_pos hr]; unfold estuaryref01_Mod.f; rw [if_pos hr]
  · rw [if_neg hr]; exact ref_mod t r (by omega) hr2 h1 h2
theorem shard_Z (t r : Int) (hr2 : r ≤ 9223372036854775807) : place_Shard.f t r = some (modZ t r) := by
  unfold modZ place_Shard.f
  by_cases hr : r < 1
  · unfold floor_Mod.f
    rw [if_pos hr, if_pos hr]
    rfl
  · have hm := Int.emod_lt_of_pos t (by omega : 0 < r)
    have hm0 := Int.emod_nonneg t (by omega : r ≠ 0)
    have hs : r.sign = 1 := Int.sign_eq_one_of_pos (by omega)
    have e2 := @Int.tmod_eq_emod t r
    unfold floor_Mod.f
    rw [if_neg hr, if_neg hr, if_neg (by omega)]
    have key : wrap64 (t.tmod r + Go.bits .and .i64 r (t.tmod r / 9223372036854775808)) = t % r := by
      by_cases hc : 0 ≤ t ∨ r ∣ t
      · rw [if_pos hc] at e2
        rw [show t.tmod r / 9223372036854775808 = 0 by omega, and_zero, wrap_id (by omega) (by omega)]
        omega
      · rw [if_neg hc] at e2
        have hne : t % r ≠ 0 := fun h => hc (.inr (Int.dvd_of_emod_eq_zero h))
        have ha : (r.natAbs : Int) = r := by omega
        rw [show t.tmod r / 9223372036854775808 = -1 by omega, and_ones r (by omega) hr2, wrap_id (by omega) (by omega)]
        omega
    rw [key]
    rfl
/-- The cell of an operation at one resolution. -/
def idAt (t key sh : Int) (i : Nat) (r : Int) : S31 := ⟨wrap64 (wrap64 ((i : Int) * sh) + modZ key sh), ⟨divZ t r, key⟩⟩
def idsFrom (t key sh : Int) : Nat → List Int → List S31
  | _, [] => []
  | i, r :: rs => idAt t key sh i r :: idsFrom t key sh (i + 1) rs
theorem idsFrom_len (t key sh : Int) : ∀ (rs : List Int) (i : Nat), (idsFrom t key sh i rs).length = rs.length
  | [], _ => rfl
  | r :: rs, i => by rw [idsFrom, List.length_cons, List.length_cons, idsFrom_len]
theorem rd_nat (xs : List Int) (i : Nat) : rd xs (i : Int) = xs.getD i 0 := by unfold rd; rw [Int.toNat_natCast]
theorem ids_l (rs : List Int) (a0 a1 t key a4 sh : Int) (hrs : rs.length ≤ 10000) (hs : sh ≤ 9223372036854775807) (h1 : -9223372036854775808 ≤ t) (h2 : t ≤ 9223372036854775807) : ∀ (n i K : Nat) (out : List S31), i + n = rs.length → n < K → out.length = i →
    place_Ids.l0 K sh out rs (rs.length : Int) (i : Int) a0 a1 t key a4 = some (out ++ idsFrom t key sh i (rs.drop i))
  | 0, i, K + 1, out, hin, hK, ho => by
    unfold place_Ids.l0
    rw [if_neg (by omega), List.drop_eq_nil_of_le (by omega)]
    simp [idsFrom]
  | n + 1, i, K + 1, out, hin, hK, ho => by
    unfold place_Ids.l0
    rw [if_pos (by omega), if_pos (by omega), if_pos (by omega), shard_Z key sh hs, Option.bind_some, place_Lane.f, Option.bind_some, fdiv_Z t _ h1 h2, Option.bind_some, if_pos (by omega), wrap_id (x := (i : Int) + 1) (by omega) (by omega)]
    have h := ids_l rs a0 a1 t key a4 sh hrs hs h1 h2 n (i + 1) K (out ++ [idAt t key sh i (rd rs (i : Int))]) (by omega) (by omega) (by simp [ho])
    rw [List.drop_eq_getElem_cons (show i < rs.length by omega), idsFrom]
    rw [show ((i + 1 : Nat) : Int) = (i : Int) + 1 by omega, List.append_assoc] at h
    rw [rd_nat, List.getD_eq_getElem?_getD, List.getElem?_eq_getElem (show i < rs.length by omega)] at h ⊢
    exact h
theorem refids_l (rs : List Int) (a0 a1 t key a4 sh : Int) (hrs : rs.length ≤ 10000) (hs : sh ≤ 9223372036854775807) (h1 : -9223372036854775808 ≤ t) (h2 : t ≤ 9223372036854775807) (h3 : -9223372036854775808 ≤ key) (h4 : key ≤ 9223372036854775807) : ∀ (n i K : Nat) (out : List S31), i + n = rs.length → n < K → out.length = i →
    estuaryref03_Ids.l0 K rs sh out (i : Int) a0 a1 t key a4 = some (out ++ idsFrom t key sh i (rs.drop i))
  | 0, i, K + 1, out, hin, hK, ho => by
    unfold estuaryref03_Ids.l0
    rw [if_neg (by omega), List.drop_eq_nil_of_le (by omega)]
    simp [idsFrom]
  | n + 1, i, K + 1, out, hin, hK, ho => by
    unfold estuaryref03_Ids.l0
    rw [if_pos (by omega), rmod_Z key sh hs h3 h4, Option.bind_some, if_pos (by omega), rdiv_Z t _ h1 h2, Option.bind_some, if_pos (by omega), wrap_id (x := (i : Int) + 1) (by omega) (by omega)]
    have h := refids_l rs a0 a1 t key a4 sh hrs hs h1 h2 h3 h4 n (i + 1) K (out ++ [idAt t key sh i (rd rs (i : Int))]) (by omega) (by omega) (by simp [ho])
    rw [List.drop_eq_getElem_cons (show i < rs.length by omega), idsFrom]
    rw [show ((i + 1 : Nat) : Int) = (i : Int) + 1 by omega, List.append_assoc] at h
    rw [rd_nat, List.getD_eq_getElem?_getD, List.getElem?_eq_getElem (show i < rs.length by omega)] at h ⊢
    exact h
theorem ids_f (rs : List Int) (a0 a1 t key a4 sh : Int) (hrs : rs.length ≤ 10000) (hs : sh ≤ 9223372036854775807) (h1 : -9223372036854775808 ≤ t) (h2 : t ≤ 9223372036854775807) (K : Nat) (hK : rs.length < K) : place_Ids.f K a0 a1 t key a4 rs sh = some (idsFrom t key sh 0 rs) := by
  have h := ids_l rs a0 a1 t key a4 sh hrs hs h1 h2 rs.length 0 K [] (by omega) hK rfl
  simpa [place_Ids.f] using h
theorem refids_f (rs : List Int) (a0 a1 t key a4 sh : Int) (hrs : rs.length ≤ 10000) (hs : sh ≤ 9223372036854775807) (h1 : -9223372036854775808 ≤ t) (h2 : t ≤ 9223372036854775807) (h3 : -9223372036854775808 ≤ key) (h4 : key ≤ 9223372036854775807) (K : Nat) (hK : rs.length < K) : estuaryref03_Ids.f K a0 a1 t key a4 rs sh = some (idsFrom t key sh 0 rs) := by
  have h := refids_l rs a0 a1 t key a4 sh hrs hs h1 h2 h3 h4 rs.length 0 K [] (by omega) hK rfl
  simpa [estuaryref03_Ids.f] using h
theorem same_l (l : List S31) (hl : l.length ≤ 10000) : ∀ (n i K : Nat), i + n = l.length → n < K → estuarylaw03_same.l0 K l l (l.length : Int) (i : Int) = some true
  | 0, i, K + 1, hin, hK => by
    unfold estuarylaw03_same.l0
    rw [if_neg (by omega)]
  | n + 1, i, K + 1, hin, hK => by
    unfold estuarylaw03_same.l0
    have h := same_l l hl n (i + 1) K (by omega) (by omega)
    rw [show ((i + 1 : Nat) : Int) = (i : Int) + 1 by omega] at h
    rw [if_pos (by omega), if_pos (by omega), if_pos (by omega), if_pos (by omega), if_neg (by simp), wrap_id (by omega) (by omega)]
    exact h
theorem same_f (l : List S31) (hl : l.length ≤ 10000) (K : Nat) (hK : l.length < K) : estuarylaw03_same.f K l l = some true := by
  unfold estuarylaw03_same.f
  rw [if_pos rfl]
  exact same_l l hl l.length 0 K (by omega) hK
theorem ints_l (l : List Int) (hl : l.length ≤ 10000) : ∀ (n i K : Nat), i + n = l.length → n < K → estuarynum_Ints.l0 K l l (l.length : Int) (i : Int) = some true
  | 0, i, K + 1, hin, hK => by
    unfold estuarynum_Ints.l0
    rw [if_neg (by omega)]
  | n + 1, i, K + 1, hin, hK => by
    unfold estuarynum_Ints.l0
    have h := ints_l l hl n (i + 1) K (by omega) (by omega)
    rw [show ((i + 1 : Nat) : Int) = (i : Int) + 1 by omega] at h
    rw [if_pos (by omega), if_pos (by omega), if_pos (by omega), if_pos (by omega), if_pos rfl, wrap_id (by omega) (by omega)]
    exact h
theorem ints_f (l : List Int) (hl : l.length ≤ 10000) (K : Nat) (hK : l.length < K) : estuarynum_Ints.f K l l = some true := by
  unfold estuarynum_Ints.f
  rw [if_pos rfl]
  exact ints_l l hl l.length 0 K (by omega) hK
/-- Is a cell ahead of its lane's place? -/
def okId (ps : List S29) (x : S31) : Bool := decide (0 ≤ x.f0) && decide (x.f0 < (ps.length : Int)) && lexLt x.f1.f0 x.f1.f1 (ps.getD x.f0.toNat z29).f0 (ps.getD x.f0.toNat z29).f1
def coversP (ps : List S29) (ids : List S31) : Bool := decide (0 < ids.length) && ids.all (okId ps)
theorem refless_lex (a0 a1 b0 b1 : Int) : estuaryref03_Less.f a0 a1 b0 b1 = some (lexLt a0 a1 b0 b1) := by
  unfold estuaryref03_Less.f lexLt
  by_cases h : a0 = b0
  · rw [if_pos h]
    simp [h]
  · rw [if_neg h]
    simp [h]
theorem rcov_l (ps : List S29) (ids : List S31) (hps : ps.length ≤ 10000) (hl : ids.length ≤ 10000) : ∀ (n i c K : Nat), i + n = ids.length → c ≤ i → n < K → estuaryref03_Covered.l0 K ps ids (c : Int) (i : Int) = some (decide (c + (ids.drop i).countP (okId ps) = ids.length ∧ 0 < c + (ids.drop i).countP (okId ps)))
  | 0, i, c, K + 1, hin, hc, hK => by
    unfold estuaryref03_Covered.l0
    rw [if_neg (by omega), List.drop_eq_nil_of_le (by omega)]
    have hz : List.countP (okId ps) [] = 0 := rfl
    by_cases h : (c : Int) = (ids.length : Int)
    · rw [if_pos h]
      congr 1
      rw [Bool.eq_iff_iff, decide_eq_true_iff, decide_eq_true_iff, hz]
      omega
    · rw [if_neg h]
      congr 1
      rw [Bool.eq_iff_iff, decide_eq_true_iff, hz]
      constructor
      · intro h2
        cases h2
      · intro h2
        omega
  | n + 1, i, c, K + 1, hin, hc, hK => by
    unfold estuaryref03_Covered.l0
    have hi : i < ids.length := by omega
    have e1 : rd_T31 ids (i : Int) = ids[i] := by unfold rd_T31; rw [Int.toNat_natCast, List.getD_eq_getElem?_getD, List.getElem?_eq_getElem hi]; rfl
    have hno := rcov_l ps ids hps hl n (i + 1) c K (by omega) (by omega) (by omega)
    have hyes := rcov_l ps ids hps hl n (i + 1) (c + 1) K (by omega) (by omega) (by omega)
    rw [show ((i + 1 : Nat) : Int) = (i : Int) + 1 by omega] at hno hyes
    rw [show ((c + 1 : Nat) : Int) = (c : Int) + 1 by omega] at hyes
    rw [if_pos (by omega), if_pos (by omega), e1, wrap_id (x := (i : Int) + 1) (by omega) (by omega), wrap_id (x := (c : Int) + 1) (by omega) (by omega)]
    rw [List.drop_eq_getElem_cons hi, List.countP_cons]
    have off : okId ps ids[i] = false → some (decide (c + ((ids.drop (i + 1)).countP (okId ps) + if okId ps ids[i] = true then 1 else 0) = ids.length ∧ 0 < c + ((ids.drop (i + 1)).countP (okId ps) + if okId ps ids[i] = true then 1 else 0))) = some (decide (c + (ids.drop (i + 1)).countP (okId ps) = ids.length ∧ 0 < c + (ids.drop (i + 1)).countP (okId ps))) := fun h => by rw [h]; simp
    by_cases h0 : ids[i].f0 ≥ 0
    · rw [if_pos h0]
      by_cases h1 : ids[i].f0 < (ps.length : Int)
      · rw [if_pos h1, if_pos h0, refless_lex, Option.bind_some]
        have e2 : okId ps ids[i] = lexLt ids[i].f1.f0 ids[i].f1.f1 (rd_T29 ps ids[i].f0).f0 (rd_T29 ps ids[i].f0).f1 := by
          unfold okId rd_T29
          rw [decide_eq_true (show 0 ≤ ids[i].f0 from h0), decide_eq_true h1]
          rfl
        rw [← e2]
        by_cases h2 : okId ps ids[i] = true
        · rw [if_pos h2, hyes, h2]
          congr 1
          rw [decide_eq_decide]
          simp only [if_true]
          omega
        · rw [if_neg h2, hno, off (by simpa using h2)]
      · rw [if_neg h1, hno, off (by unfold okId; rw [decide_eq_false h1]; simp)]
    · rw [if_neg h0, hno, off (by unfold okId; rw [decide_eq_false (show ¬ 0 ≤ ids[i].f0 by omega)]; simp)]
theorem rcov_f (rs : List Int) (ps : List S29) (a0 a1 t key a4 sh : Int) (hrs : rs.length ≤ 10000) (hps : ps.length ≤ 10000) (hs : sh ≤ 9223372036854775807) (h1 : -9223372036854775808 ≤ t) (h2 : t ≤ 9223372036854775807) (h3 : -9223372036854775808 ≤ key) (h4 : key ≤ 9223372036854775807) (K : Nat) (hK : rs.length < K) :
    estuaryref03_Covered.f K a0 a1 t key a4 rs sh ps = some (coversP ps (idsFrom t key sh 0 rs)) := by
  unfold estuaryref03_Covered.f
  rw [refids_f rs a0 a1 t key a4 sh hrs hs h1 h2 h3 h4 K hK, Option.bind_some]
  have hl := idsFrom_len t key sh rs 0
  have h := rcov_l ps (idsFrom t key sh 0 rs) hps (by omega) (idsFrom t key sh 0 rs).length 0 0 K (by omega) (by omega) (by omega)
  refine h.trans ?_
  congr 1
  unfold coversP
  rw [List.drop_zero, Nat.zero_add, Bool.eq_iff_iff]
  simp only [decide_eq_true_eq, Bool.and_eq_true, List.countP_eq_length, List.all_eq_true]
  have hle := List.countP_le_length (p := okId ps) (l := idsFrom t key sh 0 rs)
  constructor
  · rintro ⟨h5, h6⟩
    exact ⟨by omega, h5⟩
  · rintro ⟨h5, h6⟩
    have h7 := List.countP_eq_length.2 h6
    exact ⟨h6, by omega⟩
theorem any_not (ps : List S29) (ids : List S31) : ids.any (fun x => !okId ps x) = !ids.all (okId ps) := by
  rw [List.not_all_eq_any_not]
end Go.Proofs.Ytgedckgkddpkkaa.PPlaceCells
