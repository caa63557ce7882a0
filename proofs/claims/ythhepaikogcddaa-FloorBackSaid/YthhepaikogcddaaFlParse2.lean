/- Parsing: what the document computes, and that it comes back. -/
import Derived.Test.YthhepaikogcddaaFlParse
namespace Go.Proofs.Ythhepaikogcddaa.PFloorGroup
open Go.RowKit Go.Proofs.YthhepaikogcddaaW.PrintWords Go.Proofs.YthhepaikogcddaaW.PrintLast Go.Proofs.YthhepaikogcddaaW.PrintMore
open Go.Proofs.Ythhepaikogcddaa.Flow
set_option linter.unusedVariables false
set_option linter.unusedSimpArgs false
/-- The value of the first i bytes behind o, as digits. -/
def pv (s : ByteArray) (o : Nat) : Nat → Int
  | 0 => 0
  | i + 1 => 10 * pv s o i + (bt s ((o + i : Nat) : Int) - 48)
def isDig (s : ByteArray) (i : Nat) : Prop := 48 ≤ bt s (i : Int) ∧ bt s (i : Int) ≤ 57
def AllDig (s : ByteArray) (o n : Nat) : Prop := ∀ i, i < n → isDig s (o + i)
def minus (s : ByteArray) : Nat := if 0 < s.size ∧ bt s 0 = 45 then 1 else 0
def sgn (s : ByteArray) (v : Int) : Int := if minus s = 1 then -v else v
open Classical in
noncomputable def parsed (s : ByteArray) : Int × Bool :=
  if s.size - minus s ≤ 39 ∧ AllDig s (minus s) (s.size - minus s) ∧ wtext (Wh (sgn s (pv s (minus s) (s.size - minus s)))) (Wl (sgn s (pv s (minus s) (s.size - minus s)))) = s then (sgn s (pv s (minus s) (s.size - minus s)), true) else (0, false)
theorem minus_le (s : ByteArray) : minus s ≤ s.size := by unfold minus; split <;> omega
theorem Wh0 : Wh 0 = 0 := by decide +kernel
theorem Wl0 : Wl 0 = 0 := by decide +kernel
theorem bt_minus (x : ByteArray) : bt ((⟨#[45]⟩ : ByteArray) ++ x) 0 = 45 := by
  have hsz : (0 : Int).toNat < ((⟨#[45]⟩ : ByteArray) ++ x).size := by
    rw [ByteArray.size_append]
    have e : (⟨#[45]⟩ : ByteArray).size = 1 := rfl
    show 0 < _
    omega
  unfold bt
  rw [dif_pos hsz]
  have e : ((⟨#[45]⟩ : ByteArray) ++ x)[(0 : Int).toNat]'hsz = 45 := by
    show ((⟨#[45]⟩ : ByteArray) ++ x).data[0]'hsz = 45
    simp
  rw [e]
  rfl
theorem bt_son (pre : ByteArray) (l : List Int) (h : ∀ d ∈ l, 48 ≤ d ∧ d ≤ 57) (i : Nat) (hi : i < l.length) : bt (pre ++ strOfNums l) ((pre.size + i : Nat) : Int) = l.getD i 0 := by
  unfold bt
  have hsz : (((pre.size + i : Nat) : Int)).toNat < (pre ++ strOfNums l).size := by
    rw [ByteArray.size_append, strOfNums_size]
    omega
  rw [dif_pos hsz]
  have e : (pre ++ strOfNums l)[(((pre.size + i : Nat) : Int)).toNat]'hsz = UInt8.ofNat (l[i]).toNat := by
    show (pre ++ strOfNums l).data[(((pre.size + i : Nat) : Int)).toNat]'_ = _
    have e1 : (((pre.size + i : Nat) : Int)).toNat = pre.data.size + i := by
      show _ = pre.size + i
      omega
    simp only [e1, ByteArray.data_append, strOfNums]
    rw [Array.getElem_append_right (by omega)]
    simp
  rw [e]
  have h1 := h l[i] (List.getElem_mem hi)
  rw [List.getD_eq_getElem?_getD, List.getElem?_eq_getElem hi]
  simp
  omega
theorem wtext_len (ah al : Int) (hah : -9223372036854775808 ≤ ah ∧ ah ≤ 9223372036854775807) (hal : 0 ≤ al ∧ al < 18446744073709551616) : (wtext ah al).size ≤ (if ah < 0 then 40 else 39) ∧ (0 ≤ ah → ¬ bt (wtext ah al) 0 = 45) ∧ 0 < (wtext ah al).size := by
  unfold wtext
  by_cases h : ah < 0
  · rw [if_pos h, if_pos h, if_pos h]
    have := digits_len (-(ah * 18446744073709551616 + al)).toNat (by omega)
    rw [ByteArray.size_append, strOfNums_size]
    refine ⟨?_, fun h2 => by omega, ?_⟩
    · have e : (⟨#[45]⟩ : ByteArray).size = 1 := rfl
      omega
    · have e : (⟨#[45]⟩ : ByteArray).size = 1 := rfl
      omega
  · rw [if_neg h, if_neg h, if_neg h]
    generalize hN : (ah * 18446744073709551616 + al).toNat = N
    have := digits_len N (by omega)
    have hne := digits_ne N
    have hall := digits_all N
    rw [ByteArray.size_append, strOfNums_size]
    have e : (⟨#[]⟩ : ByteArray).size = 0 := rfl
    cases hd : digits N with
    | nil => exact absurd hd hne
    | cons d r =>
      rw [hd] at this hall
      refine ⟨by omega, fun _ => ?_, by simp; omega⟩
      have hd2 := hall d (by simp)
      have hb := bt_son ⟨#[]⟩ (d :: r) hall 0 (by simp)
      have hb2 : bt (⟨#[]⟩ ++ strOfNums (d :: r)) 0 = d := hb
      rw [hb2]
      omega
theorem parsed_long (s : ByteArray) (h : 40 < s.size) : parsed s = (0, false) := by
  unfold parsed
  rw [if_neg]
  rintro ⟨h1, _⟩
  have : minus s ≤ 1 := by unfold minus; split <;> omega
  omega
/- ---------------------------------------------------------------- the document's -/
def fin (s : ByteArray) (v : Int) : Option (Int × Int × Bool) := if (wtext (Wh v) (Wl v)).toList = s.toList then some (Wh v, Wl v, true) else some (0, 0, false)
theorem parse_end (K : Nat) (hK : 1000 ≤ K) (s : ByteArray) (hs : 0 < s.size) (v : Int) : estuaryref01_Parse.l0 K s (s.size : Int) (Wh v) (Wl v) = fin s (sgn s v) := by
  obtain ⟨k, rfl⟩ : ∃ k, K = k + 1 := ⟨K - 1, by omega⟩
  rw [estuaryref01_Parse.l0]
  rw [if_neg (by omega), if_pos (by omega)]
  by_cases h : bt s 0 = 45
  · have hm : minus s = 1 := by unfold minus; rw [if_pos ⟨hs, h⟩]
    rw [if_pos h, neg_g _ (by omega) _ _ (Wh_range v) (Wl_range v), nh_W, nl_W]
    simp only [Option.bind_some]
    rw [text_g _ (by omega) _ _ (Wh_range _) (Wl_range _)]
    simp only [Option.bind_some, fin, sgn, hm, if_true]
  · have hm : ¬ minus s = 1 := by unfold minus; rw [if_neg (fun h2 => h h2.2)]; decide
    rw [if_neg h, text_g _ (by omega) _ _ (Wh_range _) (Wl_range _)]
    simp only [Option.bind_some, fin, sgn, hm, if_false]
open Classical in
theorem parse_l0 (s : ByteArray) (hs : 0 < s.size) (hsz : s.size ≤ 100) (o : Nat) (ho : o = minus s) : ∀ (m K i j : Nat), 2 * m + 1000 ≤ K → i = o + j → o + j + m = s.size → (o = 0 ∨ 0 < i) →
    estuaryref01_Parse.l0 K s (i : Int) (Wh (pv s o j)) (Wl (pv s o j)) = if (∀ a, a < m → isDig s (o + (j + a))) then fin s (sgn s (pv s o (j + m))) else some (0, 0, false)
  | 0, K, i, j, hK, h1, h2, h3 => by
    rw [if_pos (fun a ha => by omega)]
    have e : (i : Int) = (s.size : Int) := by omega
    rw [e, parse_end K (by omega) s hs]
    rfl
  | m + 1, K, i, j, hK, h1, h2, h3 => by
    obtain ⟨k, rfl⟩ : ∃ k, K = k + 1 + 1 := ⟨K - 2, by omega⟩
    have hi : i < s.size := by omega
    have ej : wrap64 ((i : Int) + 1) = ((i + 1 : Nat) : Int) := by unfold wrap64; omega
    have eoj : ((i : Nat) : Int) = ((o + j : Nat) : Int) := by rw [h1]
    have hstep : estuaryref01_Parse.l0 (k + 1 + 1) s (i : Int) (Wh (pv s o j)) (Wl (pv s o j)) = estuaryref01_Parse.j2 (k + 1) s (i : Int) false (Wh (pv s o j)) (Wl (pv s o j)) := by
      rw [estuaryref01_Parse.l0]
      rw [if_pos (by omega)]
      by_cases hi0 : i = 0
      · subst hi0
        have ho0 : o = 0 := by omega
        have hb : ¬ bt s 0 = 45 := by
          intro hb
          have : minus s = 1 := by unfold minus; rw [if_pos ⟨hs, hb⟩]
          omega
        rw [if_pos (by simp), if_pos (by omega)]
        have : (bt s ((0 : Nat) : Int) == 45) = false := by
          simpa using hb
        rw [this]
      · rw [if_neg (by omega)]
    rw [hstep]
    rw [estuaryref01_Parse.j2]
    rw [if_neg (by decide), if_pos (by omega), if_pos (by omega)]
    have hr := bt_range s (i : Int)
    by_cases hlo : bt s (i : Int) < 48
    · rw [if_pos hlo, if_neg]
      intro hall
      have := (hall 0 (by omega)).1
      rw [show o + (j + 0) = i by omega] at this
      omega
    · rw [if_neg hlo]
      by_cases hhi : bt s (i : Int) > 57
      · rw [if_pos hhi, if_neg]
        intro hall
        have := (hall 0 (by omega)).2
        rw [show o + (j + 0) = i by omega] at this
        omega
      · rw [if_neg hhi]
        have ed : (bt s (i : Int) - 48) % 256 = bt s (i : Int) - 48 := by omega
        rw [ed, times_g _ (by omega) _ _ (by omega)]
        simp only [Option.bind_some]
        have ep : 10 * pv s o j + (bt s (i : Int) - 48) = pv s o (j + 1) := by
          rw [pv, ← eoj]
        rw [ep, ej]
        rw [parse_l0 s hs hsz o ho m k (i + 1) (j + 1) (by omega) (by omega) (by omega) (Or.inr (by omega))]
        rw [show j + 1 + m = j + (m + 1) by omega]
        by_cases hall : ∀ a, a < m → isDig s (o + (j + 1 + a))
        · rw [if_pos hall, if_pos]
          intro a ha
          cases a with
          | zero => exact ⟨by rw [show o + (j + 0) = i by omega]; omega, by rw [show o + (j + 0) = i by omega]; omega⟩
          | succ a =>
            have := hall a (by omega)
            rw [show o + (j + (a + 1)) = o + (j + 1 + a) by omega]
            exact this
        · rw [if_neg hall, if_neg]
          intro hall2
          apply hall
          intro a ha
          have := hall2 (a + 1) (by omega)
          rw [show o + (j + 1 + a) = o + (j + (a + 1)) by omega]
          exact this
theorem toList_inj {s t : ByteArray} (h : s.toList = t.toList) : s = t := by
  apply ByteArray.ext
  have e : ∀ x : ByteArray, x.toList = x.data.toList := fun x => ByteArray.toList_eq x
  rw [e, e] at h
  exact Array.toList_inj.1 h
open Classical in
theorem parse_f (s : ByteArray) (hs : s.size ≤ 200) : estuaryref01_Parse.f 1500 s = some (Wh (parsed s).1, Wl (parsed s).1, (parsed s).2) := by
  unfold estuaryref01_Parse.f
  by_cases h0 : s.size = 0
  · rw [if_pos (by omega)]
    have hp : parsed s = (0, false) := by
      unfold parsed
      rw [if_neg]
      rintro ⟨_, _, h3⟩
      have := (wtext_len (Wh (sgn s (pv s (minus s) (s.size - minus s)))) (Wl (sgn s (pv s (minus s) (s.size - minus s)))) (Wh_range _) (Wl_range _)).2.2
      rw [h3] at this
      omega
    rw [hp, Wh0, Wl0]
    rfl
  · rw [if_neg (by omega)]
    rw [estuaryref01_Parse.j0]
    by_cases h40 : s.size > 40
    · rw [parsed_long s h40]
      have : decide ((s.size : Int) > 40) = true := decide_eq_true (by omega)
      rw [this, Wh0, Wl0]
      rfl
    · have : decide ((s.size : Int) > 40) = false := decide_eq_false (by omega)
      rw [this, if_neg (by decide)]
      have hml := minus_le s
      have key : estuaryref01_Parse.l0 1499 s 0 0 0 = if (∀ a, a < s.size - minus s → isDig s (minus s + a)) then fin s (sgn s (pv s (minus s) (s.size - minus s))) else some (0, 0, false) := by
        have hm : minus s = 0 ∨ minus s = 1 := by unfold minus; split <;> simp
        rcases hm with hm | hm
        · have := parse_l0 s (by omega) (by omega) 0 hm.symm s.size 1499 0 0 (by omega) rfl (by omega) (Or.inl rfl)
          simp only [pv, Wh0, Wl0, Nat.zero_add] at this
          rw [hm]
          simp only [Nat.zero_add, Nat.sub_zero]
          exact this
        · have hb : bt s 0 = 45 := by
            unfold minus at hm
            split at hm
            · rename_i hh
              exact hh.2
            · omega
          have := parse_l0 s (by omega) (by omega) 1 hm.symm (s.size - 1) 1497 1 0 (by omega) rfl (by omega) (Or.inr (by omega))
          simp only [pv, Wh0, Wl0, Nat.zero_add] at this
          rw [hm]
          rw [estuaryref01_Parse.l0]
          rw [if_pos (by omega), if_pos rfl, if_pos (by omega)]
          rw [estuaryref01_Parse.j2]
          rw [if_pos (by simp [hb])]
          rw [show wrap64 (0 + 1) = ((1 : Nat) : Int) by decide +kernel]
          exact this
      rw [key]
      by_cases hall : ∀ a, a < s.size - minus s → isDig s (minus s + a)
      · rw [if_pos hall]
        unfold fin
        by_cases ht : wtext (Wh (sgn s (pv s (minus s) (s.size - minus s)))) (Wl (sgn s (pv s (minus s) (s.size - minus s)))) = s
        · have hlen := wtext_len (Wh (sgn s (pv s (minus s) (s.size - minus s)))) (Wl (sgn s (pv s (minus s) (s.size - minus s)))) (Wh_range _) (Wl_range _)
          rw [ht] at hlen
          have h39 : s.size - minus s ≤ 39 := by
            by_cases hneg : Wh (sgn s (pv s (minus s) (s.size - minus s))) < 0
            · have hl1 := hlen.1
              rw [if_pos hneg] at hl1
              by_cases h1 : minus s = 1
              · omega
              · exfalso
                have hb0 : bt s 0 = 45 := by
                  have e : bt (wtext (Wh (sgn s (pv s (minus s) (s.size - minus s)))) (Wl (sgn s (pv s (minus s) (s.size - minus s))))) 0 = 45 := by
                    unfold wtext
                    rw [if_pos hneg]
                    exact bt_minus _
                  rw [ht] at e
                  exact e
                exact h1 (by unfold minus; rw [if_pos ⟨by omega, hb0⟩])
            · have hl1 := hlen.1
              rw [if_neg hneg] at hl1
              omega
          have hp : parsed s = (sgn s (pv s (minus s) (s.size - minus s)), true) := by
            unfold parsed
            rw [if_pos ⟨h39, hall, ht⟩]
          rw [hp, ht, if_pos rfl]
        · have hp : parsed s = (0, false) := by
            unfold parsed
            rw [if_neg (fun h => ht h.2.2)]
          rw [hp, if_neg (fun h => ht (toList_inj h)), Wh0, Wl0]
      · have hp : parsed s = (0, false) := by
          unfold parsed
          rw [if_neg (fun h => hall h.2.1)]
        rw [hp, if_neg hall, Wh0, Wl0]
/- ---------------------------------------------------------------- there and back -/
theorem pv_son (pre : ByteArray) (l : List Int) (h : ∀ d ∈ l, 48 ≤ d ∧ d ≤ 57) : ∀ i : Nat, i ≤ l.length → pv (pre ++ strOfNums l) pre.size i = lv (l.take i) 0
  | 0, _ => rfl
  | i + 1, hi => by
    have hlv : ∀ (m : List Int) (x a : Int), lv (m ++ [x]) a = 10 * lv m a + (x - 48) := by
      intro m
      induction m with
      | nil => intro x a; rfl
      | cons d r ih => intro x a; simp only [List.cons_append, lv]; exact ih x _
    rw [pv, pv_son pre l h i (by omega), bt_son pre l h i (by omega), List.take_succ_eq_append_getElem (by omega), hlv]
    rw [List.getD_eq_getElem?_getD, List.getElem?_eq_getElem (by omega)]
    rfl
theorem parsed_text (ah al : Int) (hah : -9223372036854775808 ≤ ah ∧ ah ≤ 9223372036854775807) (hal : 0 ≤ al ∧ al < 18446744073709551616) : parsed (wtext ah al) = (ah * 18446744073709551616 + al, true) := by
  have hw := W_back ah al hah hal
  have hlen := wtext_len ah al hah hal
  by_cases hneg : ah < 0
  · have hdef : wtext ah al = ⟨#[45]⟩ ++ strOfNums (digits (-(ah * 18446744073709551616 + al)).toNat) := by
      unfold wtext
      rw [if_pos hneg, if_pos hneg]
    have hN : (((-(ah * 18446744073709551616 + al)).toNat : Nat) : Int) = -(ah * 18446744073709551616 + al) := by omega
    have hNl : (-(ah * 18446744073709551616 + al)).toNat < 1000000000000000000000000000000000000000 := by omega
    generalize (-(ah * 18446744073709551616 + al)).toNat = N at *
    have hb0 : bt (wtext ah al) 0 = 45 := by
      rw [hdef]
      exact bt_minus _
    have hm : minus (wtext ah al) = 1 := by unfold minus; rw [if_pos ⟨hlen.2.2, hb0⟩]
    have hsz : (wtext ah al).size - 1 = (digits N).length := by
      rw [hdef, ByteArray.size_append, strOfNums_size]
      have e : (⟨#[45]⟩ : ByteArray).size = 1 := rfl
      omega
    have hall := digits_all N
    have hpv : pv (wtext ah al) 1 (digits N).length = (N : Int) := by
      rw [hdef]
      have := pv_son ⟨#[45]⟩ (digits N) hall (digits N).length (by omega)
      rw [show (⟨#[45]⟩ : ByteArray).size = 1 from rfl] at this
      rw [this, List.take_length]
      exact digits_lv N hNl
    have hs : sgn (wtext ah al) (pv (wtext ah al) 1 (digits N).length) = ah * 18446744073709551616 + al := by
      unfold sgn
      rw [if_pos hm, hpv]
      omega
    unfold parsed
    rw [hm, hsz, hs, hw.1, hw.2, if_pos]
    refine ⟨digits_len N hNl, ?_, rfl⟩
    intro i hi
    have := bt_son ⟨#[45]⟩ (digits N) hall i hi
    rw [show (⟨#[45]⟩ : ByteArray).size = 1 from rfl, ← hdef] at this
    unfold isDig
    rw [this, List.getD_eq_getElem?_getD, List.getElem?_eq_getElem hi]
    exact hall _ (List.getElem_mem hi)
  · have hdef : wtext ah al = ⟨#[]⟩ ++ strOfNums (digits (ah * 18446744073709551616 + al).toNat) := by
      unfold wtext
      rw [if_neg hneg, if_neg hneg]
    have hN : (((ah * 18446744073709551616 + al).toNat : Nat) : Int) = ah * 18446744073709551616 + al := by omega
    have hNl : (ah * 18446744073709551616 + al).toNat < 1000000000000000000000000000000000000000 := by omega
    generalize (ah * 18446744073709551616 + al).toNat = N at *
    have hb0 : ¬ bt (wtext ah al) 0 = 45 := hlen.2.1 (by omega)
    have hm : minus (wtext ah al) = 0 := by unfold minus; rw [if_neg (fun h => hb0 h.2)]
    have hsz : (wtext ah al).size - 0 = (digits N).length := by
      rw [hdef, ByteArray.size_append, strOfNums_size]
      have e : (⟨#[]⟩ : ByteArray).size = 0 := rfl
      omega
    have hall := digits_all N
    have hpv : pv (wtext ah al) 0 (digits N).length = (N : Int) := by
      rw [hdef]
      have := pv_son ⟨#[]⟩ (digits N) hall (digits N).length (by omega)
      rw [show (⟨#[]⟩ : ByteArray).size = 0 from rfl] at this
      rw [this, List.take_length]
      exact digits_lv N hNl
    have hs : sgn (wtext ah al) (pv (wtext ah al) 0 (digits N).length) = ah * 18446744073709551616 + al := by
      unfold sgn
      rw [if_neg (by omega), hpv]
      omega
    unfold parsed
    rw [hm, hsz, hs, hw.1, hw.2, if_pos]
    refine ⟨digits_len N hNl, ?_, rfl⟩
    intro i hi
    have := bt_son ⟨#[]⟩ (digits N) hall i hi
    rw [show (⟨#[]⟩ : ByteArray).size = 0 from rfl, ← hdef] at this
    unfold isDig
    rw [this, List.getD_eq_getElem?_getD, List.getElem?_eq_getElem hi]
    exact hall _ (List.getElem_mem hi)
theorem parsed_back (s : ByteArray) : ((parsed s).2 = true ∧ wtext (Wh (parsed s).1) (Wl (parsed s).1) = s) ∨ parsed s = (0, false) := by
  unfold parsed
  split
  · rename_i h
    exact Or.inl ⟨rfl, h.2.2⟩
  · exact Or.inr rfl
end Go.Proofs.Ythhepaikogcddaa.PFloorGroup
