/- Numbers' bytes as the document has them; two rows told apart. -/
import Derived.Test.YtjndoihnpnmbjaaFrRef
import Derived.Test.YtjndoihnpnmbjaaFrCopy
namespace Go.Proofs.Ytjndoihnpnmbjaa.PFrameSums
open Go.RowKit Go.Proofs.YtjndoihnpnmbjaaW.PrintWords Go.Proofs.YtjndoihnpnmbjaaW.PrintLast Go.Proofs.YtjndoihnpnmbjaaW.PrintMore
open Go.Proofs.Ytjndoihnpnmbjaa.Flow
set_option linter.unusedVariables false
set_option linter.unusedSimpArgs false
/-- A drawn call's answer that is a row of the function's own. -/
def OwnSpec (base b : Nat) (xs : List Int) : Flow.Spec where
  s := fun v w => ∃ A n c, v = .slice A n c ∧ Own .u8 5 w base b A n c xs
  pl := fun v => ∃ A n c, v = .slice A n c
  stab := fun v w w' hb ⟨A, n, c, h1, h2⟩ => ⟨A, n, c, h1, h2.on hb⟩
  imp := fun v w ⟨A, n, c, h1, _⟩ => ⟨A, n, c, h1⟩
  inh := ⟨.slice none 0 0, none, 0, 0, rfl⟩
theorem ownspec_fact {base b : Nat} {xs : List Int} {A : Option Addr} {n c : Nat} {w : World} (h : (OwnSpec base b xs).s (.slice A n c) w) : Own .u8 5 w base b A n c xs := by
  obtain ⟨A', n', c', he, h2⟩ := h
  injection he with h3 h4 h5
  subst h3 h4 h5
  exact h2
theorem own_front {k : IntKind} {e : TypeId} {w : World} {base b : Nat} {A : Option Addr} {n c : Nat} {xs ys : List Int} (h : Own k e w base b A n c (xs ++ ys)) : (Kd.int k).C w A xs.length xs := by
  have h1 := Kd.C_take (m := xs.length) (Own.C h) (by simp)
  simpa using h1
theorem own_head {k : IntKind} {e : TypeId} {w : World} {base b : Nat} {A : Option Addr} {n c : Nat} {xs ys : List Int} (h : Own k e w base b A n c (xs ++ ys)) : Own k e w base b A xs.length c xs := by
  have h1 : Own k e w base b A xs.length c ((xs ++ ys).take xs.length) := R_take h xs.length (by simp)
  simpa using h1
theorem shift_low (u : Nat) : ∀ n i, i + n ≤ 7 → lowl (u : Int) n (i + 1) = lowl ((u / 256 : Nat) : Int) n i
  | 0, i, h => rfl
  | n + 1, i, h => by
    rw [lowl, lowl, shr_nat u (i + 1) (by omega), shr_nat (u / 256) i (by omega), shift_low u n (i + 1) (by omega)]
    have e : u / 2 ^ (8 * (i + 1)) = u / 256 / 2 ^ (8 * i) := by rw [Nat.div_div_eq_div_mul, show 8 * (i + 1) = 8 + 8 * i by omega, Nat.pow_add]
    rw [e]
def dg (u : Nat) : List Int := lowl (u : Int) (szN u) 0
theorem dg_len (u : Nat) : (dg u).length = szN u := lowl_len _ _ _
theorem szN_step (u : Nat) (h0 : 0 < u) (hu : u < 18446744073709551616) : szN u = szN (u / 256) + 1 := by
  have hb : blen (u / 256) ≤ 56 := blen_le _ 56 (by omega)
  have hz : szN (u / 256) ≤ 7 := by unfold szN; omega
  refine szN_of (by omega) ?_ (fun _ => ?_)
  · have h1 := blen_lt (u / 256)
    have h2 : 2 ^ blen (u / 256) ≤ 2 ^ (8 * szN (u / 256)) := Nat.pow_le_pow_right (by omega) (by unfold szN; omega)
    have h3 : 2 ^ (8 * (szN (u / 256) + 1)) = 2 ^ (8 * szN (u / 256)) * 256 := by rw [show 8 * (szN (u / 256) + 1) = 8 * szN (u / 256) + 8 by omega, Nat.pow_add]
    omega
  · rw [show szN (u / 256) + 1 - 1 = szN (u / 256) by omega]
    rcases Nat.eq_zero_or_pos (szN (u / 256)) with h1 | h1
    · rw [h1]
      simp
      omega
    · have hne : u / 256 ≠ 0 := fun h2 => by rw [h2] at h1; simp [szN, blen] at h1
      have h2 := blen_ge (u / 256) hne
      have h3 : 2 ^ (8 * szN (u / 256) - 8) ≤ 2 ^ (blen (u / 256) - 1) := Nat.pow_le_pow_right (by omega) (by unfold szN at h1 ⊢; omega)
      have h4 : 2 ^ (8 * szN (u / 256)) = 2 ^ (8 * szN (u / 256) - 8) * 256 := by
        rw [← Nat.pow_add 2 _ 8]
        congr 1
        omega
      omega
theorem dg_step (u : Nat) (h0 : 0 < u) (hu : u < 18446744073709551616) : dg u = ((u % 256 : Nat) : Int) :: dg (u / 256) := by
  have hb : blen (u / 256) ≤ 56 := blen_le _ 56 (by omega)
  unfold dg
  rw [szN_step u h0 hu, lowl, shr_nat u 0 (by omega), shift_low u _ 0 (by unfold szN; omega)]
  simp
theorem number_l0 : ∀ (m K u : Nat) (x : List Int), szN u = m → m + 1 ≤ K → u < 18446744073709551616 → x.length + m ≤ 100 → estuaryref04_Number.l0 K (u : Int) x = some ((((x ++ dg u).length : Nat) : Int) :: (x ++ dg u))
  | 0, K, u, x, hm, hK, hu, hx => by
    obtain ⟨k, rfl⟩ : ∃ k, K = k + 1 := ⟨K - 1, by omega⟩
    have h0 : u = 0 := by
      rcases Nat.eq_zero_or_pos u with h | h
      · exact h
      · have := szN_step u h hu
        omega
    subst h0
    have hd : dg 0 = [] := rfl
    rw [estuaryref04_Number.l0, if_neg (by decide), hd, List.append_nil, Option.bind_some, if_pos (by simp; omega)]
    rw [show ((x.length : Nat) : Int) % 256 = ((x.length : Nat) : Int) by omega]
    rfl
  | m + 1, K, u, x, hm, hK, hu, hx => by
    obtain ⟨k, rfl⟩ : ∃ k, K = k + 1 := ⟨K - 1, by omega⟩
    have h0 : 0 < u := by
      rcases Nat.eq_zero_or_pos u with h | h
      · subst h
        simp [szN, blen] at hm
      · exact h
    have hs := szN_step u h0 hu
    have e1 : IntKind.u64.wrap (Int.tdiv (u : Int) 256) = ((u / 256 : Nat) : Int) := by
      rw [Int.tdiv_eq_ediv_of_nonneg (by omega), u64_wrap]
      omega
    have e2 : Int.tmod (u : Int) 256 % 256 = ((u % 256 : Nat) : Int) := by
      rw [Int.tmod_eq_emod_of_nonneg (by omega)]
      omega
    rw [estuaryref04_Number.l0, if_pos (by omega), if_pos (by omega), e1, e2, number_l0 m k (u / 256) _ (by omega) (by omega) (by omega) (by simp only [List.length_append, List.length_singleton]; omega), dg_step u h0 hu]
    simp only [List.append_assoc, List.singleton_append]
theorem number_f (n : Int) (hn : I64 n) (K : Nat) (hK : 12 ≤ K) : estuaryref04_Number.f K n = some (numB n) := by
  obtain ⟨k, rfl⟩ : ∃ k, K = k + 1 := ⟨K - 1, by omega⟩
  have h1 := hn.1
  have h2 := hn.2
  have ht := tn_lt hn
  have hs := szN_le ht
  have key : estuaryref04_Number.j0 (k + 1) ((tn n : Nat) : Int) = some (numB n) := by
    rw [estuaryref04_Number.j0, number_l0 _ k (tn n) [] rfl (by omega) ht (by simp; omega)]
    rw [List.nil_append, dg_len]
    rfl
  unfold estuaryref04_Number.f
  by_cases h0 : n < 0
  · rw [if_pos h0]
    have e : IntKind.u64.wrap ((IntKind.u64.wrap ((IntKind.u64.wrap (wrap64 (-(wrap64 (n + 1))))) * 2)) + 1) = ((tn n : Nat) : Int) := by
      rw [wrap_id (x := n + 1) (by omega) (by omega), wrap_id (x := -(n + 1)) (by omega) (by omega), u64_wrap, u64_wrap, u64_wrap]
      unfold tn
      rw [if_neg (by omega)]
      omega
    rw [e]
    exact key
  · rw [if_neg h0]
    have e : IntKind.u64.wrap (IntKind.u64.wrap n * 2) = ((tn n : Nat) : Int) := by
      rw [u64_wrap, u64_wrap]
      unfold tn
      rw [if_pos (by omega)]
      omega
    rw [e]
    exact key
theorem refput_l0 (ys : List Int) (hy : ∀ y ∈ ys, I64 y) (hl : ys.length ≤ 1000000) : ∀ (m K i : Nat) (x : List Int), m + 14 ≤ K → i + m = ys.length → x.length + 9 * m ≤ 100000000 → estuaryref04_Put.l0 K ys x (i : Int) = some (x ++ PB (ys.drop i)) := by
  intro m
  induction m with
  | zero =>
    intro K i x hK hi hx
    obtain ⟨k, rfl⟩ : ∃ k, K = k + 1 := ⟨K - 1, by omega⟩
    rw [estuaryref04_Put.l0, if_neg (by omega), List.drop_of_length_le (by omega)]
    simp [PB]
  | succ m ih =>
    intro K i x hK hi hx
    obtain ⟨k, rfl⟩ : ∃ k, K = k + 1 := ⟨K - 1, by omega⟩
    have hlt : i < ys.length := by omega
    have hr := hy ys[i] (List.getElem_mem hlt)
    have hn := numB_len ys[i]
    have hs := szN_le (tn_lt hr)
    have e2 : wrap64 ((i : Int) + 1) = ((i + 1 : Nat) : Int) := wrap_id (by omega) (by omega)
    rw [estuaryref04_Put.l0, if_pos (by omega), if_pos (by omega), rd_at ys i hlt, number_f _ hr k (by omega), Option.bind_some, if_pos (by omega), e2, ih k (i + 1) _ (by omega) (by omega) (by rw [List.length_append]; omega)]
    rw [List.drop_eq_getElem_cons hlt]
    simp only [PB, List.map_cons, List.flatten_cons, List.append_assoc]
theorem refput_f (out ys : List Int) (hy : ∀ y ∈ ys, I64 y) (hl : ys.length ≤ 1000000) (ho : out.length ≤ 1000000) : estuaryref04_Put.f (ys.length + 14) out ys = some (out ++ PB ys) := by
  unfold estuaryref04_Put.f
  rw [Option.bind_some, if_pos (by simp; omega)]
  have h := refput_l0 ys hy hl ys.length (ys.length + 14) 0 out (by omega) (by omega) (by omega)
  simpa using h
theorem put_f2 (out ys : List Int) (hy : ∀ y ∈ ys, I64 y) (hl : ys.length ≤ 1000000) (ho : out.length ≤ 1000000) : frame_put.f (ys.length + 12) out ys = some (out ++ PB ys) := by
  unfold frame_put.f
  have h := put_l0 ys hy (by omega) ys.length (ys.length + 12) 0 out (by omega) (by omega) (by omega)
  simpa using h
/-- Two rows of their own are told apart. -/
theorem apart_two {w0 w : World} {g b1 b2 n1 c1 n2 c2 : Nat} {A1 A2 : Option Addr} {x1 x2 : List Int} (hB : Below w0.heap.size w0 w) (hb : Blk w g 22 #[.slice A1 n1 c1, .slice A2 n2 c2])
    (h1 : Own .u8 5 w w0.heap.size b1 A1 n1 c1 x1) (h2 : Own .u8 5 w w0.heap.size b2 A2 n2 c2 x2) (hap : ∀ q, (Value.slice A1 n1 c1).ownBlock = some q → some q ≠ (Value.slice A2 n2 c2).ownBlock) (hn1 : n1 ≤ 1000000) (hn2 : n2 ≤ 1000000) :
    Calls Try.prog 18 #[.slice (some ⟨g, 0, none⟩) 2 2] w fun e w' => e = .returned (.bool true) ∧ Below w0.heap.size w0 w' := by
  have ty1 := fun q hq => own_typed (Kd.own_of_R h1) q hq
  have ty2 := fun q hq => own_typed (Kd.own_of_R h2) q hq
  obtain ⟨s1, v1, l1, g1⟩ := own_shape h1
  obtain ⟨s2, v2, l2, g2⟩ := own_shape h2
  have ob1 : s1.nil = false → (Value.slice A1 n1 c1).ownBlock = some s1.g := fun h => by rw [← v1]; unfold V; rw [adrS_some h]; rfl
  have ob2 : s2.nil = false → (Value.slice A2 n2 c2).ownBlock = some s2.g := fun h => by rw [← v2]; unfold V; rw [adrS_some h]; rfl
  have hbb : w.heap[g]? = some (.cells #[.slice A1 n1 c1, .slice A2 n2 c2] 22 (0, 0)) := hb
  have e1 : s1.n = n1 := by injection v1
  have e2 : s2.n = n2 := by injection v2
  refine apart_calls w0 w hB g 2 2 (fun i => if i = 0 then s1 else s2) (fun i => if i = 0 then x1 else x2) (fun k hk => ?_) hb.lt (fun i hi hn e => ?_) (fun i j hi hj hni hnj e => ?_) (fun i hi => ?_) (fun i hi hn => ?_) (by omega) (fun i hi => ?_)
  · match k, hk with
    | 0, _ => exact (hb.cellv (i := 0) (v := .slice A1 n1 c1) rfl).trans (by rw [if_pos rfl, v1])
    | 1, _ => exact (hb.cellv (i := 1) (v := .slice A2 n2 c2) rfl).trans (by rw [if_neg (by decide), v2])
  · match i, hi with
    | 0, _ =>
      simp only [if_true] at hn e
      obtain ⟨cs, ht⟩ := ty1 _ (ob1 hn)
      rw [e, hbb] at ht
      injection ht with ht
      injection ht with _ ht
      cases ht
    | 1, _ =>
      simp only [Nat.one_ne_zero, if_false] at hn e
      obtain ⟨cs, ht⟩ := ty2 _ (ob2 hn)
      rw [e, hbb] at ht
      injection ht with ht
      injection ht with _ ht
      cases ht
  · match i, j, hi, hj with
    | 0, 0, _, _ => rfl
    | 1, 1, _, _ => rfl
    | 0, 1, _, _ =>
      simp only [if_true, Nat.one_ne_zero, if_false] at hni hnj e
      exact absurd (by rw [ob2 hnj, e]) (hap _ (ob1 hni))
    | 1, 0, _, _ =>
      simp only [if_true, Nat.one_ne_zero, if_false] at hni hnj e
      exact absurd (by rw [ob2 hni, ← e]) (hap _ (ob1 hnj))
  · match i, hi with
    | 0, _ => exact l1
    | 1, _ => exact l2
  · match i, hi with
    | 0, _ => exact (g1 hn).2
    | 1, _ => exact (g2 hn).2
  · match i, hi with
    | 0, _ =>
      show s1.n ≤ 1000000
      omega
    | 1, _ =>
      show s2.n ≤ 1000000
      omega
end Go.Proofs.Ytjndoihnpnmbjaa.PFrameSums
