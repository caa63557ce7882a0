/- What numbers a cell has, and which numbers begin with a cell: plain. -/
import Derived.Test.YtheaipbnbnjlgaaCeEq
namespace Go.Proofs.Ytheaipbnbnjlgaa.Ce
open Go.RowKit Go.Proofs.YtheaipbnbnjlgaaW.PrintWords Go.Proofs.YtheaipbnbnjlgaaW.PrintLast Go.Proofs.YtheaipbnbnjlgaaW.PrintMore
open Go.Proofs.Ytheaipbnbnjlgaa.Flow
set_option linter.unusedVariables false
set_option linter.unusedSimpArgs false
/-- The pairs below k: where a count isn't nought, and the count. -/
def pr (h : Fin 65 → Int) : Nat → List (Int × Int)
  | 0 => []
  | k + 1 => if atF h k = 0 then pr h k else pr h k ++ [(((k : Nat) : Int), atF h k)]
def flatP : List (Int × Int) → List Int
  | [] => []
  | p :: r => p.1 :: p.2 :: flatP r
theorem flatP_append : ∀ a b : List (Int × Int), flatP (a ++ b) = flatP a ++ flatP b
  | [], _ => rfl
  | p :: a, b => by simp [flatP, flatP_append a b]
theorem flatP_len : ∀ a : List (Int × Int), (flatP a).length = 2 * a.length
  | [] => rfl
  | p :: a => by simp only [flatP, List.length_cons, flatP_len a]; omega
theorem flatP_inj : ∀ a b : List (Int × Int), flatP a = flatP b → a = b
  | [], [], _ => rfl
  | [], _ :: _, h => by simp [flatP] at h
  | _ :: _, [], h => by simp [flatP] at h
  | (x, y) :: a, (u, v) :: b, h => by
    simp only [flatP, List.cons.injEq] at h
    obtain ⟨rfl, rfl, h⟩ := h
    rw [flatP_inj a b h]
def headC (c : CL) (n : Int) : List Int := [c.cnt, c.hi, wrap64 c.lo, c.mn, c.mx, c.t, c.src, c.seq, c.v, n]
/-- The numbers of a cell. -/
def numsC (c : CL) : List Int := headC c ((pr c.h 65).length : Int) ++ flatP (pr c.h 65)
theorem pr_len (h : Fin 65 → Int) : ∀ k, (pr h k).length ≤ k
  | 0 => Nat.le_refl _
  | k + 1 => by
    have := pr_len h k
    simp only [pr]
    split
    · omega
    · simp; omega
theorem pr_zero (h : Fin 65 → Int) (k : Nat) (e : atF h k = 0) : pr h (k + 1) = pr h k := by simp only [pr]; rw [if_pos e]
theorem pr_more (h : Fin 65 → Int) (k : Nat) (e : ¬ atF h k = 0) : pr h (k + 1) = pr h k ++ [(((k : Nat) : Int), atF h k)] := by simp only [pr]; rw [if_neg e]
/-- The first k numbers of pairs behind the ten. -/
def prsOf (l : List Int) (n : Nat) : List (Int × Int) := (List.range n).map fun k => (l.getD (10 + 2 * k) 0, l.getD (10 + 2 * k + 1) 0)
def stepT (s : Option (Int × (Fin 65 → Int))) (p : Int × Int) : Option (Int × (Fin 65 → Int)) :=
  match s with
  | none => none
  | some (last, h) => if p.1 ≤ last ∨ 64 < p.1 ∨ p.2 = 0 then none else some (p.1, updF h p.1.toNat p.2)
theorem stepT_some (l0 : Int) (h0 : Fin 65 → Int) (p : Int × Int) : stepT (some (l0, h0)) p = if p.1 ≤ l0 ∨ 64 < p.1 ∨ p.2 = 0 then none else some (p.1, updF h0 p.1.toNat p.2) := rfl
def foldT (ps : List (Int × Int)) : Option (Int × (Fin 65 → Int)) := ps.foldl stepT (some (-1, fun _ => 0))
theorem foldT_snoc (ps : List (Int × Int)) (p : Int × Int) : foldT (ps ++ [p]) = stepT (foldT ps) p := by unfold foldT; rw [List.foldl_append]; rfl
theorem stepT_none (ps : List (Int × Int)) : ps.foldl stepT none = none := by
  induction ps with
  | nil => rfl
  | cons p ps ih => exact ih
theorem foldT_pre (ps qs : List (Int × Int)) (h : foldT ps = none) : foldT (ps ++ qs) = none := by
  unfold foldT at *
  rw [List.foldl_append, h]
  exact stepT_none qs
theorem atF_upd (h : Fin 65 → Int) (i k : Nat) (x : Int) (hk : k < 65) : atF (updF h i x) k = if k = i then x else atF h k := by
  unfold atF updF
  rw [dif_pos hk, dif_pos hk]
theorem pr_below (h : Fin 65 → Int) (i : Nat) (x : Int) : ∀ k, k ≤ i → k ≤ 65 → pr (updF h i x) k = pr h k
  | 0, _, _ => rfl
  | k + 1, hi, h65 => by
    have e : atF (updF h i x) k = atF h k := by rw [atF_upd h i k x (by omega), if_neg (by omega)]
    simp only [pr]
    rw [e, pr_below h i x k (by omega) (by omega)]
theorem pr_gap (h : Fin 65 → Int) (a : Nat) (hz : ∀ k, a ≤ k → k < 65 → atF h k = 0) : ∀ b, a + b ≤ 65 → pr h (a + b) = pr h a
  | 0, _ => rfl
  | b + 1, hb => by
    have h1 := pr_gap h a hz b (by omega)
    have h2 := pr_zero h (a + b) (hz (a + b) (by omega) (by omega))
    rw [← h1, ← h2]
    rfl
theorem snoc_ind {α : Type} {p : List α → Prop} (h0 : p []) (h1 : ∀ l a, p l → p (l ++ [a])) (l : List α) : p l := by
  have h2 : ∀ r : List α, p r.reverse := by
    intro r
    induction r with
    | nil => exact h0
    | cons a r ih => rw [List.reverse_cons]; exact h1 _ _ ih
  have h3 := h2 l.reverse
  rwa [List.reverse_reverse] at h3
/-- What is taken has those pairs. -/
theorem foldT_pr (ps : List (Int × Int)) : ∀ last h, foldT ps = some (last, h) → -1 ≤ last ∧ last ≤ 64 ∧ (∀ k : Nat, last < (k : Int) → k < 65 → atF h k = 0) ∧ pr h (last + 1).toNat = ps := by
  refine snoc_ind (p := fun ps => ∀ last h, foldT ps = some (last, h) → -1 ≤ last ∧ last ≤ 64 ∧ (∀ k : Nat, last < (k : Int) → k < 65 → atF h k = 0) ∧ pr h (last + 1).toNat = ps) ?_ ?_ ps
  · intro last h e
    unfold foldT at e
    simp only [List.foldl_nil, Option.some.injEq, Prod.mk.injEq] at e
    obtain ⟨rfl, rfl⟩ := e
    exact ⟨by omega, by omega, fun k _ hk => by unfold atF; rw [dif_pos hk], rfl⟩
  · intro ps p ih last h e
    rw [foldT_snoc] at e
    cases hf : foldT ps with
    | none => rw [hf] at e; simp [stepT] at e
    | some s =>
      obtain ⟨l0, h0⟩ := s
      rw [hf] at e
      obtain ⟨i1, i2, i3, i4⟩ := ih l0 h0 hf
      rw [stepT_some] at e
      split at e
      · cases e
      · rename_i hc
        have e2 := Option.some.inj e
        obtain rfl := (congrArg Prod.fst e2)
        obtain rfl := (congrArg Prod.snd e2)
        obtain ⟨at_, v⟩ := p
        have c1 : ¬ at_ ≤ l0 := fun z => hc (.inl z)
        have c2 : ¬ 64 < at_ := fun z => hc (.inr (.inl z))
        have c3 : ¬ v = 0 := fun z => hc (.inr (.inr z))
        show -1 ≤ at_ ∧ at_ ≤ 64 ∧ (∀ k : Nat, at_ < (k : Int) → k < 65 → atF (updF h0 at_.toNat v) k = 0) ∧ pr (updF h0 at_.toNat v) (at_ + 1).toNat = ps ++ [(at_, v)]
        refine ⟨by omega, by omega, fun k hk h65 => ?_, ?_⟩
        · rw [atF_upd _ _ _ _ h65, if_neg (by omega)]
          exact i3 k (by omega) h65
        · have e1 : (at_ + 1).toNat = at_.toNat + 1 := by omega
          rw [e1, pr_more _ _ (by rw [atF_upd _ _ _ _ (by omega), if_pos rfl]; exact c3), atF_upd _ _ _ _ (by omega), if_pos rfl, pr_below _ _ _ _ (Nat.le_refl _) (by omega)]
          have e2 : at_.toNat = (l0 + 1).toNat + (at_.toNat - (l0 + 1).toNat) := by omega
          have e3 := pr_gap h0 (l0 + 1).toNat (fun k h1 h2 => i3 k (by omega) h2) (at_.toNat - (l0 + 1).toNat) (by omega)
          rw [← e2] at e3
          rw [e3, i4, show ((at_.toNat : Nat) : Int) = at_ by omega]
theorem foldT_full {ps : List (Int × Int)} {last : Int} {h : Fin 65 → Int} (e : foldT ps = some (last, h)) : pr h 65 = ps := by
  obtain ⟨h1, h2, h3, h4⟩ := foldT_pr ps last h e
  have e3 := pr_gap h (last + 1).toNat (fun k a b => h3 k (by omega) b) (65 - (last + 1).toNat) (by omega)
  rw [show (last + 1).toNat + (65 - (last + 1).toNat) = 65 by omega] at e3
  rw [e3, h4]
/-- The counts below k. -/
def cutF (h : Fin 65 → Int) (k : Nat) : Fin 65 → Int := fun i => if i.val < k then h i else 0
theorem foldT_of (h : Fin 65 → Int) : ∀ k : Nat, k ≤ 65 → ∃ last, last < (k : Int) ∧ foldT (pr h k) = some (last, cutF h k)
  | 0, _ => ⟨-1, by omega, by unfold foldT pr; simp only [List.foldl_nil]; congr 2⟩
  | k + 1, hk => by
    obtain ⟨last, hl, hf⟩ := foldT_of h k (by omega)
    by_cases hz : atF h k = 0
    · refine ⟨last, by omega, ?_⟩
      rw [pr_zero h k hz, hf]
      congr 2
      funext i
      unfold cutF
      by_cases h1 : i.val < k
      · rw [if_pos h1, if_pos (by omega)]
      · rw [if_neg h1]
        split
        · have h2 : i = ⟨k, by omega⟩ := Fin.ext (by show i.val = k; omega)
          unfold atF at hz
          rw [dif_pos (by omega : k < 65)] at hz
          rw [h2, hz]
        · rfl
    · refine ⟨(k : Int), by omega, ?_⟩
      rw [pr_more h k hz, foldT_snoc, hf]
      unfold stepT
      simp only
      rw [if_neg (by rintro (z | z | z); omega; omega; exact hz z)]
      congr 2
      funext i
      unfold updF cutF
      simp only [Int.toNat_natCast]
      by_cases h1 : i.val = k
      · rw [if_pos h1, if_pos (by omega)]
        have h2 : i = ⟨k, by omega⟩ := Fin.ext h1
        unfold atF
        rw [dif_pos (by omega : k < 65)]
        exact (congrArg h h2).symm
      · rw [if_neg h1]
        by_cases h3 : i.val < k
        · rw [if_pos h3, if_pos (by omega)]
        · rw [if_neg h3, if_neg (by omega)]
theorem cutF_full (h : Fin 65 → Int) : cutF h 65 = h := by funext i; unfold cutF; rw [if_pos i.isLt]
theorem foldT_pr65 (h : Fin 65 → Int) : ∃ last, foldT (pr h 65) = some (last, h) := by
  obtain ⟨last, _, e⟩ := foldT_of h 65 (Nat.le_refl _)
  rw [cutF_full] at e
  exact ⟨last, e⟩
/-! ### Numbers that begin with a cell -/
def baseC (l : List Int) (h : Fin 65 → Int) : CL := ⟨l.getD 0 0, l.getD 1 0, l.getD 2 0 % 18446744073709551616, l.getD 3 0, l.getD 4 0, l.getD 5 0, l.getD 6 0, l.getD 7 0, l.getD 8 0, h⟩
/-- Has it the shape: ten numbers, the tenth within bounds, and so many pairs behind? -/
def shapeC (l : List Int) : Bool := decide (10 ≤ l.length) && (decide (0 ≤ l.getD 9 0) && (decide (l.getD 9 0 ≤ 65) && decide (2 * l.getD 9 0 ≤ (l.length : Int) - 10)))
def nC (l : List Int) : Nat := (l.getD 9 0).toNat
def takeC (l : List Int) : Option (CL × List Int) :=
  if shapeC l then match foldT (prsOf l (nC l)) with
    | none => none
    | some (_, h) => some (baseC l h, l.drop (10 + 2 * nC l))
  else none
theorem prsOf_succ (l : List Int) (n : Nat) : prsOf l (n + 1) = prsOf l n ++ [(l.getD (10 + 2 * n) 0, l.getD (10 + 2 * n + 1) 0)] := by unfold prsOf; rw [List.range_succ, List.map_append]; rfl
theorem prsOf_len (l : List Int) (n : Nat) : (prsOf l n).length = n := by simp [prsOf]
theorem flat_prs (l : List Int) : ∀ n, 10 + 2 * n ≤ l.length → flatP (prsOf l n) = (l.drop 10).take (2 * n)
  | 0, _ => by simp [prsOf, flatP]
  | n + 1, h => by
    rw [prsOf_succ, flatP_append, flat_prs l n (by omega)]
    have e1 : (l.drop 10).take (2 * (n + 1)) = (l.drop 10).take (2 * n) ++ [l.getD (10 + 2 * n) 0, l.getD (10 + 2 * n + 1) 0] := by
      rw [show 2 * (n + 1) = 2 * n + 1 + 1 by omega, List.take_succ_eq_append_getElem (by simp; omega), List.take_succ_eq_append_getElem (by simp; omega), List.append_assoc]
      congr 1
      simp only [List.getElem_drop, List.singleton_append, List.getD_eq_getElem?_getD]
      rw [List.getElem?_eq_getElem (by omega), List.getElem?_eq_getElem (by omega)]
      simp
      rfl
    rw [e1]
    rfl
theorem shape_spec {l : List Int} (h : shapeC l = true) : 10 ≤ l.length ∧ nC l ≤ 65 ∧ ((nC l : Nat) : Int) = l.getD 9 0 ∧ 10 + 2 * nC l ≤ l.length := by
  unfold shapeC at h
  simp only [Bool.and_eq_true, decide_eq_true_eq] at h
  unfold nC
  omega
def I64 (x : Int) : Prop := -9223372036854775808 ≤ x ∧ x ≤ 9223372036854775807
theorem wrap_mod {x : Int} (h : I64 x) : wrap64 (x % 18446744073709551616) = x := by
  obtain ⟨h1, h2⟩ := h
  rcases Int.lt_or_le x 0 with h3 | h3
  · have e : x % 18446744073709551616 = x + 18446744073709551616 := by omega
    rw [e]
    unfold wrap64
    omega
  · have e : x % 18446744073709551616 = x := by omega
    rw [e]
    unfold wrap64
    omega
theorem mod_wrap {x : Int} (h : 0 ≤ x ∧ x < 18446744073709551616) : wrap64 x % 18446744073709551616 = x := by
  obtain ⟨h1, h2⟩ := h
  unfold wrap64
  omega
theorem take10 : ∀ l : List Int, 10 ≤ l.length → l.take 10 = [l.getD 0 0, l.getD 1 0, l.getD 2 0, l.getD 3 0, l.getD 4 0, l.getD 5 0, l.getD 6 0, l.getD 7 0, l.getD 8 0, l.getD 9 0]
  | a :: b :: c :: d :: e :: f :: g :: h :: i :: j :: r, _ => by simp [List.getD_cons_zero, List.getD_cons_succ]
theorem head_base {l : List Int} {h : Fin 65 → Int} (hl : 10 ≤ l.length) (h2 : I64 (l.getD 2 0)) : headC (baseC l h) (l.getD 9 0) = l.take 10 := by
  rw [take10 l hl]
  unfold headC baseC
  simp only
  rw [wrap_mod h2]
/-- What is taken, written again, is what was taken. -/
theorem takeC_nums {l : List Int} {c : CL} {r : List Int} (h : takeC l = some (c, r)) (h2 : I64 (l.getD 2 0)) : numsC c ++ r = l ∧ numsC c = l.take (10 + 2 * nC l) ∧ r = l.drop (10 + 2 * nC l) ∧ shapeC l = true := by
  unfold takeC at h
  split at h
  · rename_i hs
    obtain ⟨s1, s2, s3, s4⟩ := shape_spec hs
    split at h
    · cases h
    · rename_i last hh hf
      simp only [Option.some.injEq, Prod.mk.injEq] at h
      obtain ⟨rfl, rfl⟩ := h
      have e1 : numsC (baseC l hh) = l.take (10 + 2 * nC l) := by
        unfold numsC
        show headC (baseC l hh) ((pr hh 65).length : Int) ++ flatP (pr hh 65) = _
        rw [foldT_full hf, prsOf_len, s3, head_base s1 h2, flat_prs l _ s4]
        rw [List.take_add]
      refine ⟨?_, e1, rfl, hs⟩
      rw [e1]
      exact List.take_append_drop _ _
  · cases h
theorem nums_len (c : CL) : (numsC c).length = 10 + 2 * (pr c.h 65).length := by simp [numsC, headC, flatP_len]; omega
theorem getD_app {a b : List Int} {i : Nat} (h : i < a.length) : (a ++ b).getD i 0 = a.getD i 0 := by simp only [List.getD_eq_getElem?_getD]; rw [List.getElem?_append_left h]
/-- A cell comes back from its numbers. -/
theorem takeC_back (c : CL) (more : List Int) (hlo : LoOk c) : takeC (numsC c ++ more) = some (c, more) := by
  have hl := nums_len c
  have hg : ∀ i, i < 10 → (numsC c ++ more).getD i 0 = (headC c ((pr c.h 65).length : Int)).getD i 0 := fun i hi => by
    rw [getD_app (by omega)]
    unfold numsC
    rw [getD_app (by simpa [headC] using hi)]
  have h9 : (numsC c ++ more).getD 9 0 = ((pr c.h 65).length : Int) := hg 9 (by omega)
  have hp := pr_len c.h 65
  have hn : nC (numsC c ++ more) = (pr c.h 65).length := by unfold nC; rw [h9]; omega
  have hs : shapeC (numsC c ++ more) = true := by
    unfold shapeC
    rw [h9, List.length_append, hl]
    simp only [Bool.and_eq_true, decide_eq_true_eq]
    omega
  have hd : (numsC c ++ more).drop (10 + 2 * (pr c.h 65).length) = more := by rw [← hl]; exact List.drop_left
  have hf : flatP (prsOf (numsC c ++ more) (pr c.h 65).length) = flatP (pr c.h 65) := by
    rw [flat_prs _ _ (by rw [List.length_append, hl]; omega)]
    have e : (numsC c ++ more).drop 10 = flatP (pr c.h 65) ++ more := rfl
    rw [e, List.take_left' (flatP_len _)]
  obtain ⟨last, hF⟩ := foldT_pr65 c.h
  unfold takeC
  rw [if_pos hs, hn, flatP_inj _ _ hf, hF, hd]
  simp only
  congr 2
  unfold baseC
  rw [hg 0 (by omega), hg 1 (by omega), hg 2 (by omega), hg 3 (by omega), hg 4 (by omega), hg 5 (by omega), hg 6 (by omega), hg 7 (by omega), hg 8 (by omega)]
  unfold headC
  simp only [List.getD_cons_zero, List.getD_cons_succ]
  rw [mod_wrap hlo]
/-! ### The document's reading -/
def stepR (h : Fin 65 → Int) (p : Int × Int) : Fin 65 → Int := updF h p.1.toNat p.2
def foldR (ps : List (Int × Int)) : Fin 65 → Int := ps.foldl stepR (fun _ => 0)
theorem foldR_snoc (ps : List (Int × Int)) (p : Int × Int) : foldR (ps ++ [p]) = stepR (foldR ps) p := by unfold foldR; rw [List.foldl_append]; rfl
def okP (p : Int × Int) : Prop := 0 ≤ p.1 ∧ p.1 ≤ 64
theorem foldT_R (ps : List (Int × Int)) : ∀ last h, foldT ps = some (last, h) → (∀ p ∈ ps, okP p) ∧ h = foldR ps := by
  refine snoc_ind (p := fun ps => ∀ last h, foldT ps = some (last, h) → (∀ p ∈ ps, okP p) ∧ h = foldR ps) ?_ ?_ ps
  · intro last h e
    unfold foldT at e
    simp only [List.foldl_nil, Option.some.injEq, Prod.mk.injEq] at e
    obtain ⟨rfl, rfl⟩ := e
    exact ⟨fun p hp => (by cases hp), rfl⟩
  · intro ps p ih last h e
    have e0 := e
    rw [foldT_snoc] at e
    cases hf : foldT ps with
    | none => rw [hf] at e; simp [stepT] at e
    | some s =>
      obtain ⟨l0, h0⟩ := s
      obtain ⟨i1, _⟩ := foldT_pr ps l0 h0 hf
      rw [hf] at e
      obtain ⟨j1, rfl⟩ := ih l0 h0 hf
      rw [stepT_some] at e
      split at e
      · cases e
      · rename_i hc
        have e2 := Option.some.inj e
        obtain rfl := (congrArg Prod.fst e2)
        obtain rfl := (congrArg Prod.snd e2)
        have c1 : ¬ p.1 ≤ l0 := fun z => hc (.inl z)
        have c2 : ¬ 64 < p.1 := fun z => hc (.inr (.inl z))
        refine ⟨fun q hq => ?_, by rw [foldR_snoc]; rfl⟩
        rcases List.mem_append.1 hq with hq | hq
        · exact j1 q hq
        · rw [List.mem_singleton.1 hq]
          exact ⟨by omega, by omega⟩
open Classical in
/-- The document's cell: read, and written again. -/
noncomputable def rtakeC (l : List Int) : Option (CL × Nat) :=
  if shapeC l then (if (∀ p ∈ prsOf l (nC l), okP p) ∧ numsC (baseC l (foldR (prsOf l (nC l)))) = l.take (10 + 2 * nC l) then some (baseC l (foldR (prsOf l (nC l))), 10 + 2 * nC l) else none) else none
theorem rtake_take {l : List Int} (h2 : 10 ≤ l.length → I64 (l.getD 2 0)) : (takeC l = none → rtakeC l = none) ∧ ∀ c r, takeC l = some (c, r) → rtakeC l = some (c, 10 + 2 * nC l) := by
  constructor
  · intro h
    unfold takeC at h
    unfold rtakeC
    split at h
    · rename_i hs
      rw [if_pos hs]
      obtain ⟨s1, s2, s3, s4⟩ := shape_spec hs
      split at h
      · rename_i hf
        refine if_neg ?_
        rintro ⟨_, h4⟩
        have h5 : flatP (pr (foldR (prsOf l (nC l))) 65) = flatP (prsOf l (nC l)) := by
          have h6 := congrArg (List.drop 10) h4
          rw [flat_prs l _ s4]
          have h8 : (l.take (10 + 2 * nC l)).drop 10 = (l.drop 10).take (2 * nC l) := by rw [List.drop_take]; congr 1; omega
          rw [← h8, ← h6]
          rfl
        obtain ⟨last, h7⟩ := foldT_pr65 (foldR (prsOf l (nC l)))
        rw [flatP_inj _ _ h5, hf] at h7
        cases h7
      · cases h
    · rename_i hs
      rw [if_neg hs]
  · intro c r h
    obtain ⟨_, e1, _, hs⟩ := takeC_nums h (h2 (by
      unfold takeC at h
      split at h
      · rename_i hs; exact (shape_spec hs).1
      · cases h))
    unfold takeC at h
    rw [if_pos hs] at h
    unfold rtakeC
    rw [if_pos hs]
    split at h
    · cases h
    · rename_i last hh hf
      simp only [Option.some.injEq, Prod.mk.injEq] at h
      obtain ⟨rfl, rfl⟩ := h
      obtain ⟨j1, rfl⟩ := foldT_R _ last hh hf
      rw [if_pos ⟨j1, e1⟩]
end Go.Proofs.Ytheaipbnbnjlgaa.Ce
