/- What is covered stays covered when places rise: plain; two rows of one's own side by side. -/
import Derived.Test.YtgedckgkddpkkaaPcCov
import Derived.Test.YtgedckgkddpkkaaFlowU
namespace Go.Proofs.Ytgedckgkddpkkaa.PPlaceCells
open Go.RowKit Go.Proofs.YtgedckgkddpkkaaW.PrintWords Go.Proofs.YtgedckgkddpkkaaW.PrintLast Go.Proofs.YtgedckgkddpkkaaW.PrintMore
open Go.Proofs.Ytgedckgkddpkkaa.Flow
set_option linter.unusedVariables false
set_option linter.unusedSimpArgs false
theorem k29_flat {w : World} {base : Nat} {ok1 ok2 : Nat → Prop} {x : S29} {cs : List Value} (h : k29.M w base ok1 x cs) : k29.M w base ok2 x cs := by
  obtain rfl := k29_openM h
  exact k29_mkM _ _ _ _
/-- Another row's block is turned: this row is as it was. -/
theorem kept29 {e : TypeId} {w w' : World} {base b : Nat} {A A2 : Option Addr} {n c n2 c2 : Nat} {xs : List S29} (h : OwnK k29 e w base b A n c xs) (hap : ∀ q, (Value.slice A n c).ownBlock = some q → (Value.slice A2 n2 c2).ownBlock ≠ some q)
    (hG : w.grownBy w' (Value.slice A2 n2 c2).ownBlock) : OwnK k29 e w' base b A n c xs := by
  have h0 : k29.R e w base (fun q => b ≤ q ∧ (Value.slice A2 n2 c2).ownBlock ≠ some q) (.slice A n c) xs := Kd.R_flat k29_flat h (fun q hq hb => ⟨hb, hap q hq⟩)
  exact Kd.R_mono (Kd.R_grown h0 hG (fun q hq he => hq.2 he.symm)) (fun q hq => hq.1)
/-- One row stood when the other's block was laid. -/
theorem apart29 {e : TypeId} {w w2 : World} {base b base2 : Nat} {A A2 : Option Addr} {n c n2 c2 : Nat} {xs ys : List S29} (h : OwnK k29 e w base b A n c xs) (h2 : OwnK k29 e w2 base2 w.heap.size A2 n2 c2 ys) :
    ∀ q, (Value.slice A n c).ownBlock = some q → (Value.slice A2 n2 c2).ownBlock ≠ some q := fun q h1 h3 => by
  have k1 := (Kd.R_bound h).1 q h1
  have k2 := h2.blk_ge h3
  omega
theorem apart29' {A A2 : Option Addr} {n c n2 c2 : Nat} (h : ∀ q, (Value.slice A n c).ownBlock = some q → (Value.slice A2 n2 c2).ownBlock ≠ some q) : ∀ q, (Value.slice A2 n2 c2).ownBlock = some q → (Value.slice A n c).ownBlock ≠ some q := fun q h1 h2 => h q h2 h1
def In29 (p : S29) : Prop := (-9223372036854775808 ≤ p.f0 ∧ p.f0 ≤ 9223372036854775807) ∧ -9223372036854775808 ≤ p.f1 ∧ p.f1 ≤ 9223372036854775807
def Up (a b : S29) : Prop := ∀ x y, lexLt x y a.f0 a.f1 = true → lexLt x y b.f0 b.f1 = true
def nxtS (p : S29) : S29 := if p.f1 < 9223372036854775807 then ⟨p.f0, p.f1 + 1⟩ else if p.f0 < 9223372036854775807 then ⟨p.f0 + 1, -9223372036854775808⟩ else p
theorem Up.refl (a : S29) : Up a a := fun _ _ h => h
theorem Up.trans {a b c : S29} (h : Up a b) (k : Up b c) : Up a c := fun x y q => k x y (h x y q)
theorem nxtS_up (p : S29) : Up p (nxtS p) := fun x y h => by
  unfold nxtS
  unfold lexLt at *
  have h' := of_decide_eq_true h
  split
  · exact decide_eq_true (by show x < p.f0 ∨ x = p.f0 ∧ y < p.f1 + 1; omega)
  · split
    · exact decide_eq_true (by show x < p.f0 + 1 ∨ x = p.f0 + 1 ∧ y < -9223372036854775808; omega)
    · exact h
theorem nxtS_in {p : S29} (h : In29 p) : In29 (nxtS p) := by
  unfold In29 at *
  unfold nxtS
  split
  · exact ⟨h.1, by show _ ≤ p.f1 + 1; omega, by show p.f1 + 1 ≤ _; omega⟩
  · split
    · exact ⟨⟨by show _ ≤ p.f0 + 1; omega, by show p.f0 + 1 ≤ _; omega⟩, by show (-9223372036854775808 : Int) ≤ -9223372036854775808; omega, by show (-9223372036854775808 : Int) ≤ 9223372036854775807; omega⟩
    · exact h
abbrev leastS : S29 := ⟨-9223372036854775808, -9223372036854775808⟩
/-- The higher places: as many, each as high at least, in range. -/
def Rise (ps hs : List S29) : Prop := hs.length = ps.length ∧ (∀ i, Up (ps.getD i z29) (hs.getD i z29)) ∧ ∀ p ∈ hs, In29 p
theorem Rise.refl {ps : List S29} (h : ∀ p ∈ ps, In29 p) : Rise ps ps := ⟨rfl, fun _ => Up.refl _, h⟩
theorem getD_mem29 (l : List S29) (j : Nat) (h : j < l.length) : l.getD j z29 ∈ l := by
  rw [List.getD_eq_getElem?_getD, List.getElem?_eq_getElem h]
  exact List.getElem_mem _
theorem getD_set29 (l : List S29) (j i : Nat) (x : S29) (h : j < l.length) : (l.set j x).getD i z29 = if i = j then x else l.getD i z29 := by
  rw [List.getD_eq_getElem?_getD, List.getElem?_set, List.getD_eq_getElem?_getD]
  by_cases hij : j = i
  · subst hij
    simp [h]
  · rw [if_neg hij, if_neg (fun e => hij e.symm)]
theorem Rise.step {ps hs : List S29} (h : Rise ps hs) {j : Nat} (hj : j < hs.length) : Rise ps (hs.set j (nxtS (hs.getD j z29))) := by
  refine ⟨by rw [List.length_set]; exact h.1, fun i => ?_, fun p hp => ?_⟩
  · rw [getD_set29 _ _ _ _ hj]
    split
    · next e => subst e; exact (h.2.1 i).trans (nxtS_up _)
    · exact h.2.1 i
  · rcases List.mem_or_eq_of_mem_set hp with h1 | h1
    · exact h.2.2 p h1
    · subst h1
      exact nxtS_in (h.2.2 _ (getD_mem29 hs j hj))
/-- The least places so far. -/
def Lows (n j : Nat) (ls : List S29) : Prop := ls.length = n ∧ ∀ i, i < j → ls.getD i z29 = leastS
theorem Lows.step {n j : Nat} {ls : List S29} (h : Lows n j ls) (hj : j < n) : Lows n (j + 1) (ls.set j leastS) := by
  refine ⟨by rw [List.length_set]; exact h.1, fun i hi => ?_⟩
  rw [getD_set29 _ _ _ _ (by rw [h.1]; exact hj)]
  split
  · rfl
  · exact h.2 i (by omega)
theorem covers_up {ps hs : List S29} (h : Rise ps hs) {ids : List S31} (hc : coversP ps ids = true) : coversP hs ids = true := by
  unfold coversP at *
  rw [Bool.and_eq_true] at *
  refine ⟨hc.1, List.all_eq_true.2 fun x hx => ?_⟩
  have h1 := List.all_eq_true.1 hc.2 x hx
  unfold okId at *
  rw [Bool.and_eq_true] at *
  rw [h.1]
  exact ⟨h1.1, h.2.1 _ _ _ h1.2⟩
theorem mem_ids (t key sh : Int) : ∀ (rs : List Int) (i : Nat) (x : S31), x ∈ idsFrom t key sh i rs → ∃ r, x.f1 = ⟨divZ t r, key⟩
  | [], _, _, h => by cases h
  | r :: rs, i, x, h => by
    rcases List.mem_cons.1 h with rfl | h
    · exact ⟨r, rfl⟩
    · exact mem_ids t key sh rs _ x h
theorem covers_least {n : Nat} {ls : List S29} (h : Lows n n ls) (t key sh : Int) (ht : -9223372036854775808 ≤ t ∧ t ≤ 9223372036854775807) (hk : -9223372036854775808 ≤ key) (rs : List Int) : coversP ls (idsFrom t key sh 0 rs) = false := by
  unfold coversP
  cases e : idsFrom t key sh 0 rs with
  | nil => rfl
  | cons x l =>
    have hx : x ∈ idsFrom t key sh 0 rs := by rw [e]; exact List.mem_cons_self
    obtain ⟨r, hr⟩ := mem_ids t key sh rs 0 x hx
    have hd : -9223372036854775808 ≤ divZ t r := by
      unfold divZ
      split
      · omega
      · exact (ediv_range t r (by omega) ht.1 ht.2).1
    have hno : okId ls x = false := by
      unfold okId
      by_cases h0 : 0 ≤ x.f0
      · by_cases h1 : x.f0 < (ls.length : Int)
        · rw [h.2 x.f0.toNat (by rw [h.1] at h1; omega), hr]
          have : lexLt (divZ t r) key leastS.f0 leastS.f1 = false := by
            unfold lexLt
            exact decide_eq_false (by show ¬ (divZ t r < -9223372036854775808 ∨ divZ t r = -9223372036854775808 ∧ key < -9223372036854775808); omega)
          show (_ && lexLt (divZ t r) key leastS.f0 leastS.f1) = false
          rw [this, Bool.and_false]
        · rw [decide_eq_false h1]; simp
      · rw [decide_eq_false h0]; simp
    rw [List.all_cons, hno]
    simp
theorem covers_none (hs : List S29) : coversP hs [] = false := rfl
theorem rem3 (x : Int) : ∃ q : Nat, (q : Int) = (IntKind.u64.wrap x).tmod 3 ∧ q < 3 := by
  have h0 : 0 ≤ IntKind.u64.wrap x := by simp [IntKind.wrap, IntKind.bits, IntKind.signed]; omega
  rw [Int.tmod_eq_emod_of_nonneg h0]
  exact ⟨(IntKind.u64.wrap x % 3).toNat, by omega, by omega⟩
end Go.Proofs.Ytgedckgkddpkkaa.PPlaceCells
