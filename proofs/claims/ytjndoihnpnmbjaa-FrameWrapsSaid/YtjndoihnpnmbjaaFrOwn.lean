/- What the walks of frames need of rows and bytes (the same facts stand in FramePlain4, 6 and 7, for claims that reach those). -/
import Derived.Test.YtjndoihnpnmbjaaFrPlain8
import Derived.Test.YtjndoihnpnmbjaaFrCopy
namespace Go.Proofs.Ytjndoihnpnmbjaa.PFrameSums
open Go.RowKit Go.Proofs.YtjndoihnpnmbjaaW.PrintWords Go.Proofs.YtjndoihnpnmbjaaW.PrintLast Go.Proofs.YtjndoihnpnmbjaaW.PrintMore
open Go.Proofs.Ytjndoihnpnmbjaa.Flow
set_option linter.unusedVariables false
set_option linter.unusedSimpArgs false
/-- A drawn call's answer that is a row of the function's own. -/
def OwnSpec (base b : Nat) (xs : List Int) : Flow.Spec where
  s := fun v w => ∃ A n c, v = .slice A n c ∧ Own .u8 5 w base b A n c xs
  pl := fun v => ∃ A n c, v = .slice A n c
  stab := fun v w w' hb ⟨A, n, c, h1, h2⟩ => ⟨A, n, c, h1, h2.on hb⟩
  imp := fun v w ⟨A, n, c, h1, _⟩ => ⟨A, n, c, h1⟩
  inh := ⟨.slice none 0 0, none, 0, 0, rfl⟩
theorem ownspec_fact {base b : Nat} {xs : List Int} {A : Option Addr} {n c : Nat} {w : World} (h : (OwnSpec base b xs).s (.slice A n c) w) : Own .u8 5 w base b A n c xs := by
  obtain ⟨A', n', c', he, h2⟩ := h
  injection he with h3 h4 h5
  subst h3 h4 h5
  exact h2
theorem own_front {k : IntKind} {e : TypeId} {w : World} {base b : Nat} {A : Option Addr} {n c : Nat} {xs ys : List Int} (h : Own k e w base b A n c (xs ++ ys)) : (Kd.int k).C w A xs.length xs := by
  have h1 := Kd.C_take (m := xs.length) (Own.C h) (by simp)
  simpa using h1
theorem own_head {k : IntKind} {e : TypeId} {w : World} {base b : Nat} {A : Option Addr} {n c : Nat} {xs ys : List Int} (h : Own k e w base b A n c (xs ++ ys)) : Own k e w base b A xs.length c xs := by
  have h1 : Own k e w base b A xs.length c ((xs ++ ys).take xs.length) := R_take h xs.length (by simp)
  simpa using h1
theorem rd_range {b : List Int} (hb : Bytes b) (i : Nat) (h : i < b.length) : 0 ≤ rd b (i : Int) ∧ rd b (i : Int) < 256 := by
  rw [rd_at b i h]
  exact hb _ (List.getElem_mem h)
theorem str_inj : ∀ (a b : List Int), Bytes a → Bytes b → (a.map fun n => UInt8.ofNat n.toNat) = (b.map fun n => UInt8.ofNat n.toNat) → a = b
  | [], [], _, _, _ => rfl
  | [], y :: b, _, _, h => by simp at h
  | x :: a, [], _, _, h => by simp at h
  | x :: a, y :: b, ha, hb, h => by
    simp only [List.map_cons, List.cons.injEq] at h
    have h1 := ha x (by simp)
    have h2 := hb y (by simp)
    have h3 := congrArg UInt8.toNat h.1
    simp at h3
    have h4 : x = y := by omega
    rw [h4, str_inj a b ha.tail hb.tail h.2]
theorem str_iff {a b : List Int} (ha : Bytes a) (hb : Bytes b) : (strOfNums a).toList = (strOfNums b).toList ↔ a = b := by
  constructor
  · intro h
    have h1 := toList_inj h
    have h2 : (strOfNums a).data.toList = (strOfNums b).data.toList := by rw [h1]
    rw [strOfNums_data, strOfNums_data] at h2
    exact str_inj a b ha hb h2
  · intro h
    rw [h]
end Go.Proofs.Ytjndoihnpnmbjaa.PFrameSums
