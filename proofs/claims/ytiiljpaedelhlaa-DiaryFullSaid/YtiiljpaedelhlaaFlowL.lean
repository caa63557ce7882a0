/- Flow, twelfth part: parts of rows. Own work; plain theorems. -/
import Derived.Test.YtiiljpaedelhlaaFlowJ
namespace Go.Proofs.Ytiiljpaedelhlaa.Flow
open Go.RowKit Go.Proofs.YtiiljpaedelhlaaW.PrintWords Go.Proofs.YtiiljpaedelhlaaW.PrintLast Go.Proofs.YtiiljpaedelhlaaW.PrintMore
set_option linter.unusedVariables false
set_option linter.unusedSimpArgs false
/-- The address of a row's part. -/
def adr (A : Option Addr) (c lo : Nat) : Option Addr := if c = lo then A else A.map (·.add (lo * 1))
section
variable {P : Program} {t e : TypeId} {A : Option Addr} {n c : Nat} {xs : List Int}
theorem run_to (hu : P.underlying t = some (.slice e)) (hz : ∀ w, (sizeOf e).run P w = .ok 1 w) (hi : Nat) (y : Int) (hy : y = (hi : Int)) (hn : n = xs.length) (h2 : hi ≤ xs.length) (hc : n ≤ c) (w : World) :
    (Instr.sliceAt t (.slice A n c) none (some (.int .i64 y)) none).run P w = .ok (.slice A (xs.take hi).length c) w := by
  subst hy hn
  have hl : (xs.take hi).length = hi := by rw [List.length_take]; omega
  have h3 : hi ≤ c := by omega
  rw [hl]
  simp [go_sem, hu, hz, h3]
theorem run_mid (hu : P.underlying t = some (.slice e)) (hz : ∀ w, (sizeOf e).run P w = .ok 1 w) (lo hi : Nat) (x y : Int) (hx : x = (lo : Int)) (hy : y = (hi : Int)) (hn : n = xs.length) (h1 : lo ≤ hi) (h2 : hi ≤ xs.length) (hc : n ≤ c) (w : World) :
    (Instr.sliceAt t (.slice A n c) (some (.int .i64 x)) (some (.int .i64 y)) none).run P w = .ok (.slice (adr A c lo) ((xs.take hi).drop lo).length (c - lo)) w := by
  subst hx hy hn
  have hl : ((xs.take hi).drop lo).length = hi - lo := by rw [List.length_drop, List.length_take]; omega
  have h3 : hi ≤ c := by omega
  have h4 : ¬ hi < lo := by omega
  rw [hl]
  simp [go_sem, hu, hz, h3, h1, adr, sliced]
  try omega
theorem run_from (hu : P.underlying t = some (.slice e)) (hz : ∀ w, (sizeOf e).run P w = .ok 1 w) (lo : Nat) (x : Int) (hx : x = (lo : Int)) (hn : n = xs.length) (h1 : lo ≤ xs.length) (hc : n ≤ c) (w : World) :
    (Instr.sliceAt t (.slice A n c) (some (.int .i64 x)) none none).run P w = .ok (.slice (adr A c lo) (xs.drop lo).length (c - lo)) w := by
  subst hx hn
  have hl : (xs.drop lo).length = xs.length - lo := List.length_drop
  rw [hl]
  simp [go_sem, hu, hz, h1, hc, adr, sliced]
  try omega
end
section
variable {k : IntKind} {w : World} {A : Option Addr} {n c : Nat} {xs : List Int}
theorem to_C (h : (Kd.int k).C w A xs.length xs) (hi : Nat) (h2 : hi ≤ xs.length) : (Kd.int k).C w A (xs.take hi).length (xs.take hi) := Kd.C_take h h2
theorem mid_C (h : (Kd.int k).C w A xs.length xs) (lo hi : Nat) (h1 : lo ≤ hi) (h2 : hi ≤ xs.length) (hc : xs.length ≤ c) : (Kd.int k).C w (adr A c lo) ((xs.take hi).drop lo).length ((xs.take hi).drop lo) := Kd.C_mid h h1 h2 hc
theorem from_C (h : (Kd.int k).C w A xs.length xs) (lo : Nat) (h1 : lo ≤ xs.length) (hc : xs.length ≤ c) : (Kd.int k).C w (adr A c lo) (xs.drop lo).length (xs.drop lo) := Kd.C_drop h h1 hc
end
end Go.Proofs.Ytiiljpaedelhlaa.Flow
