/- A full tape: what its methods refuse; made rows. -/
import Derived.Test.YtpbpeklbmmbigaaTpAlive
namespace Go.Proofs.Ytpbpeklbmmbigaa.Tp
open Go.RowKit Go.Proofs.YtpbpeklbmmbigaaW.PrintWords Go.Proofs.YtpbpeklbmmbigaaW.PrintLast Go.Proofs.YtpbpeklbmmbigaaW.PrintMore
open Go.Proofs.Ytpbpeklbmmbigaa.Flow
set_option linter.unusedVariables false
set_option linter.unusedSimpArgs false
theorem make_run (w : World) (l : Int) (n : Nat) (hl : l = (n : Int)) (hn : n ≤ 16777216) : (Instr.makeSlice 27 (.int .i64 l) (.int .i64 l)).run Try.prog w = .ok (.slice (some ⟨w.heap.size, 0, none⟩) n n) (w.alloc (.cells (madeCells #[Value.int .u8 0] n) 5)) := by
  subst hl
  obtain ⟨i5, hi5, hz5⟩ := Option.map_eq_some_iff.1 info5
  simp only [Prod.mk.injEq] at hz5
  have h := run_makeSlice (P := Try.prog) w 27 5 i5 (.int .u8 0) (by kernel_rfl) hi5 hz5.1 .i64 .i64 (n : Int) (n : Int) (by omega) (by omega) (by rw [hz5.2.1]; omega) (by rw [hz5.2.2]; omega) (by omega)
  simp only [Int.toNat_natCast, hz5.2.1, Nat.mul_one] at h
  exact h
theorem zeros (n : Nat) : ∃ zs : List Int, zs.length = n ∧ Nums .u8 (madeCells #[Value.int .u8 0] n) zs := by
  refine ⟨List.replicate n 0, by simp, fun j hj => ?_⟩
  have hj' : j < n := by simpa using hj
  rw [← Array.getElem?_toList, toList_madeCells_one]
  simp [List.getElem?_replicate, hj', List.getD_eq_getElem?_getD]
section
variable (w0 w : World) (g m : Nat) (xs : List Int) (sure steps : Int) (hT : TapeAt w0 w g m (pl xs sure steps)) (h1 : 0 ≤ steps ∧ steps ≤ 1000000000) (h2 : 0 ≤ sure ∧ sure ≤ xs.length) (h3 : xs.length ≤ 1048576)
include hT h1 h2 h3
theorem append_full (P0 : Option Addr) (ps : List (List Int)) (pc : Nat) (hP : ∀ W_, Kept w W_ (fun k => g ≤ k ∧ k < m) → (Kd.slice 5 (Kd.int .u8)).C W_ P0 ps.length ps) (hn : ps.length ≤ 1000000) (hall : ∀ p ∈ ps, p.length ≤ 140737488355328) (hl : 1048576 < xs.length + ps.flatten.length) :
    Calls Try.prog 12 #[.pointer (some ⟨g, 0, none⟩), .slice P0 ps.length pc] w fun e w' => e = .returned (errT (some 7)) ∧ TapeAt w0 w' g w'.heap.size (pl xs sure steps) ∧ w.heap.size ≤ w'.heap.size := by
  have h := append_T w0 w g m _ hT (pl_ok h1 h2 h3) P0 ps pc hP hn hall
  have e1 : (pl xs sure steps).appE ps.flatten = some 7 := by
    unfold TS.appE
    rw [if_pos (by simp only [pl]; omega)]
  have e2 : (pl xs sure steps).app ps.flatten = pl xs sure steps := by
    unfold TS.app
    rw [if_pos (by simp only [pl]; omega)]
  rw [e1, e2] at h
  exact h
theorem replace_pl (P : Option Addr) (ys : List Int) (pc : Nat) (hP : ∀ W_, Kept w W_ (fun k => k = g) → (Kd.int .u8).C W_ P ys.length ys) (hl : ys.length ≤ 1048576) :
    Calls Try.prog 18 #[.pointer (some ⟨g, 0, none⟩), .slice P ys.length pc] w fun e w' => e = .returned (errT none) ∧ TapeAt w0 w' g w'.heap.size (pl ys (ys.length : Int) (steps + 1)) ∧ w.heap.size ≤ w'.heap.size := by
  have h := replace_T w0 w g m _ hT (pl_ok h1 h2 h3) P ys pc hP
  have e1 : (pl xs sure steps).repE ys = none := by
    unfold TS.repE
    rw [if_neg (by omega)]
    rfl
  have e2 : (pl xs sure steps).rep ys = pl ys (ys.length : Int) (steps + 1) := by
    unfold TS.rep
    rw [if_neg (by omega)]
    rfl
  rw [e1, e2] at h
  exact h
theorem replace_full (P : Option Addr) (ys : List Int) (pc : Nat) (hP : ∀ W_, Kept w W_ (fun k => k = g) → (Kd.int .u8).C W_ P ys.length ys) (hl : 1048576 < ys.length) :
    Calls Try.prog 18 #[.pointer (some ⟨g, 0, none⟩), .slice P ys.length pc] w fun e w' => e = .returned (errT (some 7)) ∧ TapeAt w0 w' g w'.heap.size (pl xs sure steps) ∧ w.heap.size ≤ w'.heap.size := by
  have h := replace_T w0 w g m _ hT (pl_ok h1 h2 h3) P ys pc hP
  have e1 : (pl xs sure steps).repE ys = some 7 := by
    unfold TS.repE
    rw [if_pos (by omega)]
  have e2 : (pl xs sure steps).rep ys = pl xs sure steps := by
    unfold TS.rep
    rw [if_pos (by omega)]
  rw [e1, e2] at h
  exact h
end
end Go.Proofs.Ytpbpeklbmmbigaa.Tp
