/- A plain tape (nothing armed, the power there): what its methods come to. -/
import Derived.Test.YtpbpeklbmmbigaaTpOps5
import Derived.Test.YtpbpeklbmmbigaaFlowI
namespace Go.Proofs.Ytpbpeklbmmbigaa.Tp
open Go.RowKit Go.Proofs.YtpbpeklbmmbigaaW.PrintWords Go.Proofs.YtpbpeklbmmbigaaW.PrintLast Go.Proofs.YtpbpeklbmmbigaaW.PrintMore
open Go.Proofs.Ytpbpeklbmmbigaa.Flow
set_option linter.unusedVariables false
set_option linter.unusedSimpArgs false
def pl (xs : List Int) (sure steps : Int) : TS := ⟨xs, sure, steps, false, 0, false, 0, false⟩
theorem pl_start : TS.start = pl [] 0 0 := rfl
theorem pl_ok {xs : List Int} {sure steps : Int} (h1 : 0 ≤ steps ∧ steps ≤ 1000000000) (h2 : 0 ≤ sure ∧ sure ≤ xs.length) (h3 : xs.length ≤ 1048576) : (pl xs sure steps).Ok :=
  ⟨h1, by simp [pl], by simp [pl], h2, h3⟩
theorem Own.keptC {S : Nat → Prop} {k : IntKind} {e : TypeId} {w : World} {base b : Nat} {A : Option Addr} {n c : Nat} {xs : List Int} (h : Own k e w base b A n c xs) (hb : ∀ q, b ≤ q → ¬ S q) : ∀ W_, Kept w W_ S → (Kd.int k).C W_ A xs.length xs := fun W_ hk =>
  (Kd.R_reads' (Kd.R_kept h hk hb)).2.2
section
variable {S : Nat → Prop} {k : IntKind} {e t : TypeId} {w : World} {g : Nat} {A1 A2 : Option Addr} {c1 c2 : Nat} {x1 x2 : List Int}
theorem rowsK1 (hb : Blk w g t #[.slice A1 x1.length c1]) (hS : ¬ S g) (h1 : x1.length ≤ c1) (f1 : ∀ W_, Kept w W_ S → (Kd.int k).C W_ A1 x1.length x1) : ∀ W_, Kept w W_ S → (Kd.slice e (Kd.int k)).C W_ (some ⟨g, 0, none⟩) [x1].length [x1] := fun W_ hk => rows1 (hb.kept hk hS) h1 (f1 W_ hk)
theorem rowsK2 (hb : Blk w g t #[.slice A1 x1.length c1, .slice A2 x2.length c2]) (hS : ¬ S g) (h1 : x1.length ≤ c1) (f1 : ∀ W_, Kept w W_ S → (Kd.int k).C W_ A1 x1.length x1) (h2 : x2.length ≤ c2) (f2 : ∀ W_, Kept w W_ S → (Kd.int k).C W_ A2 x2.length x2) : ∀ W_, Kept w W_ S → (Kd.slice e (Kd.int k)).C W_ (some ⟨g, 0, none⟩) [x1, x2].length [x1, x2] := fun W_ hk => rows2 (hb.kept hk hS) h1 (f1 W_ hk) h2 (f2 W_ hk)
end
section
variable (w0 w : World) (g m : Nat) (xs : List Int) (sure steps : Int) (hT : TapeAt w0 w g m (pl xs sure steps)) (h1 : 0 ≤ steps ∧ steps ≤ 1000000000) (h2 : 0 ≤ sure ∧ sure ≤ xs.length) (h3 : xs.length ≤ 1048576)
include hT h1 h2 h3
theorem append_pl (P0 : Option Addr) (ps : List (List Int)) (pc : Nat) (hP : ∀ W_, Kept w W_ (fun k => g ≤ k ∧ k < m) → (Kd.slice 5 (Kd.int .u8)).C W_ P0 ps.length ps) (hn : ps.length ≤ 1000000) (hall : ∀ p ∈ ps, p.length ≤ 140737488355328) (hl : xs.length + ps.flatten.length ≤ 1048576) :
    Calls Try.prog 12 #[.pointer (some ⟨g, 0, none⟩), .slice P0 ps.length pc] w fun e w' => e = .returned (errT none) ∧ TapeAt w0 w' g w'.heap.size (pl (xs ++ ps.flatten) sure (steps + 1)) ∧ w.heap.size ≤ w'.heap.size := by
  have h := append_T w0 w g m _ hT (pl_ok h1 h2 h3) P0 ps pc hP hn hall
  have e1 : (pl xs sure steps).appE ps.flatten = none := by
    unfold TS.appE
    rw [if_neg (by simp only [pl]; omega)]
    rfl
  have e2 : (pl xs sure steps).app ps.flatten = pl (xs ++ ps.flatten) sure (steps + 1) := by
    unfold TS.app
    rw [if_neg (by simp only [pl]; omega)]
    rfl
  rw [e1, e2] at h
  exact h
theorem sync_pl : Calls Try.prog 13 #[.pointer (some ⟨g, 0, none⟩)] w fun e w' => e = .returned (errT none) ∧ TapeAt w0 w' g w'.heap.size (pl xs (xs.length : Int) (steps + 1)) ∧ w.heap.size ≤ w'.heap.size := sync_T w0 w g m _ hT (pl_ok h1 h2 h3)
theorem crash_pl (k : Int) (ys : List Int) (hy : xs.take (sure + min (max k 0) ((xs.length : Int) - sure)).toNat = ys) : Calls Try.prog 14 #[.pointer (some ⟨g, 0, none⟩), .int .i64 k] w fun e w' => e = .returned (.tuple #[]) ∧ TapeAt w0 w' g w'.heap.size (pl ys (ys.length : Int) steps) ∧ w.heap.size ≤ w'.heap.size := by
  obtain ⟨hB, hg0, hm, A, n, c, hb, hR⟩ := hT
  have h := crash_raw w0 w g m _ A n c hB hg0 hm hb hR (pl_ok h1 h2 h3) k
  subst hy
  exact h
theorem read_pl : Calls Try.prog 15 #[.pointer (some ⟨g, 0, none⟩)] w fun e w' => ∃ A' n' c', e = .returned (.slice A' n' c') ∧ Own .u8 5 w' w.heap.size w.heap.size A' n' c' xs ∧ Below w.heap.size w w' := read_T w0 w g m _ hT (pl_ok h1 h2 h3)
theorem sure_pl : Calls Try.prog 16 #[.pointer (some ⟨g, 0, none⟩)] w fun e w' => e = .returned (.int .i64 sure) ∧ w = w' := sure_T w0 w g m _ hT (pl_ok h1 h2 h3)
theorem steps_pl : Calls Try.prog 19 #[.pointer (some ⟨g, 0, none⟩)] w fun e w' => e = .returned (.int .i64 steps) ∧ w = w' := steps_T w0 w g m _ hT (pl_ok h1 h2 h3)
end
theorem guard_err_eq0 (t : Nat) (o : Option Int) (w : World) : (do eqGuard .eql 29 (.tmp t) (.const .nilIface) (errT o) .nilIface; binOp .eql 29 (errT o) .nilIface : Sem Value).run Try.prog w = .ok (.bool o.isNone) w := by
  cases o with
  | none =>
    have h : (binOp .eql 29 .nilIface .nilIface).run Try.prog w = .ok (.bool true) w := by kernel_rfl
    simpa [eqGuard, errT] using h
  | some c =>
    have h : (binOp .eql 29 (.iface 38 (.int .i64 c)) .nilIface).run Try.prog w = .ok (.bool false) w := by kernel_rfl
    simpa [eqGuard, errT] using h
/-- A block whose cells are known, marked or not. -/
def FB (w : World) (g : Nat) (t : TypeId) (cs : Array Value) : Prop := ∃ q, w.heap[g]? = some (.cells cs t q)
theorem FB.lt {w : World} {g : Nat} {t : TypeId} {cs : Array Value} (h : FB w g t cs) : g < w.heap.size := by
  obtain ⟨q, h⟩ := h
  rcases Nat.lt_or_ge g w.heap.size with hlt | hge
  · exact hlt
  · rw [Array.getElem?_eq_none hge] at h
    cases h
theorem FB.on {w w' : World} {g : Nat} {t : TypeId} {cs : Array Value} (h : FB w g t cs) (hb : Below w.heap.size w w') : FB w' g t cs := by
  have hl := h.lt
  obtain ⟨q, h⟩ := h
  exact ⟨q, (hb.block g hl).trans h⟩
theorem FB.keep {w w' : World} {g g2 : Nat} {t : TypeId} {cs : Array Value} (h : FB w g t cs) (hk : Keep g2 w w') (hne : g ≠ g2) : FB w' g t cs := by
  obtain ⟨q, h⟩ := h
  exact ⟨q, (hk.block g hne).trans h⟩
theorem FB.C {k : IntKind} {w : World} {g : Nat} {t : TypeId} {cs : Array Value} {xs : List Int} (h : FB w g t cs) (hN : Nums k cs xs) (hm : xs.length ≤ 9223372036854775807) : (Kd.int k).C w (some ⟨g, 0, none⟩) xs.length xs := by
  obtain ⟨q, h⟩ := h
  refine ⟨rfl, hm, fun hn => ⟨_, rfl, fun j p hj => ⟨[.int k p], rfl, rfl, fun i u hu => ?_⟩⟩⟩
  obtain ⟨hl, hp⟩ := List.getElem?_eq_some_iff.1 hj
  have h2 := hN j hl
  rcases i with _ | i
  · have hu' : u = .int k p := by simpa using hu.symm
    subst hu'
    have e : (⟨g, 0, none⟩ : Addr).add (j * 1 + 0) = ⟨g, j, none⟩ := by rw [add_plain]; simp
    show w.cell? ((⟨g, 0, none⟩ : Addr).add (j * 1 + 0)) = _
    rw [e]
    have e2 : w.cell? ⟨g, j, none⟩ = cs[j]? := by simp [World.cell?, h]
    rw [e2, h2]
    simp [List.getD_eq_getElem?_getD, hj]
  · simp at hu
theorem FB.K {S : Nat → Prop} {k : IntKind} {w : World} {g : Nat} {t : TypeId} {cs : Array Value} {xs : List Int} (h : FB w g t cs) (hN : Nums k cs xs) (hm : xs.length ≤ 9223372036854775807) (hS : ¬ S g) : ∀ W_, Kept w W_ S → (Kd.int k).C W_ (some ⟨g, 0, none⟩) xs.length xs := fun W_ hk => by
  have hl := h.lt
  obtain ⟨q, h⟩ := h
  exact FB.C ⟨q, (hk.2 g hl hS).trans h⟩ hN hm
theorem conv_same {w : World} {g : Nat} {cs : Array Value} (hb : Blk w g 5 cs) (n c : Nat) : ∃ w', (convert 27 27 (.slice (some ⟨g, 0, none⟩) n c)).run Try.prog w = .ok (.slice (some ⟨g, 0, none⟩) n c) w' ∧ Keep g w w' ∧ FB w' g 5 cs := by
  have hb' : w.heap[g]? = some (.cells cs 5 (0, 0)) := hb
  have hsh : w.shape? g = some (5, cs.size) := by simp [World.shape?, hb']
  refine ⟨w.freeze ⟨g, cs.size, none⟩ 1, ?_, ?_, ?_⟩
  · simp [convert, run_underlying Try.underlying27, run_underlying Try.underlying5, markStringish, hsh, Result.andThen]
  · refine ⟨rfl, rfl, rfl, by simp [World.freeze], fun k hk => ?_⟩
    simp [World.freeze, Array.getElem?_modify, Ne.symm hk]
  · refine ⟨(cs.size, cs.size + 1), ?_⟩
    simp [World.freeze, Array.getElem?_modify, hb']
end Go.Proofs.Ytpbpeklbmmbigaa.Tp
