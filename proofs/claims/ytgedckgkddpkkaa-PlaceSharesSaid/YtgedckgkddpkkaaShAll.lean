/- PlaceShares answers true at every input of 64 bits. -/
import Derived.Test.YtgedckgkddpkkaaShWalk
import Derived.Test.YtgedckgkddpkkaaShPure
namespace Go.Proofs.Ytgedckgkddpkkaa.PPlaceShares
open Go.RowKit Go.Proofs.Ytgedckgkddpkkaa.Flow
theorem shares_all (a0 a1 a2 a3 a4 b0 b1 b2 b3 b4 r : Int) (w : World) (ha2 : -9223372036854775808 ≤ a2 ∧ a2 ≤ 9223372036854775807) (ha3 : -9223372036854775808 ≤ a3 ∧ a3 ≤ 9223372036854775807)
    (hb2 : -9223372036854775808 ≤ b2 ∧ b2 ≤ 9223372036854775807) (hb3 : -9223372036854775808 ≤ b3 ∧ b3 ≤ 9223372036854775807) :
    Calls Try.prog 3 #[.agg #[.int .i64 a0, .int .i64 a1, .int .i64 a2, .int .i64 a3, .int .i64 a4], .agg #[.int .i64 b0, .int .i64 b1, .int .i64 b2, .int .i64 b3, .int .i64 b4], .int .i64 r] w fun e w' => e = .returned (.bool true) ∧ Below w.heap.size w w' := by
  by_cases hr : r < 1
  · exact shares_calls_low _ _ _ _ _ _ _ _ _ _ _ _ alive_true (decide_eq_true hr)
  · refine shares_calls _ _ _ _ _ _ _ _ _ _ _ _ _ _ _ _ alive_true (ids_one a0 a1 a2 a3 a4 r (by omega) ha2.1 ha2.2 ha3.1 ha3.2) (ids_one b0 b1 b2 b3 b4 r (by omega) hb2.1 hb2.2 hb3.1 hb3.2) (decide_eq_false hr) (ref_div a2 r (by omega) ha2.1 ha2.2) (ref_div b2 r (by omega) hb2.1 hb2.2) ?_ ?_ ?_ ?_
    · simp; omega
    · simp; omega
    · intro h
      have : a3 ≠ b3 := by simpa using h
      simp [this]
    · intro h
      have : a3 = b3 := by simpa using h
      subst this
      simp
end Go.Proofs.Ytgedckgkddpkkaa.PPlaceShares
