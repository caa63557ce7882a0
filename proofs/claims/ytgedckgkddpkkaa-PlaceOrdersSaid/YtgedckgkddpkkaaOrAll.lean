/- PlaceOrders answers true at every input of 64 bits. -/
import Derived.Test.YtgedckgkddpkkaaOrWalk
import Derived.Test.YtgedckgkddpkkaaOrPure
namespace Go.Proofs.Ytgedckgkddpkkaa.PPlaceOrders
open Go.RowKit Go.Proofs.Ytgedckgkddpkkaa.Flow
theorem orders_all (p0 p1 a0 a1 b0 b1 : Int) (w : World) (h0 : -9223372036854775808 ≤ p0 ∧ p0 ≤ 9223372036854775807) (h1 : -9223372036854775808 ≤ p1 ∧ p1 ≤ 9223372036854775807) :
    Calls Try.prog 6 #[.agg #[.int .i64 p0, .int .i64 p1], .agg #[.int .i64 a0, .int .i64 a1], .agg #[.int .i64 b0, .int .i64 b1]] w fun e w' => e = .returned (.bool true) ∧ Below w.heap.size w w' :=
  orders_calls p0 p1 a0 a1 b0 b1 (nxt p0 p1).1 (nxt p0 p1).2.1 (nxt p0 p1).2.2 (lexLt p0 p1 a0 a1) (lexLt p0 p1 b0 b1) (lexLt a0 a1 b0 b1) _ alive_true (after_nxt p0 p1 h0 h1) (refafter_nxt p0 p1 h0 h1)
    (less_lex _ _ _ _) (refless_lex _ _ _ _) (refless_lex _ _ _ _) (refless_lex _ _ _ _) (within_lex _ _ _ _ _ _) rfl rfl rfl w
end Go.Proofs.Ytgedckgkddpkkaa.PPlaceOrders
