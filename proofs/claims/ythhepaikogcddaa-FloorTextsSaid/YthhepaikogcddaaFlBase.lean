/- Sums of wide numbers: the walks. -/
import Derived.Test.YthhepaikogcddaaPFloorGroupx0
import Derived.Test.YthhepaikogcddaaFlowC
import Derived.Laws.Externs
import Derived.Laws.Bits64b
namespace Go.Proofs.Ythhepaikogcddaa.PFloorGroup
open Go.RowKit Go.Proofs.YthhepaikogcddaaW.PrintWords Go.Proofs.YthhepaikogcddaaW.PrintLast Go.Proofs.YthhepaikogcddaaW.PrintMore
open Go.Proofs.Ythhepaikogcddaa.Flow
set_option linter.unusedVariables false
set_option linter.unusedSimpArgs false

theorem u64_wrap (x : Int) : IntKind.u64.wrap x = x % 18446744073709551616 := by simp [IntKind.wrap, IntKind.bits, IntKind.signed] <;> omega
theorem u64_range (x : Int) : 0 ≤ IntKind.u64.wrap x ∧ IntKind.u64.wrap x < 18446744073709551616 := by rw [u64_wrap]; omega
theorem add64_call (x y c : Int) (hx : 0 ≤ x ∧ x < 18446744073709551616) (hy : 0 ≤ y ∧ y < 18446744073709551616) (hc : 0 ≤ c ∧ c ≤ 1) (w : World) :
    (callFunc 34 #[.int .u64 x, .int .u64 y, .int .u64 c]).run Try.prog w = .ok (.value (.tuple #[.int .u64 ((x + y + c) % 18446744073709551616), .int .u64 ((x + y + c) / 18446744073709551616)])) w := by
  obtain ⟨x, rfl⟩ := Int.eq_ofNat_of_zero_le hx.1
  obtain ⟨y, rfl⟩ := Int.eq_ofNat_of_zero_le hy.1
  obtain ⟨c, rfl⟩ := Int.eq_ofNat_of_zero_le hc.1
  have e0 : ∀ p q : Int, ((Result.ok (Value.tuple #[.int .u64 p, .int .u64 q]) w).andThen fun v w' => Result.ok (Next.value v) w') = .ok (.value (.tuple #[.int .u64 p, .int .u64 q])) w := fun _ _ => rfl
  rw [run_callFunc_extern Try.func34 (by kernel_rfl) (by kernel_rfl) (by kernel_rfl) (e := add64Entry) (by kernel_rfl), run_add64 x y c (by omega) (by omega) (by omega) (by omega)]
  exact e0 _ _
theorem not_i64 (x : Int) (h1 : -9223372036854775808 ≤ x) (h2 : x ≤ 9223372036854775807) : bits .xor .i64 (if IntKind.i64.signed = true then -1 else IntKind.i64.max) x = -1 - x := by
  show IntKind.i64.wrap ((BitVec.ofInt 64 (-1) ^^^ BitVec.ofInt 64 x).toNat : Int) = _
  have h3 : BitVec.ofInt 64 (-1) = BitVec.allOnes 64 := by decide
  rw [h3, BitVec.allOnes_xor, BitVec.toNat_not, BitVec.toNat_ofInt]
  simp [IntKind.wrap, IntKind.bits, IntKind.signed]
  omega
theorem not_u64 (x : Int) (h1 : 0 ≤ x) (h2 : x < 18446744073709551616) : bits .xor .u64 (if IntKind.u64.signed = true then -1 else IntKind.u64.max) x = 18446744073709551615 - x := by
  have e : (if IntKind.u64.signed = true then (-1 : Int) else IntKind.u64.max) = 18446744073709551615 := by decide
  rw [e]
  show IntKind.u64.wrap ((BitVec.ofInt 64 18446744073709551615 ^^^ BitVec.ofInt 64 x).toNat : Int) = _
  have h3 : BitVec.ofInt 64 18446744073709551615 = BitVec.allOnes 64 := by decide
  rw [h3, BitVec.allOnes_xor, BitVec.toNat_not, BitVec.toNat_ofInt, IntKind.wrap_u64]
  omega
theorem add64_run {G : Env} {o : Oper} {w : World} {a b d : Operand} {ts : Array TypeId} {x y c s t : Int} (hop : o.op = .call { callee := .value (.func 34), args := #[a, b, d], argTypes := ts }) (ha : sEv G a = .int .u64 x) (hb : sEv G b = .int .u64 y)
    (hx : 0 ≤ x ∧ x < 18446744073709551616) (hy : 0 ≤ y ∧ y < 18446744073709551616) (hc : 0 ≤ c ∧ c ≤ 1) (hd : sEv G d = .int .u64 c) (hs : (x + y + c) % 18446744073709551616 = s) (ht : (x + y + c) / 18446744073709551616 = t) :
    (execOp (sEv G) o).run Try.prog w = .ok (.value (.tuple #[.int .u64 s, .int .u64 t])) w := by
  have h := add64_call x y c hx hy hc w
  rw [hs, ht] at h
  have hf : sEv G (.func 34) = .func (.func 34) #[] #[] := rfl
  unfold execOp
  simp [hop, resolve, Deferred.ofValue, invoke, hf, ha, hb, hd, h]
set_option maxHeartbeats 4000000 in
theorem add_calls (ah al bh bl : Int) (hal : 0 ≤ al ∧ al < 18446744073709551616) (hbl : 0 ≤ bl ∧ bl < 18446744073709551616) (w : World) :
    Calls Try.prog 15 #[.agg #[.int .i64 ah, .int .u64 al], .agg #[.int .i64 bh, .int .u64 bl]] w fun e w' => e = .returned (.agg #[.int .i64 (wrap64 (ah + bh + (al + bl) / 18446744073709551616)), .int .u64 ((al + bl) % 18446744073709551616)]) ∧ Below w.heap.size w w' := by
  refine calls_flow Try.func15 rfl 32 rfl (Nat.le_of_ble_eq_true rfl) [(0, .agg #[.int .i64 ah, .int .u64 al]), (1, .agg #[.int .i64 bh, .int .u64 bl])] ?_ ?_
  · intro t v h; exact args_look rfl t v h
  refine w_seq ?_
  refine w_region ?_
  refine rw_new (cs := #[.int .i64 ah, .int .u64 al]) (t := 24) (fun g => .pointer (some ⟨g, 0, none⟩)) rfl rfl rfl rfl (by simp [go_sem, sEv, sLook, nbeq, i64_w]) ?_
  intro g1 w2 hg6 hz5 hb3 hk4
  have hs_w2 := hb3.size
  refine rw_new (cs := #[.int .i64 bh, .int .u64 bl]) (t := 24) (fun g => .pointer (some ⟨g, 0, none⟩)) rfl rfl rfl rfl (by simp [go_sem, sEv, sLook, nbeq, i64_w]) ?_
  intro g7 w8 hg12 hz11 hb9 hk10
  have hs_w8 := hb9.size
  refine rw_new (cs := #[.int .i64 0, .int .u64 0]) (t := 24) (fun g => .pointer (some ⟨g, 0, none⟩)) rfl rfl rfl rfl (by kernel_rfl) ?_
  intro g13 w14 hg18 hz17 hb15 hk16
  have hs_w14 := hb15.size
  refine rw_end ?_
  refine w_seq ?_
  refine w_region ?_
  refine rw_val (v := .pointer (some ⟨g1, 1, none⟩)) (w' := w14) rfl rfl rfl rfl (by simp [go_sem, sEv, sLook, nbeq, i64_w, Try.underlying24]) ?_
  refine rw_val (v := .int .u64 al) (w' := w14) rfl rfl rfl rfl (by have eb_ := ((hk4.on hb9).on hb15); have e0_ := eb_.cellv (i := 1) (v := (.int .u64 al : Value)) rfl; simp [go_sem, sEv, sLook, nbeq, i64_w, e0_]) ?_
  refine rw_val (v := .pointer (some ⟨g7, 1, none⟩)) (w' := w14) rfl rfl rfl rfl (by simp [go_sem, sEv, sLook, nbeq, i64_w, Try.underlying24]) ?_
  refine rw_val (v := .int .u64 bl) (w' := w14) rfl rfl rfl rfl (by have eb_ := (hk10.on hb15); have e0_ := eb_.cellv (i := 1) (v := (.int .u64 bl : Value)) rfl; simp [go_sem, sEv, sLook, nbeq, i64_w, e0_]) ?_
  refine rw_val (v := .tuple #[.int .u64 ((al + bl) % 18446744073709551616), .int .u64 ((al + bl) / 18446744073709551616)]) (w' := w14) rfl rfl rfl rfl (add64_run rfl rfl rfl (by first | omega | exact u64_range _) (by first | omega | exact u64_range _) (by omega) rfl (by omega) (by omega)) ?_
  refine rw_val (v := .tuple #[.int .u64 ((al + bl) % 18446744073709551616), .int .u64 ((al + bl) / 18446744073709551616)]) (w' := w14) rfl rfl rfl rfl rfl ?_
  refine rw_val (v := .int .u64 ((al + bl) % 18446744073709551616)) (w' := w14) rfl rfl rfl rfl (by simp [go_sem, sEv, sLook, nbeq, i64_w]) ?_
  refine rw_val (v := .int .u64 ((al + bl) / 18446744073709551616)) (w' := w14) rfl rfl rfl rfl (by simp [go_sem, sEv, sLook, nbeq, i64_w]) ?_
  refine rw_val (v := .int .u64 ((al + bl) % 18446744073709551616)) (w' := w14) rfl rfl rfl rfl rfl ?_
  refine rw_val (v := .int .u64 ((al + bl) / 18446744073709551616)) (w' := w14) rfl rfl rfl rfl rfl ?_
  refine rw_end ?_
  refine w_weaken (G' := [(2, .pointer (some ⟨g1, 0, none⟩)), (3, .pointer (some ⟨g7, 0, none⟩)), (4, .pointer (some ⟨g13, 0, none⟩)), (5, .int .u64 ((al + bl) % 18446744073709551616)), (6, .int .u64 ((al + bl) / 18446744073709551616))]) ⟨rfl, rfl, rfl, rfl, rfl, trivial⟩ ?_
  refine w_seq ?_
  refine w_region ?_
  refine rw_val (v := .pointer (some ⟨g1, 0, none⟩)) (w' := w14) rfl rfl rfl rfl (by simp [go_sem, sEv, sLook, nbeq, i64_w, Try.underlying24]) ?_
  refine rw_val (v := .int .i64 ah) (w' := w14) rfl rfl rfl rfl (by have eb_ := ((hk4.on hb9).on hb15); have e0_ := eb_.cellv (i := 0) (v := (.int .i64 ah : Value)) rfl; simp [go_sem, sEv, sLook, nbeq, i64_w, e0_]) ?_
  refine rw_val (v := .int .u64 (IntKind.u64.wrap (ah))) (w' := w14) rfl rfl rfl rfl (by simp [go_sem, sEv, sLook, nbeq, i64_w, Try.underlying3, Try.underlying44]) ?_
  refine rw_val (v := .pointer (some ⟨g7, 0, none⟩)) (w' := w14) rfl rfl rfl rfl (by simp [go_sem, sEv, sLook, nbeq, i64_w, Try.underlying24]) ?_
  refine rw_val (v := .int .i64 bh) (w' := w14) rfl rfl rfl rfl (by have eb_ := (hk10.on hb15); have e0_ := eb_.cellv (i := 0) (v := (.int .i64 bh : Value)) rfl; simp [go_sem, sEv, sLook, nbeq, i64_w, e0_]) ?_
  refine rw_val (v := .int .u64 (IntKind.u64.wrap (bh))) (w' := w14) rfl rfl rfl rfl (by simp [go_sem, sEv, sLook, nbeq, i64_w, Try.underlying3, Try.underlying44]) ?_
  refine rw_val (v := .int .u64 ((al + bl) / 18446744073709551616)) (w' := w14) rfl rfl rfl rfl rfl ?_
  refine rw_val (v := .tuple #[.int .u64 ((ah + bh + (al + bl) / 18446744073709551616) % 18446744073709551616), .int .u64 ((IntKind.u64.wrap ah + IntKind.u64.wrap bh + (al + bl) / 18446744073709551616) / 18446744073709551616)]) (w' := w14) rfl rfl rfl rfl (add64_run rfl rfl rfl (by first | omega | exact u64_range _) (by first | omega | exact u64_range _) (by omega) rfl (by simp only [u64_wrap]; omega) (by rfl)) ?_
  refine rw_val (v := .tuple #[.int .u64 ((ah + bh + (al + bl) / 18446744073709551616) % 18446744073709551616), .int .u64 ((IntKind.u64.wrap ah + IntKind.u64.wrap bh + (al + bl) / 18446744073709551616) / 18446744073709551616)]) (w' := w14) rfl rfl rfl rfl rfl ?_
  refine rw_val (v := .int .u64 ((ah + bh + (al + bl) / 18446744073709551616) % 18446744073709551616)) (w' := w14) rfl rfl rfl rfl (by simp [go_sem, sEv, sLook, nbeq, i64_w]) ?_
  refine rw_val (v := .int .u64 ((IntKind.u64.wrap ah + IntKind.u64.wrap bh + (al + bl) / 18446744073709551616) / 18446744073709551616)) (w' := w14) rfl rfl rfl rfl (by simp [go_sem, sEv, sLook, nbeq, i64_w]) ?_
  refine rw_val (v := .int .u64 ((ah + bh + (al + bl) / 18446744073709551616) % 18446744073709551616)) (w' := w14) rfl rfl rfl rfl rfl ?_
  refine rw_val (v := .int .u64 ((IntKind.u64.wrap ah + IntKind.u64.wrap bh + (al + bl) / 18446744073709551616) / 18446744073709551616)) (w' := w14) rfl rfl rfl rfl rfl ?_
  refine rw_end ?_
  refine w_weaken (G' := [(4, .pointer (some ⟨g13, 0, none⟩)), (5, .int .u64 ((al + bl) % 18446744073709551616)), (7, .int .u64 ((ah + bh + (al + bl) / 18446744073709551616) % 18446744073709551616))]) ⟨rfl, rfl, rfl, trivial⟩ ?_
  refine w_seq ?_
  refine w_region ?_
  refine rw_val (v := .int .u64 ((ah + bh + (al + bl) / 18446744073709551616) % 18446744073709551616)) (w' := w14) rfl rfl rfl rfl rfl ?_
  refine rw_val (v := .int .i64 (wrap64 (ah + bh + (al + bl) / 18446744073709551616))) (w' := w14) rfl rfl rfl rfl (by exact run_int (a := wrap64 ((ah + bh + (al + bl) / 18446744073709551616) % 18446744073709551616)) (by simp [go_sem, sEv, sLook, nbeq, i64_w, Try.underlying44, Try.underlying3]) (by unfold wrap64; omega)) ?_
  refine rw_val (v := .int .u64 ((al + bl) % 18446744073709551616)) (w' := w14) rfl rfl rfl rfl rfl ?_
  refine rw_val (v := .agg #[.int .i64 (wrap64 (ah + bh + (al + bl) / 18446744073709551616)), .int .u64 ((al + bl) % 18446744073709551616)]) (w' := w14) rfl rfl rfl rfl (by kernel_rfl) ?_
  have hb22 := hk16
  refine rw_store (g := g13) (i := 0) (l := [.int .i64 (wrap64 (ah + bh + (al + bl) / 18446744073709551616)), .int .u64 ((al + bl) % 18446744073709551616)]) (cs' := #[.int .i64 (wrap64 (ah + bh + (al + bl) / 18446744073709551616)), .int .u64 ((al + bl) % 18446744073709551616)]) rfl rfl rfl hb22 rfl (by have e0_ := hb22.cellv (i := 0) (v := (.int .i64 0 : Value)) rfl; have f0_ := hb22.frozen 0; have e1_ := hb22.cellv (i := 1) (v := (.int .u64 0 : Value)) rfl; have f1_ := hb22.frozen 1; simp [go_sem, sEv, sLook, nbeq, i64_w, putCells, e0_, f0_, e1_, f1_, Try.underlying24]) ?_
  intro w19 hk20 hk21
  have hs_w19 := hk20.size
  refine rw_end ?_
  refine w_weaken (G' := [(4, .pointer (some ⟨g13, 0, none⟩))]) ⟨rfl, trivial⟩ ?_
  refine w_ret (post_retc (v := .agg #[.int .i64 (wrap64 (ah + bh + (al + bl) / 18446744073709551616)), .int .u64 ((al + bl) % 18446744073709551616)]) rfl rfl (by have eb_ := hk21; have e0_ := eb_.cellv (i := 0) (v := (.int .i64 (wrap64 (ah + bh + (al + bl) / 18446744073709551616)) : Value)) rfl; have e1_ := eb_.cellv (i := 1) (v := (.int .u64 ((al + bl) % 18446744073709551616) : Value)) rfl; simp [go_sem, e0_, e1_, Try.underlying24]) ?_)
  exact ⟨rfl, (hk20.below (by omega) (chain (chain hb3 hb9) hb15))⟩
set_option maxHeartbeats 4000000 in
theorem of_calls (a : Int) (w : World) :
    Calls Try.prog 14 #[.int .i64 a] w fun e w' => e = .returned (.agg #[.int .i64 (a / 9223372036854775808), .int .u64 (IntKind.u64.wrap a)]) ∧ Below w.heap.size w w' := by
  refine calls_flow Try.func14 rfl 8 rfl (Nat.le_of_ble_eq_true rfl) [(0, .int .i64 a)] ?_ ?_
  · intro t v h; exact args_look rfl t v h
  refine w_seq ?_
  refine w_region ?_
  refine rw_new (cs := #[.int .i64 0, .int .u64 0]) (t := 24) (fun g => .pointer (some ⟨g, 0, none⟩)) rfl rfl rfl rfl (by kernel_rfl) ?_
  intro g1 w2 hg6 hz5 hb3 hk4
  have hs_w2 := hb3.size
  refine rw_end ?_
  refine w_seq ?_
  refine w_region ?_
  refine rw_val (v := .int .i64 a) (w' := w2) rfl rfl rfl rfl rfl ?_
  refine rw_val (v := .int .i64 (a / 9223372036854775808)) (w' := w2) rfl rfl rfl rfl (by simp [go_sem, sEv, sLook, nbeq, i64_w]) ?_
  refine rw_val (v := .int .i64 a) (w' := w2) rfl rfl rfl rfl rfl ?_
  refine rw_val (v := .int .u64 (IntKind.u64.wrap a)) (w' := w2) rfl rfl rfl rfl (by simp [go_sem, sEv, sLook, nbeq, i64_w, Try.underlying3, Try.underlying22]) ?_
  refine rw_val (v := .agg #[.int .i64 (a / 9223372036854775808), .int .u64 (IntKind.u64.wrap a)]) (w' := w2) rfl rfl rfl rfl (by kernel_rfl) ?_
  have hb10 := hk4
  refine rw_store (g := g1) (i := 0) (l := [.int .i64 (a / 9223372036854775808), .int .u64 (IntKind.u64.wrap a)]) (cs' := #[.int .i64 (a / 9223372036854775808), .int .u64 (IntKind.u64.wrap a)]) rfl rfl rfl hb10 rfl (by have e0_ := hb10.cellv (i := 0) (v := (.int .i64 0 : Value)) rfl; have f0_ := hb10.frozen 0; have e1_ := hb10.cellv (i := 1) (v := (.int .u64 0 : Value)) rfl; have f1_ := hb10.frozen 1; simp [go_sem, sEv, sLook, nbeq, i64_w, putCells, e0_, f0_, e1_, f1_, Try.underlying24]) ?_
  intro w7 hk8 hk9
  have hs_w7 := hk8.size
  refine rw_end ?_
  refine w_weaken (G' := [(2, .pointer (some ⟨g1, 0, none⟩))]) ⟨rfl, trivial⟩ ?_
  refine w_ret (post_retc (v := .agg #[.int .i64 (a / 9223372036854775808), .int .u64 (IntKind.u64.wrap a)]) rfl rfl (by have eb_ := hk9; have e0_ := eb_.cellv (i := 0) (v := (.int .i64 (a / 9223372036854775808) : Value)) rfl; have e1_ := eb_.cellv (i := 1) (v := (.int .u64 (IntKind.u64.wrap a) : Value)) rfl; simp [go_sem, e0_, e1_, Try.underlying24]) ?_)
  exact ⟨rfl, (hk8.below (by omega) hb3)⟩
theorem of_one (w : World) : Calls Try.prog 14 #[.int .i64 1] w fun e w' => e = .returned (.agg #[.int .i64 0, .int .u64 1]) ∧ Below w.heap.size w w' := by
  have h := of_calls 1 w
  rw [show (1 : Int) / 9223372036854775808 = 0 by decide, show IntKind.u64.wrap 1 = 1 by decide +kernel] at h
  exact h
set_option maxHeartbeats 4000000 in
theorem neg_raw (ah al : Int) (hah : -9223372036854775808 ≤ ah ∧ ah ≤ 9223372036854775807) (hal : 0 ≤ al ∧ al < 18446744073709551616) (w : World) :
    Calls Try.prog 16 #[.agg #[.int .i64 ah, .int .u64 al]] w fun e w' => e = .returned (.agg #[.int .i64 (wrap64 ((-1 - ah) + 0 + ((18446744073709551615 - al) + 1) / 18446744073709551616)), .int .u64 (((18446744073709551615 - al) + 1) % 18446744073709551616)]) ∧ Below w.heap.size w w' := by
  refine calls_flow Try.func16 rfl 12 rfl (Nat.le_of_ble_eq_true rfl) [(0, .agg #[.int .i64 ah, .int .u64 al])] ?_ ?_
  · intro t v h; exact args_look rfl t v h
  refine w_seq ?_
  refine w_region ?_
  refine rw_new (cs := #[.int .i64 ah, .int .u64 al]) (t := 24) (fun g => .pointer (some ⟨g, 0, none⟩)) rfl rfl rfl rfl (by simp [go_sem, sEv, sLook, nbeq, i64_w]) ?_
  intro g1 w2 hg6 hz5 hb3 hk4
  have hs_w2 := hb3.size
  refine rw_new (cs := #[.int .i64 0, .int .u64 0]) (t := 24) (fun g => .pointer (some ⟨g, 0, none⟩)) rfl rfl rfl rfl (by kernel_rfl) ?_
  intro g7 w8 hg12 hz11 hb9 hk10
  have hs_w8 := hb9.size
  refine rw_end ?_
  refine w_seq ?_
  refine w_drawk (M := [0, 1, 3, 0, 8, 24, 63, 0, 255, 511]) (ss := [Is (.pointer (some ⟨g1, 0, none⟩)), Is (.int .i64 ah), Is (.int .i64 (-1 - ah)), Is (.pointer (some ⟨g1, 1, none⟩)), Is (.int .u64 al), Is (.int .u64 (18446744073709551615 - al)), Is (.agg #[.int .i64 (-1 - ah), .int .u64 (18446744073709551615 - al)]), (Is (.agg #[.int .i64 0, .int .u64 1]))]) 8 rfl (by decide +kernel) ?_
  refine t_is (.pointer (some ⟨g1, 0, none⟩)) rfl rfl rfl rfl (fun W_ hW_ F_ => by simp [go_sem, sEv, sLook, nbeq, i64_w, Try.underlying24]) ?_
  refine t_is (.int .i64 ah) rfl rfl rfl rfl (fun W_ hW_ F_ => by have eb_ := ((hk4.on hb9).on (below_of_drew hW_)); have e0_ := eb_.cellv (i := 0) (v := (.int .i64 ah : Value)) rfl; simp [go_sem, sEv, sLook, nbeq, i64_w, e0_]) ?_
  refine t_is (.int .i64 (-1 - ah)) rfl rfl rfl rfl (fun W_ hW_ F_ => by simp [go_sem, sEv, sLook, nbeq, i64_w]; exact not_i64 ah hah.1 hah.2) ?_
  refine t_is (.pointer (some ⟨g1, 1, none⟩)) rfl rfl rfl rfl (fun W_ hW_ F_ => by simp [go_sem, sEv, sLook, nbeq, i64_w, Try.underlying24]) ?_
  refine t_is (.int .u64 al) rfl rfl rfl rfl (fun W_ hW_ F_ => by have eb_ := ((hk4.on hb9).on (below_of_drew hW_)); have e0_ := eb_.cellv (i := 1) (v := (.int .u64 al : Value)) rfl; simp [go_sem, sEv, sLook, nbeq, i64_w, e0_]) ?_
  refine t_is (.int .u64 (18446744073709551615 - al)) rfl rfl rfl rfl (fun W_ hW_ F_ => by simp [go_sem, sEv, sLook, nbeq, i64_w]; exact not_u64 al hal.1 hal.2) ?_
  refine t_is (.agg #[.int .i64 (-1 - ah), .int .u64 (18446744073709551615 - al)]) rfl rfl rfl rfl (fun W_ hW_ F_ => by kernel_rfl) ?_
  refine t_call (f := 14) (args := #[.int .i64 1]) (Is (.agg #[.int .i64 0, .int .u64 1])) rfl rfl rfl rfl (fun W_ => by simp [go_sem, sEv, sLook, nbeq, i64_w]) (fun W_ hW_ F_ => ?_) ?_
  · refine (of_one W_).mono ?_
    rintro e_ w_ ⟨rfl, hd_⟩
    exact ⟨_, rfl, rfl, hd_⟩
  rintro _ rfl
  refine t_tail ?_
  intro w13 hb14_ F15
  have hb14 := below_of_drew hb14_
  have hs_w13 := hb14.size
  refine rw_call rfl rfl rfl rfl (f := 15) (args := #[.agg #[.int .i64 (-1 - ah), .int .u64 (18446744073709551615 - al)], .agg #[.int .i64 0, .int .u64 1]]) (by simp [go_sem, sEv, sLook, nbeq, i64_w]) (add_calls (-1 - ah) (18446744073709551615 - al) 0 1 (by omega) (by omega) w13) ?_
  rintro e_ w16 ⟨rfl, hb17⟩
  refine ⟨_, rfl, ?_⟩
  have hs_w16 := hb17.size
  have hb21 := ((hk10.on hb14).on hb17)
  refine rw_store (g := g7) (i := 0) (l := [.int .i64 (wrap64 ((-1 - ah) + 0 + ((18446744073709551615 - al) + 1) / 18446744073709551616)), .int .u64 (((18446744073709551615 - al) + 1) % 18446744073709551616)]) (cs' := #[.int .i64 (wrap64 ((-1 - ah) + 0 + ((18446744073709551615 - al) + 1) / 18446744073709551616)), .int .u64 (((18446744073709551615 - al) + 1) % 18446744073709551616)]) rfl rfl rfl hb21 rfl (by have e0_ := hb21.cellv (i := 0) (v := (.int .i64 0 : Value)) rfl; have f0_ := hb21.frozen 0; have e1_ := hb21.cellv (i := 1) (v := (.int .u64 0 : Value)) rfl; have f1_ := hb21.frozen 1; simp [go_sem, sEv, sLook, nbeq, i64_w, putCells, e0_, f0_, e1_, f1_, Try.underlying24]) ?_
  intro w18 hk19 hk20
  have hs_w18 := hk19.size
  refine rw_end ?_
  refine w_weaken (G' := [(2, .pointer (some ⟨g7, 0, none⟩))]) ⟨rfl, trivial⟩ ?_
  refine w_ret (post_retc (v := .agg #[.int .i64 (wrap64 ((-1 - ah) + 0 + ((18446744073709551615 - al) + 1) / 18446744073709551616)), .int .u64 (((18446744073709551615 - al) + 1) % 18446744073709551616)]) rfl rfl (by have eb_ := hk20; have e0_ := eb_.cellv (i := 0) (v := (.int .i64 (wrap64 ((-1 - ah) + 0 + ((18446744073709551615 - al) + 1) / 18446744073709551616)) : Value)) rfl; have e1_ := eb_.cellv (i := 1) (v := (.int .u64 (((18446744073709551615 - al) + 1) % 18446744073709551616) : Value)) rfl; simp [go_sem, e0_, e1_, Try.underlying24]) ?_)
  exact ⟨rfl, (hk19.below (by omega) (chain (chain (chain hb3 hb9) hb14) hb17))⟩
set_option maxHeartbeats 4000000 in
theorem len64_ten  (w : World) :
    Calls Try.prog 38 #[.int .u64 10] w fun e w' => e = .returned (.int .i64 4) ∧ Below w.heap.size w w' := by
  refine calls_flow Try.func38 rfl 25 rfl (Nat.le_of_ble_eq_true rfl) [(0, .int .u64 10)] ?_ ?_
  · intro t v h; exact args_look rfl t v h
  refine w_seq ?_
  refine w_region ?_
  refine rw_val (v := .int .i64 0) (w' := w) rfl rfl rfl rfl rfl ?_
  refine rw_end ?_
  refine w_seq ?_
  refine w_seq ?_
  refine w_region ?_
  refine rw_val (v := .int .u64 10) (w' := w) rfl rfl rfl rfl rfl ?_
  refine rw_val (v := .bool false) (w' := w) rfl rfl rfl rfl (by simp [go_sem, sEv, sLook, nbeq, i64_w]) ?_
  refine rw_end ?_
  refine w_cond_f rfl rfl rfl ?_
  refine w_skip ?_
  refine w_seq ?_
  refine w_seq ?_
  refine w_region ?_
  refine rw_val (v := .int .u64 10) (w' := w) rfl rfl rfl rfl rfl ?_
  refine rw_val (v := .bool false) (w' := w) rfl rfl rfl rfl (by simp [go_sem, sEv, sLook, nbeq, i64_w]) ?_
  refine rw_end ?_
  refine w_cond_f rfl rfl rfl ?_
  refine w_skip ?_
  refine w_seq ?_
  refine w_seq ?_
  refine w_region ?_
  refine rw_val (v := .int .u64 10) (w' := w) rfl rfl rfl rfl rfl ?_
  refine rw_val (v := .bool false) (w' := w) rfl rfl rfl rfl (by simp [go_sem, sEv, sLook, nbeq, i64_w]) ?_
  refine rw_end ?_
  refine w_cond_f rfl rfl rfl ?_
  refine w_skip ?_
  refine w_seq ?_
  refine w_region ?_
  refine rw_val (v := .int .i64 0) (w' := w) rfl rfl rfl rfl rfl ?_
  refine rw_val (v := .int .u64 10) (w' := w) rfl rfl rfl rfl rfl ?_
  refine rw_val (v := .int .u8 10) (w' := w) rfl rfl rfl rfl (by kernel_rfl) ?_
  refine rw_val (v := .int .u8 4) (w' := w) rfl rfl rfl rfl (by kernel_rfl) ?_
  refine rw_val (v := .int .i64 4) (w' := w) rfl rfl rfl rfl (by kernel_rfl) ?_
  refine rw_val (v := .int .i64 4) (w' := w) rfl rfl rfl rfl (by kernel_rfl) ?_
  refine rw_val (v := .int .i64 4) (w' := w) rfl rfl rfl rfl rfl ?_
  refine rw_end ?_
  refine w_weaken (G' := [(2, .int .i64 4)]) ⟨rfl, trivial⟩ ?_
  refine w_ret (post_ret1 rfl rfl ?_)
  exact ⟨rfl, (Below.refl _ _)⟩
set_option maxHeartbeats 4000000 in
theorem lead64_ten  (w : World) :
    Calls Try.prog 42 #[.int .u64 10] w fun e w' => e = .returned (.int .i64 60) ∧ Below w.heap.size w w' := by
  refine calls_flow Try.func42 rfl 6 rfl (Nat.le_of_ble_eq_true rfl) [(0, .int .u64 10)] ?_ ?_
  · intro t v h; exact args_look rfl t v h
  refine w_seq ?_
  refine w_region ?_
  refine rw_val (v := .int .i64 0) (w' := w) rfl rfl rfl rfl rfl ?_
  refine rw_end ?_
  refine w_seq ?_
  refine w_region ?_
  refine rw_val (v := .int .u64 10) (w' := w) rfl rfl rfl rfl rfl ?_
  refine rw_call rfl rfl rfl rfl (f := 38) (args := #[.int .u64 10]) (by simp [go_sem, sEv, sLook, nbeq, i64_w]) (len64_ten w) ?_
  rintro e_ w1 ⟨rfl, hb2⟩
  refine ⟨_, rfl, ?_⟩
  have hs_w1 := hb2.size
  refine rw_val (v := .int .i64 60) (w' := w1) rfl rfl rfl rfl (by kernel_rfl) ?_
  refine rw_val (v := .int .i64 60) (w' := w1) rfl rfl rfl rfl rfl ?_
  refine rw_end ?_
  refine w_weaken (G' := [(2, .int .i64 60)]) ⟨rfl, trivial⟩ ?_
  refine w_ret (post_ret1 rfl rfl ?_)
  exact ⟨rfl, hb2⟩
set_option maxHeartbeats 4000000 in
theorem div64_main (hi lo un32 u21 q r : Int) (hhi : 0 ≤ hi ∧ hi < 10) (hlo : 0 ≤ lo ∧ lo < 18446744073709551616) (h0 : (hi == 0) = false) (hun : un32 = hi * 1152921504606846976 + lo / 16) (hu21 : u21 = un32 % 2684354560 * 4294967296 + lo % 16 * 268435456)
    (or_run : bits .or .u64 (hi * 1152921504606846976) (lo / 16) = un32) (and_run : bits .and .u64 (lo % 16 * 1152921504606846976) 4294967295 = 0) (hq : un32 / 2684354560 * 4294967296 + u21 / 2684354560 = q) (hr : u21 % 2684354560 / 268435456 = r) (w : World) :
    Calls Try.prog 41 #[.int .u64 hi, .int .u64 lo, .int .u64 10] w fun e w' => e = .returned (.tuple #[.int .u64 q, .int .u64 r]) ∧ Below w.heap.size w w' := by
  refine calls_flow Try.func41 rfl 135 rfl (Nat.le_of_ble_eq_true rfl) [(0, .int .u64 hi), (1, .int .u64 lo), (2, .int .u64 10)] ?_ ?_
  · intro t v h; exact args_look rfl t v h
  refine w_seq ?_
  refine w_region ?_
  refine rw_val (v := .int .u64 0) (w' := w) rfl rfl rfl rfl rfl ?_
  refine rw_val (v := .int .u64 0) (w' := w) rfl rfl rfl rfl rfl ?_
  refine rw_end ?_
  refine w_seq ?_
  refine w_seq ?_
  refine w_region ?_
  refine rw_val (v := .int .u64 10) (w' := w) rfl rfl rfl rfl rfl ?_
  refine rw_val (v := .bool false) (w' := w) rfl rfl rfl rfl (by simp [go_sem, sEv, sLook, nbeq, i64_w]) ?_
  refine rw_end ?_
  refine w_cond_f rfl rfl rfl ?_
  refine w_skip ?_
  refine w_seq ?_
  refine w_seq ?_
  refine w_region ?_
  refine rw_val (v := .int .u64 10) (w' := w) rfl rfl rfl rfl rfl ?_
  refine rw_val (v := .int .u64 hi) (w' := w) rfl rfl rfl rfl rfl ?_
  refine rw_val (v := .bool (decide (10 ≤ hi))) (w' := w) rfl rfl rfl rfl (by simp [go_sem, sEv, sLook, nbeq, i64_w]) ?_
  refine rw_end ?_
  have hq1 : (decide (10 ≤ hi)) = false := by simp; omega
  refine w_cond_f rfl rfl hq1 ?_
  refine w_skip ?_
  refine w_seq ?_
  refine w_seq ?_
  refine w_region ?_
  refine rw_val (v := .int .u64 hi) (w' := w) rfl rfl rfl rfl rfl ?_
  refine rw_val (v := .bool (hi == 0)) (w' := w) rfl rfl rfl rfl (by simp [go_sem, sEv, sLook, nbeq, i64_w]) ?_
  refine rw_end ?_
  refine w_cond_f rfl rfl h0 ?_
  refine w_skip ?_
  refine w_seq ?_
  refine w_region ?_
  refine rw_val (v := .int .u64 10) (w' := w) rfl rfl rfl rfl rfl ?_
  refine rw_call rfl rfl rfl rfl (f := 42) (args := #[.int .u64 10]) (by simp [go_sem, sEv, sLook, nbeq, i64_w]) (lead64_ten w) ?_
  rintro e_ w2 ⟨rfl, hb3⟩
  refine ⟨_, rfl, ?_⟩
  have hs_w2 := hb3.size
  refine rw_val (v := .int .u64 60) (w' := w2) rfl rfl rfl rfl (by kernel_rfl) ?_
  refine rw_val (v := .int .u64 60) (w' := w2) rfl rfl rfl rfl rfl ?_
  refine rw_end ?_
  refine w_weaken (G' := [(0, .int .u64 hi), (1, .int .u64 lo), (2, .int .u64 10), (6, .int .u64 0), (7, .int .u64 0), (8, .int .u64 60)]) ⟨rfl, rfl, rfl, rfl, rfl, rfl, trivial⟩ ?_
  refine w_seq ?_
  refine w_region ?_
  refine rw_val (v := .int .u64 10) (w' := w2) rfl rfl rfl rfl rfl ?_
  refine rw_val (v := .int .u64 60) (w' := w2) rfl rfl rfl rfl rfl ?_
  refine rw_val (v := .int .u64 11529215046068469760) (w' := w2) rfl rfl rfl rfl (by kernel_rfl) ?_
  refine rw_val (v := .int .u64 11529215046068469760) (w' := w2) rfl rfl rfl rfl rfl ?_
  refine rw_end ?_
  refine w_weaken (G' := [(0, .int .u64 hi), (1, .int .u64 lo), (2, .int .u64 11529215046068469760), (6, .int .u64 0), (7, .int .u64 0), (8, .int .u64 60)]) ⟨rfl, rfl, rfl, rfl, rfl, rfl, trivial⟩ ?_
  refine w_seq ?_
  refine w_region ?_
  refine rw_val (v := .int .u64 11529215046068469760) (w' := w2) rfl rfl rfl rfl rfl ?_
  refine rw_val (v := .int .u64 2684354560) (w' := w2) rfl rfl rfl rfl (by kernel_rfl) ?_
  refine rw_val (v := .int .u64 2684354560) (w' := w2) rfl rfl rfl rfl rfl ?_
  refine rw_end ?_
  refine w_seq ?_
  refine w_region ?_
  refine rw_val (v := .int .u64 11529215046068469760) (w' := w2) rfl rfl rfl rfl rfl ?_
  refine rw_val (v := .int .u64 0) (w' := w2) rfl rfl rfl rfl (by kernel_rfl) ?_
  refine rw_val (v := .int .u64 0) (w' := w2) rfl rfl rfl rfl rfl ?_
  refine rw_end ?_
  refine w_seq ?_
  refine w_region ?_
  refine rw_val (v := .int .u64 hi) (w' := w2) rfl rfl rfl rfl rfl ?_
  refine rw_val (v := .int .u64 60) (w' := w2) rfl rfl rfl rfl rfl ?_
  refine rw_val (v := .int .u64 (hi * 1152921504606846976)) (w' := w2) rfl rfl rfl rfl (by simp [go_sem, sEv, sLook, nbeq, i64_w] <;> ((try simp only [u64_wrap]) <;> (try rw [Int.tdiv_eq_ediv_of_nonneg (by omega)]) <;> (try rw [Int.tmod_eq_emod_of_nonneg (by omega)]) <;> omega)) ?_
  refine rw_val (v := .int .u64 lo) (w' := w2) rfl rfl rfl rfl rfl ?_
  refine rw_val (v := .int .u64 60) (w' := w2) rfl rfl rfl rfl rfl ?_
  refine rw_val (v := .int .u64 4) (w' := w2) rfl rfl rfl rfl (by kernel_rfl) ?_
  refine rw_val (v := .int .u64 (lo / 16)) (w' := w2) rfl rfl rfl rfl (by simp [go_sem, sEv, sLook, nbeq, i64_w] <;> ((try simp only [u64_wrap]) <;> (try rw [Int.tdiv_eq_ediv_of_nonneg (by omega)]) <;> (try rw [Int.tmod_eq_emod_of_nonneg (by omega)]) <;> omega)) ?_
  refine rw_val (v := .int .u64 un32) (w' := w2) rfl rfl rfl rfl (by simp [go_sem, sEv, sLook, nbeq, i64_w]; exact or_run) ?_
  refine rw_val (v := .int .u64 un32) (w' := w2) rfl rfl rfl rfl rfl ?_
  refine rw_end ?_
  refine w_weaken (G' := [(1, .int .u64 lo), (2, .int .u64 11529215046068469760), (6, .int .u64 0), (7, .int .u64 0), (8, .int .u64 60), (9, .int .u64 2684354560), (10, .int .u64 0), (11, .int .u64 un32)]) ⟨rfl, rfl, rfl, rfl, rfl, rfl, rfl, rfl, trivial⟩ ?_
  refine w_seq ?_
  refine w_region ?_
  refine rw_val (v := .int .u64 lo) (w' := w2) rfl rfl rfl rfl rfl ?_
  refine rw_val (v := .int .u64 60) (w' := w2) rfl rfl rfl rfl rfl ?_
  refine rw_val (v := .int .u64 (lo % 16 * 1152921504606846976)) (w' := w2) rfl rfl rfl rfl (by simp [go_sem, sEv, sLook, nbeq, i64_w] <;> ((try simp only [u64_wrap]) <;> (try rw [Int.tdiv_eq_ediv_of_nonneg (by omega)]) <;> (try rw [Int.tmod_eq_emod_of_nonneg (by omega)]) <;> omega)) ?_
  refine rw_val (v := .int .u64 (lo % 16 * 1152921504606846976)) (w' := w2) rfl rfl rfl rfl rfl ?_
  refine rw_end ?_
  refine w_weaken (G' := [(2, .int .u64 11529215046068469760), (6, .int .u64 0), (7, .int .u64 0), (8, .int .u64 60), (9, .int .u64 2684354560), (10, .int .u64 0), (11, .int .u64 un32), (12, .int .u64 (lo % 16 * 1152921504606846976))]) ⟨rfl, rfl, rfl, rfl, rfl, rfl, rfl, rfl, trivial⟩ ?_
  refine w_seq ?_
  refine w_region ?_
  refine rw_val (v := .int .u64 (lo % 16 * 1152921504606846976)) (w' := w2) rfl rfl rfl rfl rfl ?_
  refine rw_val (v := .int .u64 (lo % 16 * 268435456)) (w' := w2) rfl rfl rfl rfl (by simp [go_sem, sEv, sLook, nbeq, i64_w] <;> ((try simp only [u64_wrap]) <;> (try rw [Int.tdiv_eq_ediv_of_nonneg (by omega)]) <;> (try rw [Int.tmod_eq_emod_of_nonneg (by omega)]) <;> omega)) ?_
  refine rw_val (v := .int .u64 (lo % 16 * 268435456)) (w' := w2) rfl rfl rfl rfl rfl ?_
  refine rw_end ?_
  refine w_seq ?_
  refine w_region ?_
  refine rw_val (v := .int .u64 (lo % 16 * 1152921504606846976)) (w' := w2) rfl rfl rfl rfl rfl ?_
  refine rw_val (v := .int .u64 0) (w' := w2) rfl rfl rfl rfl (by simp [go_sem, sEv, sLook, nbeq, i64_w]; exact and_run) ?_
  refine rw_val (v := .int .u64 0) (w' := w2) rfl rfl rfl rfl rfl ?_
  refine rw_end ?_
  refine w_seq ?_
  refine w_region ?_
  refine rw_val (v := .int .u64 un32) (w' := w2) rfl rfl rfl rfl rfl ?_
  refine rw_val (v := .int .u64 2684354560) (w' := w2) rfl rfl rfl rfl rfl ?_
  refine rw_val (v := .int .u64 (un32 / 2684354560)) (w' := w2) rfl rfl rfl rfl (by simp [go_sem, sEv, sLook, nbeq, i64_w] <;> ((try simp only [u64_wrap]) <;> (try rw [Int.tdiv_eq_ediv_of_nonneg (by omega)]) <;> (try rw [Int.tmod_eq_emod_of_nonneg (by omega)]) <;> omega)) ?_
  refine rw_val (v := .int .u64 (un32 / 2684354560)) (w' := w2) rfl rfl rfl rfl rfl ?_
  refine rw_end ?_
  refine w_weaken (G' := [(2, .int .u64 11529215046068469760), (6, .int .u64 0), (7, .int .u64 0), (8, .int .u64 60), (9, .int .u64 2684354560), (10, .int .u64 0), (11, .int .u64 un32), (13, .int .u64 (lo % 16 * 268435456)), (14, .int .u64 0), (15, .int .u64 (un32 / 2684354560))]) ⟨rfl, rfl, rfl, rfl, rfl, rfl, rfl, rfl, rfl, rfl, trivial⟩ ?_
  refine w_seq ?_
  refine w_region ?_
  refine rw_val (v := .int .u64 un32) (w' := w2) rfl rfl rfl rfl rfl ?_
  refine rw_val (v := .int .u64 (un32 / 2684354560)) (w' := w2) rfl rfl rfl rfl rfl ?_
  refine rw_val (v := .int .u64 2684354560) (w' := w2) rfl rfl rfl rfl rfl ?_
  refine rw_val (v := .int .u64 (un32 / 2684354560 * 2684354560)) (w' := w2) rfl rfl rfl rfl (by simp [go_sem, sEv, sLook, nbeq, i64_w] <;> ((try simp only [u64_wrap]) <;> (try rw [Int.tdiv_eq_ediv_of_nonneg (by omega)]) <;> (try rw [Int.tmod_eq_emod_of_nonneg (by omega)]) <;> omega)) ?_
  refine rw_val (v := .int .u64 (un32 % 2684354560)) (w' := w2) rfl rfl rfl rfl (by simp [go_sem, sEv, sLook, nbeq, i64_w] <;> ((try simp only [u64_wrap]) <;> (try rw [Int.tdiv_eq_ediv_of_nonneg (by omega)]) <;> (try rw [Int.tmod_eq_emod_of_nonneg (by omega)]) <;> omega)) ?_
  refine rw_val (v := .int .u64 (un32 % 2684354560)) (w' := w2) rfl rfl rfl rfl rfl ?_
  refine rw_end ?_
  refine w_weaken (G' := [(2, .int .u64 11529215046068469760), (6, .int .u64 0), (7, .int .u64 0), (8, .int .u64 60), (9, .int .u64 2684354560), (10, .int .u64 0), (11, .int .u64 un32), (13, .int .u64 (lo % 16 * 268435456)), (14, .int .u64 0), (15, .int .u64 (un32 / 2684354560)), (16, .int .u64 (un32 % 2684354560))]) ⟨rfl, rfl, rfl, rfl, rfl, rfl, rfl, rfl, rfl, rfl, rfl, trivial⟩ ?_
  refine w_seq ?_
  refine w_block ?_
  refine w_loop1 ?_
  refine w_seq ?_
  refine w_seq ?_
  refine w_region ?_
  refine rw_val (v := .int .u64 (un32 / 2684354560)) (w' := w2) rfl rfl rfl rfl rfl ?_
  refine rw_val (v := .bool (decide (4294967296 ≤ (un32 / 2684354560)))) (w' := w2) rfl rfl rfl rfl (by simp [go_sem, sEv, sLook, nbeq, i64_w]) ?_
  refine rw_val (v := .bool (decide (4294967296 ≤ (un32 / 2684354560)))) (w' := w2) rfl rfl rfl rfl rfl ?_
  have hq4 : (decide (4294967296 ≤ (un32 / 2684354560))) = false := by simp; omega
  refine rw_gval (c := decide (4294967296 ≤ (un32 / 2684354560))) (v := .int .u64 (un32 / 2684354560)) (w' := w2) rfl rfl rfl (by simp [hq4]) rfl rfl rfl (by rfl) ?_
  refine rw_gval (c := decide (4294967296 ≤ (un32 / 2684354560))) (v := .int .u64 0) (w' := w2) rfl rfl rfl (by simp [hq4]) rfl rfl rfl (by rfl) ?_
  refine rw_gval (c := decide (4294967296 ≤ (un32 / 2684354560))) (v := .int .u64 0) (w' := w2) rfl rfl rfl (by simp [hq4]) rfl rfl rfl (by simp [go_sem, sEv, sLook, nbeq, i64_w] <;> ((try simp only [u64_wrap]) <;> (try rw [Int.tdiv_eq_ediv_of_nonneg (by omega)]) <;> (try rw [Int.tmod_eq_emod_of_nonneg (by omega)]) <;> omega)) ?_
  refine rw_gval (c := decide (4294967296 ≤ (un32 / 2684354560))) (v := .int .u64 (un32 % 2684354560)) (w' := w2) rfl rfl rfl (by simp [hq4]) rfl rfl rfl (by rfl) ?_
  refine rw_gval (c := decide (4294967296 ≤ (un32 / 2684354560))) (v := .int .u64 (un32 % 2684354560 * 4294967296)) (w' := w2) rfl rfl rfl (by simp [hq4]) rfl rfl rfl (by simp [go_sem, sEv, sLook, nbeq, i64_w] <;> ((try simp only [u64_wrap]) <;> (try rw [Int.tdiv_eq_ediv_of_nonneg (by omega)]) <;> (try rw [Int.tmod_eq_emod_of_nonneg (by omega)]) <;> omega)) ?_
  refine rw_gval (c := decide (4294967296 ≤ (un32 / 2684354560))) (v := .int .u64 (lo % 16 * 268435456)) (w' := w2) rfl rfl rfl (by simp [hq4]) rfl rfl rfl (by rfl) ?_
  refine rw_gval (c := decide (4294967296 ≤ (un32 / 2684354560))) (v := .int .u64 (un32 % 2684354560 * 4294967296 + lo % 16 * 268435456)) (w' := w2) rfl rfl rfl (by simp [hq4]) rfl rfl rfl (by simp [go_sem, sEv, sLook, nbeq, i64_w] <;> ((try simp only [u64_wrap]) <;> (try rw [Int.tdiv_eq_ediv_of_nonneg (by omega)]) <;> (try rw [Int.tmod_eq_emod_of_nonneg (by omega)]) <;> omega)) ?_
  refine rw_gval (c := decide (4294967296 ≤ (un32 / 2684354560))) (v := .bool (decide ((un32 % 2684354560 * 4294967296 + lo % 16 * 268435456) < 0))) (w' := w2) rfl rfl rfl (by simp [hq4]) rfl rfl rfl (by simp [go_sem, sEv, sLook, nbeq, i64_w]) ?_
  refine rw_val (v := .bool (decide ((un32 % 2684354560 * 4294967296 + lo % 16 * 268435456) < 0))) (w' := w2) rfl rfl rfl rfl (by simp [go_sem, sEv, sLook, nbeq, i64_w, hq4]) ?_
  refine rw_end ?_
  refine w_weaken (G' := [(2, .int .u64 11529215046068469760), (6, .int .u64 0), (7, .int .u64 0), (8, .int .u64 60), (9, .int .u64 2684354560), (10, .int .u64 0), (11, .int .u64 un32), (13, .int .u64 (lo % 16 * 268435456)), (14, .int .u64 0), (15, .int .u64 (un32 / 2684354560)), (16, .int .u64 (un32 % 2684354560)), (78, .bool (decide ((un32 % 2684354560 * 4294967296 + lo % 16 * 268435456) < 0)))]) ⟨rfl, rfl, rfl, rfl, rfl, rfl, rfl, rfl, rfl, rfl, rfl, rfl, trivial⟩ ?_
  have hq5 : (decide ((un32 % 2684354560 * 4294967296 + lo % 16 * 268435456) < 0)) = false := by simp; omega
  refine w_cond_f rfl rfl hq5 ?_
  refine w_exit rfl ?_
  refine w_seq ?_
  refine w_region ?_
  refine rw_val (v := .int .u64 un32) (w' := w2) rfl rfl rfl rfl rfl ?_
  refine rw_val (v := .int .u64 (un32 * 4294967296 % 18446744073709551616)) (w' := w2) rfl rfl rfl rfl (by simp [go_sem, sEv, sLook, nbeq, i64_w] <;> ((try simp only [u64_wrap]) <;> (try rw [Int.tdiv_eq_ediv_of_nonneg (by omega)]) <;> (try rw [Int.tmod_eq_emod_of_nonneg (by omega)]) <;> omega)) ?_
  refine rw_val (v := .int .u64 (lo % 16 * 268435456)) (w' := w2) rfl rfl rfl rfl rfl ?_
  refine rw_val (v := .int .u64 ((un32 * 4294967296 + lo % 16 * 268435456) % 18446744073709551616)) (w' := w2) rfl rfl rfl rfl (by simp [go_sem, sEv, sLook, nbeq, i64_w] <;> ((try simp only [u64_wrap]) <;> (try rw [Int.tdiv_eq_ediv_of_nonneg (by omega)]) <;> (try rw [Int.tmod_eq_emod_of_nonneg (by omega)]) <;> omega)) ?_
  refine rw_val (v := .int .u64 (un32 / 2684354560)) (w' := w2) rfl rfl rfl rfl rfl ?_
  refine rw_val (v := .int .u64 11529215046068469760) (w' := w2) rfl rfl rfl rfl rfl ?_
  refine rw_val (v := .int .u64 (un32 / 2684354560 * 11529215046068469760 % 18446744073709551616)) (w' := w2) rfl rfl rfl rfl (by simp [go_sem, sEv, sLook, nbeq, i64_w] <;> ((try simp only [u64_wrap]) <;> (try rw [Int.tdiv_eq_ediv_of_nonneg (by omega)]) <;> (try rw [Int.tmod_eq_emod_of_nonneg (by omega)]) <;> omega)) ?_
  refine rw_val (v := .int .u64 u21) (w' := w2) rfl rfl rfl rfl (by simp [go_sem, sEv, sLook, nbeq, i64_w] <;> ((try simp only [u64_wrap]) <;> (try rw [Int.tdiv_eq_ediv_of_nonneg (by omega)]) <;> (try rw [Int.tmod_eq_emod_of_nonneg (by omega)]) <;> omega)) ?_
  refine rw_val (v := .int .u64 u21) (w' := w2) rfl rfl rfl rfl rfl ?_
  refine rw_end ?_
  refine w_weaken (G' := [(2, .int .u64 11529215046068469760), (6, .int .u64 0), (7, .int .u64 0), (8, .int .u64 60), (9, .int .u64 2684354560), (10, .int .u64 0), (14, .int .u64 0), (15, .int .u64 (un32 / 2684354560)), (16, .int .u64 (un32 % 2684354560)), (17, .int .u64 u21)]) ⟨rfl, rfl, rfl, rfl, rfl, rfl, rfl, rfl, rfl, rfl, trivial⟩ ?_
  refine w_seq ?_
  refine w_region ?_
  refine rw_val (v := .int .u64 u21) (w' := w2) rfl rfl rfl rfl rfl ?_
  refine rw_val (v := .int .u64 2684354560) (w' := w2) rfl rfl rfl rfl rfl ?_
  refine rw_val (v := .int .u64 (u21 / 2684354560)) (w' := w2) rfl rfl rfl rfl (by simp [go_sem, sEv, sLook, nbeq, i64_w] <;> ((try simp only [u64_wrap]) <;> (try rw [Int.tdiv_eq_ediv_of_nonneg (by omega)]) <;> (try rw [Int.tmod_eq_emod_of_nonneg (by omega)]) <;> omega)) ?_
  refine rw_val (v := .int .u64 (u21 / 2684354560)) (w' := w2) rfl rfl rfl rfl rfl ?_
  refine rw_end ?_
  refine w_weaken (G' := [(2, .int .u64 11529215046068469760), (6, .int .u64 0), (7, .int .u64 0), (8, .int .u64 60), (9, .int .u64 2684354560), (10, .int .u64 0), (14, .int .u64 0), (15, .int .u64 (un32 / 2684354560)), (16, .int .u64 (un32 % 2684354560)), (17, .int .u64 u21), (18, .int .u64 (u21 / 2684354560))]) ⟨rfl, rfl, rfl, rfl, rfl, rfl, rfl, rfl, rfl, rfl, rfl, trivial⟩ ?_
  refine w_seq ?_
  refine w_region ?_
  refine rw_val (v := .int .u64 u21) (w' := w2) rfl rfl rfl rfl rfl ?_
  refine rw_val (v := .int .u64 (u21 / 2684354560)) (w' := w2) rfl rfl rfl rfl rfl ?_
  refine rw_val (v := .int .u64 2684354560) (w' := w2) rfl rfl rfl rfl rfl ?_
  refine rw_val (v := .int .u64 (u21 / 2684354560 * 2684354560)) (w' := w2) rfl rfl rfl rfl (by simp [go_sem, sEv, sLook, nbeq, i64_w] <;> ((try simp only [u64_wrap]) <;> (try rw [Int.tdiv_eq_ediv_of_nonneg (by omega)]) <;> (try rw [Int.tmod_eq_emod_of_nonneg (by omega)]) <;> omega)) ?_
  refine rw_val (v := .int .u64 (u21 % 2684354560)) (w' := w2) rfl rfl rfl rfl (by simp [go_sem, sEv, sLook, nbeq, i64_w] <;> ((try simp only [u64_wrap]) <;> (try rw [Int.tdiv_eq_ediv_of_nonneg (by omega)]) <;> (try rw [Int.tmod_eq_emod_of_nonneg (by omega)]) <;> omega)) ?_
  refine rw_val (v := .int .u64 (u21 % 2684354560)) (w' := w2) rfl rfl rfl rfl rfl ?_
  refine rw_end ?_
  refine w_weaken (G' := [(2, .int .u64 11529215046068469760), (6, .int .u64 0), (7, .int .u64 0), (8, .int .u64 60), (9, .int .u64 2684354560), (10, .int .u64 0), (14, .int .u64 0), (15, .int .u64 (un32 / 2684354560)), (16, .int .u64 (u21 % 2684354560)), (17, .int .u64 u21), (18, .int .u64 (u21 / 2684354560))]) ⟨rfl, rfl, rfl, rfl, rfl, rfl, rfl, rfl, rfl, rfl, rfl, trivial⟩ ?_
  refine w_seq ?_
  refine w_block ?_
  refine w_loop1 ?_
  refine w_seq ?_
  refine w_seq ?_
  refine w_region ?_
  refine rw_val (v := .int .u64 (u21 / 2684354560)) (w' := w2) rfl rfl rfl rfl rfl ?_
  refine rw_val (v := .bool (decide (4294967296 ≤ (u21 / 2684354560)))) (w' := w2) rfl rfl rfl rfl (by simp [go_sem, sEv, sLook, nbeq, i64_w]) ?_
  refine rw_val (v := .bool (decide (4294967296 ≤ (u21 / 2684354560)))) (w' := w2) rfl rfl rfl rfl rfl ?_
  have hq6 : (decide (4294967296 ≤ (u21 / 2684354560))) = false := by simp; omega
  refine rw_gval (c := decide (4294967296 ≤ (u21 / 2684354560))) (v := .int .u64 (u21 / 2684354560)) (w' := w2) rfl rfl rfl (by simp [hq6]) rfl rfl rfl (by rfl) ?_
  refine rw_gval (c := decide (4294967296 ≤ (u21 / 2684354560))) (v := .int .u64 0) (w' := w2) rfl rfl rfl (by simp [hq6]) rfl rfl rfl (by rfl) ?_
  refine rw_gval (c := decide (4294967296 ≤ (u21 / 2684354560))) (v := .int .u64 0) (w' := w2) rfl rfl rfl (by simp [hq6]) rfl rfl rfl (by simp [go_sem, sEv, sLook, nbeq, i64_w] <;> ((try simp only [u64_wrap]) <;> (try rw [Int.tdiv_eq_ediv_of_nonneg (by omega)]) <;> (try rw [Int.tmod_eq_emod_of_nonneg (by omega)]) <;> omega)) ?_
  refine rw_gval (c := decide (4294967296 ≤ (u21 / 2684354560))) (v := .int .u64 (u21 % 2684354560)) (w' := w2) rfl rfl rfl (by simp [hq6]) rfl rfl rfl (by rfl) ?_
  refine rw_gval (c := decide (4294967296 ≤ (u21 / 2684354560))) (v := .int .u64 (u21 % 2684354560 * 4294967296)) (w' := w2) rfl rfl rfl (by simp [hq6]) rfl rfl rfl (by simp [go_sem, sEv, sLook, nbeq, i64_w] <;> ((try simp only [u64_wrap]) <;> (try rw [Int.tdiv_eq_ediv_of_nonneg (by omega)]) <;> (try rw [Int.tmod_eq_emod_of_nonneg (by omega)]) <;> omega)) ?_
  refine rw_gval (c := decide (4294967296 ≤ (u21 / 2684354560))) (v := .int .u64 0) (w' := w2) rfl rfl rfl (by simp [hq6]) rfl rfl rfl (by rfl) ?_
  refine rw_gval (c := decide (4294967296 ≤ (u21 / 2684354560))) (v := .int .u64 (u21 % 2684354560 * 4294967296)) (w' := w2) rfl rfl rfl (by simp [hq6]) rfl rfl rfl (by simp [go_sem, sEv, sLook, nbeq, i64_w] <;> ((try simp only [u64_wrap]) <;> (try rw [Int.tdiv_eq_ediv_of_nonneg (by omega)]) <;> (try rw [Int.tmod_eq_emod_of_nonneg (by omega)]) <;> omega)) ?_
  refine rw_gval (c := decide (4294967296 ≤ (u21 / 2684354560))) (v := .bool (decide ((u21 % 2684354560 * 4294967296) < 0))) (w' := w2) rfl rfl rfl (by simp [hq6]) rfl rfl rfl (by simp [go_sem, sEv, sLook, nbeq, i64_w]) ?_
  refine rw_val (v := .bool (decide ((u21 % 2684354560 * 4294967296) < 0))) (w' := w2) rfl rfl rfl rfl (by simp [go_sem, sEv, sLook, nbeq, i64_w, hq6]) ?_
  refine rw_end ?_
  refine w_weaken (G' := [(2, .int .u64 11529215046068469760), (6, .int .u64 0), (7, .int .u64 0), (8, .int .u64 60), (9, .int .u64 2684354560), (14, .int .u64 0), (15, .int .u64 (un32 / 2684354560)), (16, .int .u64 (u21 % 2684354560)), (17, .int .u64 u21), (18, .int .u64 (u21 / 2684354560)), (113, .bool (decide ((u21 % 2684354560 * 4294967296) < 0)))]) ⟨rfl, rfl, rfl, rfl, rfl, rfl, rfl, rfl, rfl, rfl, rfl, trivial⟩ ?_
  have hq7 : (decide ((u21 % 2684354560 * 4294967296) < 0)) = false := by simp; omega
  refine w_cond_f rfl rfl hq7 ?_
  refine w_exit rfl ?_
  refine w_seq ?_
  refine w_region ?_
  refine rw_val (v := .int .u64 (un32 / 2684354560)) (w' := w2) rfl rfl rfl rfl rfl ?_
  refine rw_val (v := .int .u64 (un32 / 2684354560 * 4294967296)) (w' := w2) rfl rfl rfl rfl (by simp [go_sem, sEv, sLook, nbeq, i64_w] <;> ((try simp only [u64_wrap]) <;> (try rw [Int.tdiv_eq_ediv_of_nonneg (by omega)]) <;> (try rw [Int.tmod_eq_emod_of_nonneg (by omega)]) <;> omega)) ?_
  refine rw_val (v := .int .u64 (u21 / 2684354560)) (w' := w2) rfl rfl rfl rfl rfl ?_
  refine rw_val (v := .int .u64 (un32 / 2684354560 * 4294967296 + u21 / 2684354560)) (w' := w2) rfl rfl rfl rfl (by simp [go_sem, sEv, sLook, nbeq, i64_w] <;> ((try simp only [u64_wrap]) <;> (try rw [Int.tdiv_eq_ediv_of_nonneg (by omega)]) <;> (try rw [Int.tmod_eq_emod_of_nonneg (by omega)]) <;> omega)) ?_
  refine rw_val (v := .int .u64 u21) (w' := w2) rfl rfl rfl rfl rfl ?_
  refine rw_val (v := .int .u64 (u21 * 4294967296 % 18446744073709551616)) (w' := w2) rfl rfl rfl rfl (by simp [go_sem, sEv, sLook, nbeq, i64_w] <;> ((try simp only [u64_wrap]) <;> (try rw [Int.tdiv_eq_ediv_of_nonneg (by omega)]) <;> (try rw [Int.tmod_eq_emod_of_nonneg (by omega)]) <;> omega)) ?_
  refine rw_val (v := .int .u64 0) (w' := w2) rfl rfl rfl rfl rfl ?_
  refine rw_val (v := .int .u64 (u21 * 4294967296 % 18446744073709551616)) (w' := w2) rfl rfl rfl rfl (by simp [go_sem, sEv, sLook, nbeq, i64_w] <;> ((try simp only [u64_wrap]) <;> (try rw [Int.tdiv_eq_ediv_of_nonneg (by omega)]) <;> (try rw [Int.tmod_eq_emod_of_nonneg (by omega)]) <;> omega)) ?_
  refine rw_val (v := .int .u64 (u21 / 2684354560)) (w' := w2) rfl rfl rfl rfl rfl ?_
  refine rw_val (v := .int .u64 11529215046068469760) (w' := w2) rfl rfl rfl rfl rfl ?_
  refine rw_val (v := .int .u64 (u21 / 2684354560 * 11529215046068469760 % 18446744073709551616)) (w' := w2) rfl rfl rfl rfl (by simp [go_sem, sEv, sLook, nbeq, i64_w] <;> ((try simp only [u64_wrap]) <;> (try rw [Int.tdiv_eq_ediv_of_nonneg (by omega)]) <;> (try rw [Int.tmod_eq_emod_of_nonneg (by omega)]) <;> omega)) ?_
  refine rw_val (v := .int .u64 (u21 % 2684354560 * 4294967296)) (w' := w2) rfl rfl rfl rfl (by simp [go_sem, sEv, sLook, nbeq, i64_w] <;> ((try simp only [u64_wrap]) <;> (try rw [Int.tdiv_eq_ediv_of_nonneg (by omega)]) <;> (try rw [Int.tmod_eq_emod_of_nonneg (by omega)]) <;> omega)) ?_
  refine rw_val (v := .int .u64 60) (w' := w2) rfl rfl rfl rfl rfl ?_
  refine rw_val (v := .int .u64 (u21 % 2684354560 / 268435456)) (w' := w2) rfl rfl rfl rfl (by simp [go_sem, sEv, sLook, nbeq, i64_w] <;> ((try simp only [u64_wrap]) <;> (try rw [Int.tdiv_eq_ediv_of_nonneg (by omega)]) <;> (try rw [Int.tmod_eq_emod_of_nonneg (by omega)]) <;> omega)) ?_
  refine rw_val (v := .int .u64 (un32 / 2684354560 * 4294967296 + u21 / 2684354560)) (w' := w2) rfl rfl rfl rfl rfl ?_
  refine rw_val (v := .int .u64 (u21 % 2684354560 / 268435456)) (w' := w2) rfl rfl rfl rfl rfl ?_
  refine rw_end ?_
  refine w_weaken (G' := [(6, .int .u64 (un32 / 2684354560 * 4294967296 + u21 / 2684354560)), (7, .int .u64 (u21 % 2684354560 / 268435456))]) ⟨rfl, rfl, trivial⟩ ?_
  refine w_ret (post_ret2 rfl rfl rfl ?_)
  exact ⟨by rw [hq, hr], hb3⟩
set_option maxHeartbeats 4000000 in
theorem div64_zero (lo : Int) (hlo : 0 ≤ lo ∧ lo < 18446744073709551616) (w : World) :
    Calls Try.prog 41 #[.int .u64 0, .int .u64 lo, .int .u64 10] w fun e w' => e = .returned (.tuple #[.int .u64 (lo / 10), .int .u64 (lo % 10)]) ∧ Below w.heap.size w w' := by
  refine calls_flow Try.func41 rfl 135 rfl (Nat.le_of_ble_eq_true rfl) [(0, .int .u64 0), (1, .int .u64 lo), (2, .int .u64 10)] ?_ ?_
  · intro t v h; exact args_look rfl t v h
  refine w_seq ?_
  refine w_region ?_
  refine rw_val (v := .int .u64 0) (w' := w) rfl rfl rfl rfl rfl ?_
  refine rw_val (v := .int .u64 0) (w' := w) rfl rfl rfl rfl rfl ?_
  refine rw_end ?_
  refine w_seq ?_
  refine w_seq ?_
  refine w_region ?_
  refine rw_val (v := .int .u64 10) (w' := w) rfl rfl rfl rfl rfl ?_
  refine rw_val (v := .bool false) (w' := w) rfl rfl rfl rfl (by simp [go_sem, sEv, sLook, nbeq, i64_w]) ?_
  refine rw_end ?_
  refine w_cond_f rfl rfl rfl ?_
  refine w_skip ?_
  refine w_seq ?_
  refine w_seq ?_
  refine w_region ?_
  refine rw_val (v := .int .u64 10) (w' := w) rfl rfl rfl rfl rfl ?_
  refine rw_val (v := .int .u64 0) (w' := w) rfl rfl rfl rfl rfl ?_
  refine rw_val (v := .bool false) (w' := w) rfl rfl rfl rfl (by simp [go_sem, sEv, sLook, nbeq, i64_w]) ?_
  refine rw_end ?_
  refine w_cond_f rfl rfl rfl ?_
  refine w_skip ?_
  refine w_seq ?_
  refine w_seq ?_
  refine w_region ?_
  refine rw_val (v := .int .u64 0) (w' := w) rfl rfl rfl rfl rfl ?_
  refine rw_val (v := .bool true) (w' := w) rfl rfl rfl rfl (by simp [go_sem, sEv, sLook, nbeq, i64_w]) ?_
  refine rw_end ?_
  refine w_cond_t rfl rfl rfl ?_
  refine w_seq ?_
  refine w_draw (M := [0, 0, 3, 0, 0, 24, 7, 127]) (ss := [Is (.int .u64 lo), Is (.int .u64 10), Is (.int .u64 (lo / 10)), Is (.int .u64 lo), Is (.int .u64 10), Is (.int .u64 (lo % 10)), Is (.int .u64 (lo / 10)), Is (.int .u64 (lo % 10))]) rfl (by decide +kernel) ?_
  refine t_is (.int .u64 lo) rfl rfl rfl rfl (fun W_ hW_ F_ => rfl) ?_
  refine t_is (.int .u64 10) rfl rfl rfl rfl (fun W_ hW_ F_ => rfl) ?_
  refine t_is (.int .u64 (lo / 10)) rfl rfl rfl rfl (fun W_ hW_ F_ => by simp [go_sem, sEv, sLook, nbeq, i64_w] <;> ((try simp only [u64_wrap]) <;> (try rw [Int.tdiv_eq_ediv_of_nonneg (by omega)]) <;> (try rw [Int.tmod_eq_emod_of_nonneg (by omega)]) <;> omega)) ?_
  refine t_is (.int .u64 lo) rfl rfl rfl rfl (fun W_ hW_ F_ => rfl) ?_
  refine t_is (.int .u64 10) rfl rfl rfl rfl (fun W_ hW_ F_ => rfl) ?_
  refine t_is (.int .u64 (lo % 10)) rfl rfl rfl rfl (fun W_ hW_ F_ => by simp [go_sem, sEv, sLook, nbeq, i64_w] <;> ((try simp only [u64_wrap]) <;> (try rw [Int.tdiv_eq_ediv_of_nonneg (by omega)]) <;> (try rw [Int.tmod_eq_emod_of_nonneg (by omega)]) <;> omega)) ?_
  refine t_is (.int .u64 (lo / 10)) rfl rfl rfl rfl (fun W_ hW_ F_ => rfl) ?_
  refine t_is (.int .u64 (lo % 10)) rfl rfl rfl rfl (fun W_ hW_ F_ => rfl) ?_
  refine t_end ?_
  intro w1 hb2_ F3
  have hb2 := below_of_drew hb2_
  have hs_w1 := hb2.size
  refine w_weaken (G' := [(0, .int .u64 0), (1, .int .u64 lo), (2, .int .u64 10), (6, .int .u64 (lo / 10)), (7, .int .u64 (lo % 10))]) ⟨rfl, rfl, rfl, rfl, rfl, trivial⟩ ?_
  refine w_ret (post_ret2 rfl rfl rfl ?_)
  exact ⟨rfl, hb2⟩
theorem or_fact (hi lo : Int) (h : 0 ≤ hi ∧ hi < 10) (hl : 0 ≤ lo ∧ lo < 18446744073709551616) : bits .or .u64 (hi * 1152921504606846976) (lo / 16) = hi * 1152921504606846976 + lo / 16 := by
  obtain ⟨a, rfl⟩ := Int.eq_ofNat_of_zero_le h.1
  obtain ⟨b, rfl⟩ := Int.eq_ofNat_of_zero_le hl.1
  have h1 : b / 16 < 2 ^ 60 := by omega
  have h2 := Nat.two_pow_add_eq_or_of_lt h1 a
  have h3 := bits_or_u64_nat (a * 1152921504606846976) (b / 16) (by omega) (by omega)
  have e1 : ((a * 1152921504606846976 : Nat) : Int) = (a : Int) * 1152921504606846976 := by omega
  have e2 : ((b / 16 : Nat) : Int) = (b : Int) / 16 := by omega
  rw [e1, e2] at h3
  rw [h3, show a * 1152921504606846976 = 2 ^ 60 * a by omega, ← h2]
  omega
theorem and_fact (lo : Int) (hl : 0 ≤ lo ∧ lo < 18446744073709551616) : bits .and .u64 (lo % 16 * 1152921504606846976) 4294967295 = 0 := by
  obtain ⟨b, rfl⟩ := Int.eq_ofNat_of_zero_le hl.1
  have h3 := bits_and_u64_nat (b % 16 * 1152921504606846976) 4294967295 (by omega) (by omega)
  have e1 : ((b % 16 * 1152921504606846976 : Nat) : Int) = (b : Int) % 16 * 1152921504606846976 := by omega
  rw [e1] at h3
  refine h3.trans ?_
  have h4 := Nat.and_two_pow_sub_one_eq_mod (b % 16 * 1152921504606846976) 32
  rw [show (2 ^ 32 - 1 : Nat) = 4294967295 by decide] at h4
  rw [h4]
  omega
theorem div64_calls (hi lo : Int) (hhi : 0 ≤ hi ∧ hi < 10) (hlo : 0 ≤ lo ∧ lo < 18446744073709551616) (w : World) :
    Calls Try.prog 41 #[.int .u64 hi, .int .u64 lo, .int .u64 10] w fun e w' => e = .returned (.tuple #[.int .u64 ((hi * 18446744073709551616 + lo) / 10), .int .u64 ((hi * 18446744073709551616 + lo) % 10)]) ∧ Below w.heap.size w w' := by
  by_cases h0 : hi = 0
  · subst h0
    have h := div64_zero lo hlo w
    rw [show (0 : Int) * 18446744073709551616 + lo = lo by omega]
    exact h
  · exact div64_main hi lo (hi * 1152921504606846976 + lo / 16) ((hi * 1152921504606846976 + lo / 16) % 2684354560 * 4294967296 + lo % 16 * 268435456) _ _ hhi hlo (by simpa using h0) rfl rfl (or_fact hi lo hhi hlo) (and_fact lo hlo) (by omega) (by omega) w
theorem u8_wrap (x : Int) (h : 0 ≤ x) (h2 : x < 256) : IntKind.u8.wrap x = x := by simp [IntKind.wrap, IntKind.bits, IntKind.signed] <;> omega
set_option maxHeartbeats 4000000 in
theorem tenth_calls (hi lo : Int) (hhi : 0 ≤ hi ∧ hi < 18446744073709551616) (hlo : 0 ≤ lo ∧ lo < 18446744073709551616) (w : World) :
    Calls Try.prog 40 #[.int .u64 hi, .int .u64 lo] w fun e w' => e = .returned (.tuple #[.int .u64 (hi / 10), .int .u64 ((hi % 10 * 18446744073709551616 + lo) / 10), .int .u8 ((hi % 10 * 18446744073709551616 + lo) % 10)]) ∧ Below w.heap.size w w' := by
  refine calls_flow Try.func40 rfl 25 rfl (Nat.le_of_ble_eq_true rfl) [(0, .int .u64 hi), (1, .int .u64 lo)] ?_ ?_
  · intro t v h; exact args_look rfl t v h
  refine w_seq ?_
  refine w_region ?_
  refine rw_val (v := .int .u64 0) (w' := w) rfl rfl rfl rfl rfl ?_
  refine rw_val (v := .int .u64 0) (w' := w) rfl rfl rfl rfl rfl ?_
  refine rw_val (v := .int .u8 0) (w' := w) rfl rfl rfl rfl rfl ?_
  refine rw_end ?_
  refine w_seq ?_
  refine w_region ?_
  refine rw_val (v := .int .u64 hi) (w' := w) rfl rfl rfl rfl rfl ?_
  refine rw_val (v := .int .u64 (hi / 10)) (w' := w) rfl rfl rfl rfl (by simp [go_sem, sEv, sLook, nbeq, i64_w] <;> ((try simp only [u64_wrap]) <;> (try rw [Int.tdiv_eq_ediv_of_nonneg (by omega)]) <;> (try rw [Int.tmod_eq_emod_of_nonneg (by omega)]) <;> omega)) ?_
  refine rw_val (v := .int .u64 hi) (w' := w) rfl rfl rfl rfl rfl ?_
  refine rw_val (v := .int .u64 (hi % 10)) (w' := w) rfl rfl rfl rfl (by simp [go_sem, sEv, sLook, nbeq, i64_w] <;> ((try simp only [u64_wrap]) <;> (try rw [Int.tdiv_eq_ediv_of_nonneg (by omega)]) <;> (try rw [Int.tmod_eq_emod_of_nonneg (by omega)]) <;> omega)) ?_
  refine rw_val (v := .int .u64 (hi / 10)) (w' := w) rfl rfl rfl rfl rfl ?_
  refine rw_val (v := .int .u64 (hi % 10)) (w' := w) rfl rfl rfl rfl rfl ?_
  refine rw_end ?_
  refine w_weaken (G' := [(1, .int .u64 lo), (4, .int .u64 0), (5, .int .u64 0), (6, .int .u8 0), (7, .int .u64 (hi / 10)), (8, .int .u64 (hi % 10))]) ⟨rfl, rfl, rfl, rfl, rfl, rfl, trivial⟩ ?_
  refine w_seq ?_
  refine w_region ?_
  refine rw_val (v := .int .u64 (hi % 10)) (w' := w) rfl rfl rfl rfl rfl ?_
  refine rw_val (v := .int .u64 lo) (w' := w) rfl rfl rfl rfl rfl ?_
  refine rw_call rfl rfl rfl rfl (f := 41) (args := #[.int .u64 (hi % 10), .int .u64 lo, .int .u64 10]) (by simp [go_sem, sEv, sLook, nbeq, i64_w]) (div64_calls (hi % 10) lo (by omega) (by omega) w) ?_
  rintro e_ w1 ⟨rfl, hb2⟩
  refine ⟨_, rfl, ?_⟩
  have hs_w1 := hb2.size
  refine rw_val (v := .tuple #[.int .u64 ((hi % 10 * 18446744073709551616 + lo) / 10), .int .u64 ((hi % 10 * 18446744073709551616 + lo) % 10)]) (w' := w1) rfl rfl rfl rfl rfl ?_
  refine rw_val (v := .int .u64 ((hi % 10 * 18446744073709551616 + lo) / 10)) (w' := w1) rfl rfl rfl rfl (by simp [go_sem, sEv, sLook, nbeq, i64_w]) ?_
  refine rw_val (v := .int .u64 ((hi % 10 * 18446744073709551616 + lo) % 10)) (w' := w1) rfl rfl rfl rfl (by simp [go_sem, sEv, sLook, nbeq, i64_w]) ?_
  refine rw_val (v := .int .u64 ((hi % 10 * 18446744073709551616 + lo) / 10)) (w' := w1) rfl rfl rfl rfl rfl ?_
  refine rw_val (v := .int .u64 ((hi % 10 * 18446744073709551616 + lo) % 10)) (w' := w1) rfl rfl rfl rfl rfl ?_
  refine rw_end ?_
  refine w_weaken (G' := [(4, .int .u64 0), (5, .int .u64 0), (6, .int .u8 0), (7, .int .u64 (hi / 10)), (9, .int .u64 ((hi % 10 * 18446744073709551616 + lo) / 10)), (10, .int .u64 ((hi % 10 * 18446744073709551616 + lo) % 10))]) ⟨rfl, rfl, rfl, rfl, rfl, rfl, trivial⟩ ?_
  refine w_seq ?_
  refine w_region ?_
  refine rw_val (v := .int .u64 (hi / 10)) (w' := w1) rfl rfl rfl rfl rfl ?_
  refine rw_val (v := .int .u64 ((hi % 10 * 18446744073709551616 + lo) / 10)) (w' := w1) rfl rfl rfl rfl rfl ?_
  refine rw_val (v := .int .u64 ((hi % 10 * 18446744073709551616 + lo) % 10)) (w' := w1) rfl rfl rfl rfl rfl ?_
  refine rw_val (v := .int .u8 ((hi % 10 * 18446744073709551616 + lo) % 10)) (w' := w1) rfl rfl rfl rfl (by simp [go_sem, sEv, sLook, nbeq, i64_w, Try.underlying44, Try.underlying5]; exact u8_wrap _ (by omega) (by omega)) ?_
  refine rw_val (v := .int .u64 (hi / 10)) (w' := w1) rfl rfl rfl rfl rfl ?_
  refine rw_val (v := .int .u64 ((hi % 10 * 18446744073709551616 + lo) / 10)) (w' := w1) rfl rfl rfl rfl rfl ?_
  refine rw_val (v := .int .u8 ((hi % 10 * 18446744073709551616 + lo) % 10)) (w' := w1) rfl rfl rfl rfl rfl ?_
  refine rw_end ?_
  refine w_weaken (G' := [(4, .int .u64 (hi / 10)), (5, .int .u64 ((hi % 10 * 18446744073709551616 + lo) / 10)), (6, .int .u8 ((hi % 10 * 18446744073709551616 + lo) % 10))]) ⟨rfl, rfl, rfl, trivial⟩ ?_
  refine w_ret (post_ret3 rfl rfl rfl rfl ?_)
  exact ⟨rfl, hb2⟩
end Go.Proofs.Ythhepaikogcddaa.PFloorGroup
