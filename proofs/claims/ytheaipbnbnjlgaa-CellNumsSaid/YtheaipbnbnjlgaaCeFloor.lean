/- What cells use of the floor; which sample is later. -/
import Derived.Test.YtheaipbnbnjlgaaCeRef
import Derived.Laws.Externs
import Derived.Laws.Bits64b
namespace Go.Proofs.Ytheaipbnbnjlgaa.Ce
open Go.RowKit Go.Proofs.YtheaipbnbnjlgaaW.PrintWords Go.Proofs.YtheaipbnbnjlgaaW.PrintLast Go.Proofs.YtheaipbnbnjlgaaW.PrintMore
open Go.Proofs.Ytheaipbnbnjlgaa.Flow
set_option linter.unusedVariables false
set_option linter.unusedSimpArgs false

theorem u64_wrap (x : Int) : IntKind.u64.wrap x = x % 18446744073709551616 := by simp [IntKind.wrap, IntKind.bits, IntKind.signed] <;> omega
theorem u64_range (x : Int) : 0 ≤ IntKind.u64.wrap x ∧ IntKind.u64.wrap x < 18446744073709551616 := by rw [u64_wrap]; omega
theorem add64_call (x y c : Int) (hx : 0 ≤ x ∧ x < 18446744073709551616) (hy : 0 ≤ y ∧ y < 18446744073709551616) (hc : 0 ≤ c ∧ c ≤ 1) (w : World) :
    (callFunc 40 #[.int .u64 x, .int .u64 y, .int .u64 c]).run Try.prog w = .ok (.value (.tuple #[.int .u64 ((x + y + c) % 18446744073709551616), .int .u64 ((x + y + c) / 18446744073709551616)])) w := by
  obtain ⟨x, rfl⟩ := Int.eq_ofNat_of_zero_le hx.1
  obtain ⟨y, rfl⟩ := Int.eq_ofNat_of_zero_le hy.1
  obtain ⟨c, rfl⟩ := Int.eq_ofNat_of_zero_le hc.1
  have e0 : ∀ p q : Int, ((Result.ok (Value.tuple #[.int .u64 p, .int .u64 q]) w).andThen fun v w' => Result.ok (Next.value v) w') = .ok (.value (.tuple #[.int .u64 p, .int .u64 q])) w := fun _ _ => rfl
  rw [run_callFunc_extern Try.func40 (by kernel_rfl) (by kernel_rfl) (by kernel_rfl) (e := add64Entry) (by kernel_rfl), run_add64 x y c (by omega) (by omega) (by omega) (by omega)]
  exact e0 _ _
theorem add64_run {G : Env} {o : Oper} {w : World} {a b d : Operand} {ts : Array TypeId} {x y c s t : Int} (hop : o.op = .call { callee := .value (.func 40), args := #[a, b, d], argTypes := ts }) (ha : sEv G a = .int .u64 x) (hb : sEv G b = .int .u64 y)
    (hx : 0 ≤ x ∧ x < 18446744073709551616) (hy : 0 ≤ y ∧ y < 18446744073709551616) (hc : 0 ≤ c ∧ c ≤ 1) (hd : sEv G d = .int .u64 c) (hs : (x + y + c) % 18446744073709551616 = s) (ht : (x + y + c) / 18446744073709551616 = t) :
    (execOp (sEv G) o).run Try.prog w = .ok (.value (.tuple #[.int .u64 s, .int .u64 t])) w := by
  have h := add64_call x y c hx hy hc w
  rw [hs, ht] at h
  have hf : sEv G (.func 40) = .func (.func 40) #[] #[] := rfl
  unfold execOp
  simp [hop, resolve, Deferred.ofValue, invoke, hf, ha, hb, hd, h]

theorem u8_wrap (x : Int) (h : 0 ≤ x) (h2 : x < 256) : IntKind.u8.wrap x = x := by simp [IntKind.wrap, IntKind.bits, IntKind.signed] <;> omega
theorem wrap_id {x : Int} (h1 : -9223372036854775808 ≤ x) (h2 : x ≤ 9223372036854775807) : wrap64 x = x := by unfold wrap64; omega
set_option maxHeartbeats 4000000 in
theorem add_calls (ah al bh bl : Int) (hal : 0 ≤ al ∧ al < 18446744073709551616) (hbl : 0 ≤ bl ∧ bl < 18446744073709551616) (w : World) :
    Calls Try.prog 34 #[.agg #[.int .i64 ah, .int .u64 al], .agg #[.int .i64 bh, .int .u64 bl]] w fun e w' => e = .returned (.agg #[.int .i64 (wrap64 (ah + bh + (al + bl) / 18446744073709551616)), .int .u64 ((al + bl) % 18446744073709551616)]) ∧ Below w.heap.size w w' := by
  refine calls_flow Try.func34 rfl 32 rfl (Nat.le_of_ble_eq_true rfl) [(0, .agg #[.int .i64 ah, .int .u64 al]), (1, .agg #[.int .i64 bh, .int .u64 bl])] ?_ ?_
  · intro t v h; exact args_look rfl t v h
  refine w_seq ?_
  refine w_region ?_
  refine rw_new (cs := #[.int .i64 ah, .int .u64 al]) (t := 26) (fun g => .pointer (some ⟨g, 0, none⟩)) rfl rfl rfl rfl (by simp [go_sem, sEv, sLook, nbeq, i64_w]) ?_
  intro g1 w2 hg6 hz5 hb3 hk4
  have hs_w2 := hb3.size
  refine rw_new (cs := #[.int .i64 bh, .int .u64 bl]) (t := 26) (fun g => .pointer (some ⟨g, 0, none⟩)) rfl rfl rfl rfl (by simp [go_sem, sEv, sLook, nbeq, i64_w]) ?_
  intro g7 w8 hg12 hz11 hb9 hk10
  have hs_w8 := hb9.size
  refine rw_new (cs := #[.int .i64 0, .int .u64 0]) (t := 26) (fun g => .pointer (some ⟨g, 0, none⟩)) rfl rfl rfl rfl (by kernel_rfl) ?_
  intro g13 w14 hg18 hz17 hb15 hk16
  have hs_w14 := hb15.size
  refine rw_end ?_
  refine w_seq ?_
  refine w_region ?_
  refine rw_val (v := .pointer (some ⟨g1, 1, none⟩)) (w' := w14) rfl rfl rfl rfl (by simp [go_sem, sEv, sLook, nbeq, i64_w, Try.underlying26]) ?_
  refine rw_val (v := .int .u64 al) (w' := w14) rfl rfl rfl rfl (by have eb_ := ((hk4.on hb9).on hb15); have e0_ := eb_.cellv (i := 1) (v := (.int .u64 al : Value)) rfl; simp [go_sem, sEv, sLook, nbeq, i64_w, e0_]) ?_
  refine rw_val (v := .pointer (some ⟨g7, 1, none⟩)) (w' := w14) rfl rfl rfl rfl (by simp [go_sem, sEv, sLook, nbeq, i64_w, Try.underlying26]) ?_
  refine rw_val (v := .int .u64 bl) (w' := w14) rfl rfl rfl rfl (by have eb_ := (hk10.on hb15); have e0_ := eb_.cellv (i := 1) (v := (.int .u64 bl : Value)) rfl; simp [go_sem, sEv, sLook, nbeq, i64_w, e0_]) ?_
  refine rw_val (v := .tuple #[.int .u64 ((al + bl) % 18446744073709551616), .int .u64 ((al + bl) / 18446744073709551616)]) (w' := w14) rfl rfl rfl rfl (add64_run rfl rfl rfl (by first | omega | exact u64_range _) (by first | omega | exact u64_range _) (by omega) rfl (by omega) (by omega)) ?_
  refine rw_val (v := .tuple #[.int .u64 ((al + bl) % 18446744073709551616), .int .u64 ((al + bl) / 18446744073709551616)]) (w' := w14) rfl rfl rfl rfl rfl ?_
  refine rw_val (v := .int .u64 ((al + bl) % 18446744073709551616)) (w' := w14) rfl rfl rfl rfl (by simp [go_sem, sEv, sLook, nbeq, i64_w]) ?_
  refine rw_val (v := .int .u64 ((al + bl) / 18446744073709551616)) (w' := w14) rfl rfl rfl rfl (by simp [go_sem, sEv, sLook, nbeq, i64_w]) ?_
  refine rw_val (v := .int .u64 ((al + bl) % 18446744073709551616)) (w' := w14) rfl rfl rfl rfl rfl ?_
  refine rw_val (v := .int .u64 ((al + bl) / 18446744073709551616)) (w' := w14) rfl rfl rfl rfl rfl ?_
  refine rw_end ?_
  refine w_weaken (G' := [(2, .pointer (some ⟨g1, 0, none⟩)), (3, .pointer (some ⟨g7, 0, none⟩)), (4, .pointer (some ⟨g13, 0, none⟩)), (5, .int .u64 ((al + bl) % 18446744073709551616)), (6, .int .u64 ((al + bl) / 18446744073709551616))]) ⟨rfl, rfl, rfl, rfl, rfl, trivial⟩ ?_
  refine w_seq ?_
  refine w_region ?_
  refine rw_val (v := .pointer (some ⟨g1, 0, none⟩)) (w' := w14) rfl rfl rfl rfl (by simp [go_sem, sEv, sLook, nbeq, i64_w, Try.underlying26]) ?_
  refine rw_val (v := .int .i64 ah) (w' := w14) rfl rfl rfl rfl (by have eb_ := ((hk4.on hb9).on hb15); have e0_ := eb_.cellv (i := 0) (v := (.int .i64 ah : Value)) rfl; simp [go_sem, sEv, sLook, nbeq, i64_w, e0_]) ?_
  refine rw_val (v := .int .u64 (IntKind.u64.wrap (ah))) (w' := w14) rfl rfl rfl rfl (by simp [go_sem, sEv, sLook, nbeq, i64_w, Try.underlying3, Try.underlying69]) ?_
  refine rw_val (v := .pointer (some ⟨g7, 0, none⟩)) (w' := w14) rfl rfl rfl rfl (by simp [go_sem, sEv, sLook, nbeq, i64_w, Try.underlying26]) ?_
  refine rw_val (v := .int .i64 bh) (w' := w14) rfl rfl rfl rfl (by have eb_ := (hk10.on hb15); have e0_ := eb_.cellv (i := 0) (v := (.int .i64 bh : Value)) rfl; simp [go_sem, sEv, sLook, nbeq, i64_w, e0_]) ?_
  refine rw_val (v := .int .u64 (IntKind.u64.wrap (bh))) (w' := w14) rfl rfl rfl rfl (by simp [go_sem, sEv, sLook, nbeq, i64_w, Try.underlying3, Try.underlying69]) ?_
  refine rw_val (v := .int .u64 ((al + bl) / 18446744073709551616)) (w' := w14) rfl rfl rfl rfl rfl ?_
  refine rw_val (v := .tuple #[.int .u64 ((ah + bh + (al + bl) / 18446744073709551616) % 18446744073709551616), .int .u64 ((IntKind.u64.wrap ah + IntKind.u64.wrap bh + (al + bl) / 18446744073709551616) / 18446744073709551616)]) (w' := w14) rfl rfl rfl rfl (add64_run rfl rfl rfl (by first | omega | exact u64_range _) (by first | omega | exact u64_range _) (by omega) rfl (by simp only [u64_wrap]; omega) (by rfl)) ?_
  refine rw_val (v := .tuple #[.int .u64 ((ah + bh + (al + bl) / 18446744073709551616) % 18446744073709551616), .int .u64 ((IntKind.u64.wrap ah + IntKind.u64.wrap bh + (al + bl) / 18446744073709551616) / 18446744073709551616)]) (w' := w14) rfl rfl rfl rfl rfl ?_
  refine rw_val (v := .int .u64 ((ah + bh + (al + bl) / 18446744073709551616) % 18446744073709551616)) (w' := w14) rfl rfl rfl rfl (by simp [go_sem, sEv, sLook, nbeq, i64_w]) ?_
  refine rw_val (v := .int .u64 ((IntKind.u64.wrap ah + IntKind.u64.wrap bh + (al + bl) / 18446744073709551616) / 18446744073709551616)) (w' := w14) rfl rfl rfl rfl (by simp [go_sem, sEv, sLook, nbeq, i64_w]) ?_
  refine rw_val (v := .int .u64 ((ah + bh + (al + bl) / 18446744073709551616) % 18446744073709551616)) (w' := w14) rfl rfl rfl rfl rfl ?_
  refine rw_val (v := .int .u64 ((IntKind.u64.wrap ah + IntKind.u64.wrap bh + (al + bl) / 18446744073709551616) / 18446744073709551616)) (w' := w14) rfl rfl rfl rfl rfl ?_
  refine rw_end ?_
  refine w_weaken (G' := [(4, .pointer (some ⟨g13, 0, none⟩)), (5, .int .u64 ((al + bl) % 18446744073709551616)), (7, .int .u64 ((ah + bh + (al + bl) / 18446744073709551616) % 18446744073709551616))]) ⟨rfl, rfl, rfl, trivial⟩ ?_
  refine w_seq ?_
  refine w_region ?_
  refine rw_val (v := .int .u64 ((ah + bh + (al + bl) / 18446744073709551616) % 18446744073709551616)) (w' := w14) rfl rfl rfl rfl rfl ?_
  refine rw_val (v := .int .i64 (wrap64 (ah + bh + (al + bl) / 18446744073709551616))) (w' := w14) rfl rfl rfl rfl (by exact run_int (a := wrap64 ((ah + bh + (al + bl) / 18446744073709551616) % 18446744073709551616)) (by simp [go_sem, sEv, sLook, nbeq, i64_w, Try.underlying69, Try.underlying3]) (by unfold wrap64; omega)) ?_
  refine rw_val (v := .int .u64 ((al + bl) % 18446744073709551616)) (w' := w14) rfl rfl rfl rfl rfl ?_
  refine rw_val (v := .agg #[.int .i64 (wrap64 (ah + bh + (al + bl) / 18446744073709551616)), .int .u64 ((al + bl) % 18446744073709551616)]) (w' := w14) rfl rfl rfl rfl (by kernel_rfl) ?_
  have hb22 := hk16
  refine rw_store (g := g13) (i := 0) (l := [.int .i64 (wrap64 (ah + bh + (al + bl) / 18446744073709551616)), .int .u64 ((al + bl) % 18446744073709551616)]) (cs' := #[.int .i64 (wrap64 (ah + bh + (al + bl) / 18446744073709551616)), .int .u64 ((al + bl) % 18446744073709551616)]) rfl rfl rfl hb22 rfl (by have e0_ := hb22.cellv (i := 0) (v := (.int .i64 0 : Value)) rfl; have f0_ := hb22.frozen 0; have e1_ := hb22.cellv (i := 1) (v := (.int .u64 0 : Value)) rfl; have f1_ := hb22.frozen 1; simp [go_sem, sEv, sLook, nbeq, i64_w, putCells, e0_, f0_, e1_, f1_, Try.underlying26]) ?_
  intro w19 hk20 hk21
  have hs_w19 := hk20.size
  refine rw_end ?_
  refine w_weaken (G' := [(4, .pointer (some ⟨g13, 0, none⟩))]) ⟨rfl, trivial⟩ ?_
  refine w_ret (post_retc (v := .agg #[.int .i64 (wrap64 (ah + bh + (al + bl) / 18446744073709551616)), .int .u64 ((al + bl) % 18446744073709551616)]) rfl rfl (by have eb_ := hk21; have e0_ := eb_.cellv (i := 0) (v := (.int .i64 (wrap64 (ah + bh + (al + bl) / 18446744073709551616)) : Value)) rfl; have e1_ := eb_.cellv (i := 1) (v := (.int .u64 ((al + bl) % 18446744073709551616) : Value)) rfl; simp [go_sem, e0_, e1_, Try.underlying26]) ?_)
  exact ⟨rfl, (hk20.below (by omega) (chain (chain hb3 hb9) hb15))⟩

/-- How many binary digits a number has. -/
def blen (n : Nat) : Nat := if n = 0 then 0 else n.log2 + 1
theorem blen_spec (n k : Nat) (h : n < 2 ^ k) (h2 : k = 0 ∨ 2 ^ (k - 1) ≤ n) : blen n = k := by
  unfold blen
  rcases h2 with h2 | h2
  · subst h2
    have : n = 0 := by omega
    rw [if_pos this]
  · have h0 : 0 < 2 ^ (k - 1) := Nat.two_pow_pos _
    rw [if_neg (by omega)]
    have h3 : n.log2 < k := (Nat.log2_lt (by omega)).2 h
    have h4 : k - 1 ≤ n.log2 := (Nat.le_log2 (by omega)).2 h2
    omega
theorem blen_lt (n : Nat) : n < 2 ^ blen n := by
  unfold blen
  split
  · omega
  · exact Nat.lt_log2_self
theorem blen_ge (n : Nat) (h : n ≠ 0) : 2 ^ (blen n - 1) ≤ n := by
  unfold blen
  rw [if_neg h]
  exact Nat.log2_self_le h
theorem blen_pos (n : Nat) (h : n ≠ 0) : 0 < blen n := by
  unfold blen
  rw [if_neg h]
  omega
theorem blen_le (n k : Nat) (h : n < 2 ^ k) : blen n ≤ k := by
  by_cases h0 : n = 0
  · subst h0
    simp [blen]
  · unfold blen
    rw [if_neg h0]
    have : n.log2 < k := (Nat.log2_lt h0).2 h
    omega
theorem blen_shift (n k : Nat) (h : 2 ^ k ≤ n) : blen n = k + blen (n / 2 ^ k) := by
  have hp : 0 < 2 ^ k := Nat.two_pow_pos _
  have h0 : n / 2 ^ k ≠ 0 := by
    have := (Nat.one_le_div_iff hp).2 h
    omega
  have h1 := blen_lt (n / 2 ^ k)
  have h2 := blen_ge (n / 2 ^ k) h0
  have h3 := blen_pos (n / 2 ^ k) h0
  refine blen_spec n _ ?_ (Or.inr ?_)
  · rw [Nat.pow_add]
    have := (Nat.div_lt_iff_lt_mul hp).1 h1
    rw [Nat.mul_comm]
    exact this
  · rw [show k + blen (n / 2 ^ k) - 1 = k + (blen (n / 2 ^ k) - 1) by omega, Nat.pow_add, Nat.mul_comm]
    exact (Nat.le_div_iff_mul_le hp).1 h2
theorem run_value {P : Program} {s : Sem Value} {v : Value} {w w' : World} (h : s.run P w = .ok v w') : (do pure (Next.value (← s)) : Sem Next).run P w = .ok (.value v) w' := by simp [h]
theorem tab_index {P : Program} {t : TypeId} {s : ByteArray} (hu : P.underlying t = some .string) (ht : (List.range 256).all (fun i => (s.get! i).toNat == blen i) = true) (hs : s.size = 256) (m : Nat) (h : m < 256) (w : World) :
    (Instr.index t (.string s) (.int .u8 (m : Int))).run P w = .ok (.int .u8 ((blen m : Nat) : Int)) w := by
  rw [run_index_string (w := w) t s .u8 (m : Int) hu, dif_pos ⟨by omega, by omega⟩]
  have h1 := List.all_eq_true.1 ht m (List.mem_range.2 h)
  have h2 : (s.get! m).toNat = blen m := by simpa using h1
  have h3 : s.get! m = s[m]'(by omega) := by
    show s.data[m]! = _
    rw [getElem!_pos s.data m (by show m < s.size; omega)]
    rfl
  rw [h3] at h2
  simp only [Int.toNat_natCast]
  rw [h2]
set_option maxRecDepth 100000 in
set_option maxHeartbeats 4000000 in
theorem len64_calls (n : Nat) (hn : n < 18446744073709551616) (w : World) :
    Calls Try.prog 39 #[.int .u64 (n : Int)] w fun e w' => e = .returned (.int .i64 ((blen n : Nat) : Int)) ∧ Below w.heap.size w w' := by
  refine calls_flow Try.func39 rfl 25 rfl (Nat.le_of_ble_eq_true rfl) [(0, .int .u64 (n : Int))] ?_ ?_
  · intro t v h; exact args_look rfl t v h
  refine w_seq ?_
  refine w_region ?_
  refine rw_val (v := .int .i64 0) (w' := w) rfl rfl rfl rfl rfl ?_
  refine rw_end ?_
  refine w_seq ?_
  refine w_seq ?_
  refine w_region ?_
  refine rw_val (v := .int .u64 (n : Int)) (w' := w) rfl rfl rfl rfl rfl ?_
  refine rw_val (v := .bool (decide (4294967296 ≤ (n : Int)))) (w' := w) rfl rfl rfl rfl (by simp [go_sem, sEv, sLook, nbeq, i64_w]) ?_
  refine rw_end ?_
  refine w_cond rfl rfl (fun c1 => ?_) (fun c1 => ?_)
  · refine w_seq ?_
    refine w_region ?_
    refine rw_val (v := .int .u64 (n : Int)) (w' := w) rfl rfl rfl rfl rfl ?_
    refine rw_val (v := .int .u64 ((n / 4294967296 : Nat) : Int)) (w' := w) rfl rfl rfl rfl (by simp [go_sem, sEv, sLook, nbeq, i64_w] <;> omega) ?_
    refine rw_val (v := .int .u64 ((n / 4294967296 : Nat) : Int)) (w' := w) rfl rfl rfl rfl rfl ?_
    refine rw_end ?_
    refine w_region ?_
    refine rw_val (v := .int .i64 32) (w' := w) rfl rfl rfl rfl rfl ?_
    refine rw_end ?_
    refine w_seq ?_
    refine w_seq ?_
    refine w_region ?_
    refine rw_val (v := .int .u64 ((n / 4294967296 : Nat) : Int)) (w' := w) rfl rfl rfl rfl rfl ?_
    refine rw_val (v := .bool (decide (65536 ≤ ((n / 4294967296 : Nat) : Int)))) (w' := w) rfl rfl rfl rfl (by simp [go_sem, sEv, sLook, nbeq, i64_w]) ?_
    refine rw_end ?_
    refine w_cond rfl rfl (fun c2 => ?_) (fun c2 => ?_)
    · refine w_seq ?_
      refine w_region ?_
      refine rw_val (v := .int .u64 ((n / 4294967296 : Nat) : Int)) (w' := w) rfl rfl rfl rfl rfl ?_
      refine rw_val (v := .int .u64 ((n / 4294967296 / 65536 : Nat) : Int)) (w' := w) rfl rfl rfl rfl (by simp [go_sem, sEv, sLook, nbeq, i64_w] <;> omega) ?_
      refine rw_val (v := .int .u64 ((n / 4294967296 / 65536 : Nat) : Int)) (w' := w) rfl rfl rfl rfl rfl ?_
      refine rw_end ?_
      refine w_region ?_
      refine rw_val (v := .int .i64 32) (w' := w) rfl rfl rfl rfl rfl ?_
      refine rw_val (v := .int .i64 48) (w' := w) rfl rfl rfl rfl (by kernel_rfl) ?_
      refine rw_val (v := .int .i64 48) (w' := w) rfl rfl rfl rfl rfl ?_
      refine rw_end ?_
      refine w_seq ?_
      refine w_seq ?_
      refine w_region ?_
      refine rw_val (v := .int .u64 ((n / 4294967296 / 65536 : Nat) : Int)) (w' := w) rfl rfl rfl rfl rfl ?_
      refine rw_val (v := .bool (decide (256 ≤ ((n / 4294967296 / 65536 : Nat) : Int)))) (w' := w) rfl rfl rfl rfl (by simp [go_sem, sEv, sLook, nbeq, i64_w]) ?_
      refine rw_end ?_
      refine w_cond rfl rfl (fun c3 => ?_) (fun c3 => ?_)
      · refine w_seq ?_
        refine w_region ?_
        refine rw_val (v := .int .u64 ((n / 4294967296 / 65536 : Nat) : Int)) (w' := w) rfl rfl rfl rfl rfl ?_
        refine rw_val (v := .int .u64 ((n / 4294967296 / 65536 / 256 : Nat) : Int)) (w' := w) rfl rfl rfl rfl (by simp [go_sem, sEv, sLook, nbeq, i64_w] <;> omega) ?_
        refine rw_val (v := .int .u64 ((n / 4294967296 / 65536 / 256 : Nat) : Int)) (w' := w) rfl rfl rfl rfl rfl ?_
        refine rw_end ?_
        refine w_region ?_
        refine rw_val (v := .int .i64 48) (w' := w) rfl rfl rfl rfl rfl ?_
        refine rw_val (v := .int .i64 56) (w' := w) rfl rfl rfl rfl (by kernel_rfl) ?_
        refine rw_val (v := .int .i64 56) (w' := w) rfl rfl rfl rfl rfl ?_
        refine rw_end ?_
        refine w_seq ?_
        refine w_region ?_
        refine rw_val (v := .int .i64 56) (w' := w) rfl rfl rfl rfl rfl ?_
        refine rw_val (v := .int .u64 ((n / 4294967296 / 65536 / 256 : Nat) : Int)) (w' := w) rfl rfl rfl rfl rfl ?_
        refine rw_val (v := .int .u8 ((n / 4294967296 / 65536 / 256 : Nat) : Int)) (w' := w) rfl rfl rfl rfl (by simp [go_sem, sEv, sLook, nbeq, i64_w]; exact u8_wrap _ (by omega) (by have := of_decide_eq_true c1; have := of_decide_eq_true c2; have := of_decide_eq_true c3; omega)) ?_
        refine rw_val (v := .int .u8 ((blen (n / 4294967296 / 65536 / 256) : Nat) : Int)) (w' := w) rfl rfl rfl rfl (by refine run_value (tab_index (P := Try.prog) ?_ ?_ ?_ (n / 4294967296 / 65536 / 256) ?_ _); kernel_rfl; decide +kernel; decide +kernel; (have := of_decide_eq_true c1; have := of_decide_eq_true c2; have := of_decide_eq_true c3; omega)) ?_
        refine rw_val (v := .int .i64 ((blen (n / 4294967296 / 65536 / 256) : Nat) : Int)) (w' := w) rfl rfl rfl rfl (by simp [go_sem, sEv, sLook, nbeq, i64_w]; exact wrap_id (by omega) (by have := blen_le (n / 4294967296 / 65536 / 256) 8 (by have := of_decide_eq_true c1; have := of_decide_eq_true c2; have := of_decide_eq_true c3; omega); omega)) ?_
        refine rw_val (v := .int .i64 (wrap64 (56 + ((blen (n / 4294967296 / 65536 / 256) : Nat) : Int)))) (w' := w) rfl rfl rfl rfl (by simp [go_sem, sEv, sLook, nbeq, i64_w]) ?_
        refine rw_val (v := .int .i64 (wrap64 (56 + ((blen (n / 4294967296 / 65536 / 256) : Nat) : Int)))) (w' := w) rfl rfl rfl rfl rfl ?_
        refine rw_end ?_
        refine w_weaken (G' := [(2, .int .i64 (wrap64 (56 + ((blen (n / 4294967296 / 65536 / 256) : Nat) : Int))))]) ⟨rfl, trivial⟩ ?_
        refine w_ret (post_ret1 rfl rfl ?_)
        have qc1 := of_decide_eq_true c1
        have qc2 := of_decide_eq_true c2
        have qc3 := of_decide_eq_true c3
        have b0_ := blen_shift (n) 32 (by have e_ := qc1; simp at e_ ⊢; omega)
        have b1_ := blen_shift (n / 4294967296) 16 (by have e_ := qc2; simp at e_ ⊢; omega)
        have b2_ := blen_shift ((n / 4294967296) / 65536) 8 (by have e_ := qc3; simp at e_ ⊢; omega)
        have hb_ := blen_le (((n / 4294967296) / 65536) / 256) 8 (by simp; omega)
        simp only [show (2 : Nat) ^ 32 = 4294967296 by decide, show (2 : Nat) ^ 16 = 65536 by decide, show (2 : Nat) ^ 8 = 256 by decide] at *
        refine ⟨?_, (Below.refl _ _)⟩
        congr 2
        unfold wrap64
        omega
      · refine w_skip ?_
        refine w_seq ?_
        refine w_region ?_
        refine rw_val (v := .int .i64 48) (w' := w) rfl rfl rfl rfl rfl ?_
        refine rw_val (v := .int .u64 ((n / 4294967296 / 65536 : Nat) : Int)) (w' := w) rfl rfl rfl rfl rfl ?_
        refine rw_val (v := .int .u8 ((n / 4294967296 / 65536 : Nat) : Int)) (w' := w) rfl rfl rfl rfl (by simp [go_sem, sEv, sLook, nbeq, i64_w]; exact u8_wrap _ (by omega) (by have := of_decide_eq_true c1; have := of_decide_eq_true c2; have := of_decide_eq_false c3; omega)) ?_
        refine rw_val (v := .int .u8 ((blen (n / 4294967296 / 65536) : Nat) : Int)) (w' := w) rfl rfl rfl rfl (by refine run_value (tab_index (P := Try.prog) ?_ ?_ ?_ (n / 4294967296 / 65536) ?_ _); kernel_rfl; decide +kernel; decide +kernel; (have := of_decide_eq_true c1; have := of_decide_eq_true c2; have := of_decide_eq_false c3; omega)) ?_
        refine rw_val (v := .int .i64 ((blen (n / 4294967296 / 65536) : Nat) : Int)) (w' := w) rfl rfl rfl rfl (by simp [go_sem, sEv, sLook, nbeq, i64_w]; exact wrap_id (by omega) (by have := blen_le (n / 4294967296 / 65536) 8 (by have := of_decide_eq_true c1; have := of_decide_eq_true c2; have := of_decide_eq_false c3; omega); omega)) ?_
        refine rw_val (v := .int .i64 (wrap64 (48 + ((blen (n / 4294967296 / 65536) : Nat) : Int)))) (w' := w) rfl rfl rfl rfl (by simp [go_sem, sEv, sLook, nbeq, i64_w]) ?_
        refine rw_val (v := .int .i64 (wrap64 (48 + ((blen (n / 4294967296 / 65536) : Nat) : Int)))) (w' := w) rfl rfl rfl rfl rfl ?_
        refine rw_end ?_
        refine w_weaken (G' := [(2, .int .i64 (wrap64 (48 + ((blen (n / 4294967296 / 65536) : Nat) : Int))))]) ⟨rfl, trivial⟩ ?_
        refine w_ret (post_ret1 rfl rfl ?_)
        have qc1 := of_decide_eq_true c1
        have qc2 := of_decide_eq_true c2
        have qc3 := of_decide_eq_false c3
        have b0_ := blen_shift (n) 32 (by have e_ := qc1; simp at e_ ⊢; omega)
        have b1_ := blen_shift (n / 4294967296) 16 (by have e_ := qc2; simp at e_ ⊢; omega)
        have hb_ := blen_le ((n / 4294967296) / 65536) 8 (by simp; omega)
        simp only [show (2 : Nat) ^ 32 = 4294967296 by decide, show (2 : Nat) ^ 16 = 65536 by decide, show (2 : Nat) ^ 8 = 256 by decide] at *
        refine ⟨?_, (Below.refl _ _)⟩
        congr 2
        unfold wrap64
        omega
    · refine w_skip ?_
      refine w_seq ?_
      refine w_seq ?_
      refine w_region ?_
      refine rw_val (v := .int .u64 ((n / 4294967296 : Nat) : Int)) (w' := w) rfl rfl rfl rfl rfl ?_
      refine rw_val (v := .bool (decide (256 ≤ ((n / 4294967296 : Nat) : Int)))) (w' := w) rfl rfl rfl rfl (by simp [go_sem, sEv, sLook, nbeq, i64_w]) ?_
      refine rw_end ?_
      refine w_cond rfl rfl (fun c4 => ?_) (fun c4 => ?_)
      · refine w_seq ?_
        refine w_region ?_
        refine rw_val (v := .int .u64 ((n / 4294967296 : Nat) : Int)) (w' := w) rfl rfl rfl rfl rfl ?_
        refine rw_val (v := .int .u64 ((n / 4294967296 / 256 : Nat) : Int)) (w' := w) rfl rfl rfl rfl (by simp [go_sem, sEv, sLook, nbeq, i64_w] <;> omega) ?_
        refine rw_val (v := .int .u64 ((n / 4294967296 / 256 : Nat) : Int)) (w' := w) rfl rfl rfl rfl rfl ?_
        refine rw_end ?_
        refine w_region ?_
        refine rw_val (v := .int .i64 32) (w' := w) rfl rfl rfl rfl rfl ?_
        refine rw_val (v := .int .i64 40) (w' := w) rfl rfl rfl rfl (by kernel_rfl) ?_
        refine rw_val (v := .int .i64 40) (w' := w) rfl rfl rfl rfl rfl ?_
        refine rw_end ?_
        refine w_seq ?_
        refine w_region ?_
        refine rw_val (v := .int .i64 40) (w' := w) rfl rfl rfl rfl rfl ?_
        refine rw_val (v := .int .u64 ((n / 4294967296 / 256 : Nat) : Int)) (w' := w) rfl rfl rfl rfl rfl ?_
        refine rw_val (v := .int .u8 ((n / 4294967296 / 256 : Nat) : Int)) (w' := w) rfl rfl rfl rfl (by simp [go_sem, sEv, sLook, nbeq, i64_w]; exact u8_wrap _ (by omega) (by have := of_decide_eq_true c1; have := of_decide_eq_false c2; have := of_decide_eq_true c4; omega)) ?_
        refine rw_val (v := .int .u8 ((blen (n / 4294967296 / 256) : Nat) : Int)) (w' := w) rfl rfl rfl rfl (by refine run_value (tab_index (P := Try.prog) ?_ ?_ ?_ (n / 4294967296 / 256) ?_ _); kernel_rfl; decide +kernel; decide +kernel; (have := of_decide_eq_true c1; have := of_decide_eq_false c2; have := of_decide_eq_true c4; omega)) ?_
        refine rw_val (v := .int .i64 ((blen (n / 4294967296 / 256) : Nat) : Int)) (w' := w) rfl rfl rfl rfl (by simp [go_sem, sEv, sLook, nbeq, i64_w]; exact wrap_id (by omega) (by have := blen_le (n / 4294967296 / 256) 8 (by have := of_decide_eq_true c1; have := of_decide_eq_false c2; have := of_decide_eq_true c4; omega); omega)) ?_
        refine rw_val (v := .int .i64 (wrap64 (40 + ((blen (n / 4294967296 / 256) : Nat) : Int)))) (w' := w) rfl rfl rfl rfl (by simp [go_sem, sEv, sLook, nbeq, i64_w]) ?_
        refine rw_val (v := .int .i64 (wrap64 (40 + ((blen (n / 4294967296 / 256) : Nat) : Int)))) (w' := w) rfl rfl rfl rfl rfl ?_
        refine rw_end ?_
        refine w_weaken (G' := [(2, .int .i64 (wrap64 (40 + ((blen (n / 4294967296 / 256) : Nat) : Int))))]) ⟨rfl, trivial⟩ ?_
        refine w_ret (post_ret1 rfl rfl ?_)
        have qc1 := of_decide_eq_true c1
        have qc2 := of_decide_eq_false c2
        have qc4 := of_decide_eq_true c4
        have b0_ := blen_shift (n) 32 (by have e_ := qc1; simp at e_ ⊢; omega)
        have b1_ := blen_shift (n / 4294967296) 8 (by have e_ := qc4; simp at e_ ⊢; omega)
        have hb_ := blen_le ((n / 4294967296) / 256) 8 (by simp; omega)
        simp only [show (2 : Nat) ^ 32 = 4294967296 by decide, show (2 : Nat) ^ 16 = 65536 by decide, show (2 : Nat) ^ 8 = 256 by decide] at *
        refine ⟨?_, (Below.refl _ _)⟩
        congr 2
        unfold wrap64
        omega
      · refine w_skip ?_
        refine w_seq ?_
        refine w_region ?_
        refine rw_val (v := .int .i64 32) (w' := w) rfl rfl rfl rfl rfl ?_
        refine rw_val (v := .int .u64 ((n / 4294967296 : Nat) : Int)) (w' := w) rfl rfl rfl rfl rfl ?_
        refine rw_val (v := .int .u8 ((n / 4294967296 : Nat) : Int)) (w' := w) rfl rfl rfl rfl (by simp [go_sem, sEv, sLook, nbeq, i64_w]; exact u8_wrap _ (by omega) (by have := of_decide_eq_true c1; have := of_decide_eq_false c2; have := of_decide_eq_false c4; omega)) ?_
        refine rw_val (v := .int .u8 ((blen (n / 4294967296) : Nat) : Int)) (w' := w) rfl rfl rfl rfl (by refine run_value (tab_index (P := Try.prog) ?_ ?_ ?_ (n / 4294967296) ?_ _); kernel_rfl; decide +kernel; decide +kernel; (have := of_decide_eq_true c1; have := of_decide_eq_false c2; have := of_decide_eq_false c4; omega)) ?_
        refine rw_val (v := .int .i64 ((blen (n / 4294967296) : Nat) : Int)) (w' := w) rfl rfl rfl rfl (by simp [go_sem, sEv, sLook, nbeq, i64_w]; exact wrap_id (by omega) (by have := blen_le (n / 4294967296) 8 (by have := of_decide_eq_true c1; have := of_decide_eq_false c2; have := of_decide_eq_false c4; omega); omega)) ?_
        refine rw_val (v := .int .i64 (wrap64 (32 + ((blen (n / 4294967296) : Nat) : Int)))) (w' := w) rfl rfl rfl rfl (by simp [go_sem, sEv, sLook, nbeq, i64_w]) ?_
        refine rw_val (v := .int .i64 (wrap64 (32 + ((blen (n / 4294967296) : Nat) : Int)))) (w' := w) rfl rfl rfl rfl rfl ?_
        refine rw_end ?_
        refine w_weaken (G' := [(2, .int .i64 (wrap64 (32 + ((blen (n / 4294967296) : Nat) : Int))))]) ⟨rfl, trivial⟩ ?_
        refine w_ret (post_ret1 rfl rfl ?_)
        have qc1 := of_decide_eq_true c1
        have qc2 := of_decide_eq_false c2
        have qc4 := of_decide_eq_false c4
        have b0_ := blen_shift (n) 32 (by have e_ := qc1; simp at e_ ⊢; omega)
        have hb_ := blen_le (n / 4294967296) 8 (by simp; omega)
        simp only [show (2 : Nat) ^ 32 = 4294967296 by decide, show (2 : Nat) ^ 16 = 65536 by decide, show (2 : Nat) ^ 8 = 256 by decide] at *
        refine ⟨?_, (Below.refl _ _)⟩
        congr 2
        unfold wrap64
        omega
  · refine w_skip ?_
    refine w_seq ?_
    refine w_seq ?_
    refine w_region ?_
    refine rw_val (v := .int .u64 (n : Int)) (w' := w) rfl rfl rfl rfl rfl ?_
    refine rw_val (v := .bool (decide (65536 ≤ (n : Int)))) (w' := w) rfl rfl rfl rfl (by simp [go_sem, sEv, sLook, nbeq, i64_w]) ?_
    refine rw_end ?_
    refine w_cond rfl rfl (fun c5 => ?_) (fun c5 => ?_)
    · refine w_seq ?_
      refine w_region ?_
      refine rw_val (v := .int .u64 (n : Int)) (w' := w) rfl rfl rfl rfl rfl ?_
      refine rw_val (v := .int .u64 ((n / 65536 : Nat) : Int)) (w' := w) rfl rfl rfl rfl (by simp [go_sem, sEv, sLook, nbeq, i64_w] <;> omega) ?_
      refine rw_val (v := .int .u64 ((n / 65536 : Nat) : Int)) (w' := w) rfl rfl rfl rfl rfl ?_
      refine rw_end ?_
      refine w_region ?_
      refine rw_val (v := .int .i64 0) (w' := w) rfl rfl rfl rfl rfl ?_
      refine rw_val (v := .int .i64 16) (w' := w) rfl rfl rfl rfl (by kernel_rfl) ?_
      refine rw_val (v := .int .i64 16) (w' := w) rfl rfl rfl rfl rfl ?_
      refine rw_end ?_
      refine w_seq ?_
      refine w_seq ?_
      refine w_region ?_
      refine rw_val (v := .int .u64 ((n / 65536 : Nat) : Int)) (w' := w) rfl rfl rfl rfl rfl ?_
      refine rw_val (v := .bool (decide (256 ≤ ((n / 65536 : Nat) : Int)))) (w' := w) rfl rfl rfl rfl (by simp [go_sem, sEv, sLook, nbeq, i64_w]) ?_
      refine rw_end ?_
      refine w_cond rfl rfl (fun c6 => ?_) (fun c6 => ?_)
      · refine w_seq ?_
        refine w_region ?_
        refine rw_val (v := .int .u64 ((n / 65536 : Nat) : Int)) (w' := w) rfl rfl rfl rfl rfl ?_
        refine rw_val (v := .int .u64 ((n / 65536 / 256 : Nat) : Int)) (w' := w) rfl rfl rfl rfl (by simp [go_sem, sEv, sLook, nbeq, i64_w] <;> omega) ?_
        refine rw_val (v := .int .u64 ((n / 65536 / 256 : Nat) : Int)) (w' := w) rfl rfl rfl rfl rfl ?_
        refine rw_end ?_
        refine w_region ?_
        refine rw_val (v := .int .i64 16) (w' := w) rfl rfl rfl rfl rfl ?_
        refine rw_val (v := .int .i64 24) (w' := w) rfl rfl rfl rfl (by kernel_rfl) ?_
        refine rw_val (v := .int .i64 24) (w' := w) rfl rfl rfl rfl rfl ?_
        refine rw_end ?_
        refine w_seq ?_
        refine w_region ?_
        refine rw_val (v := .int .i64 24) (w' := w) rfl rfl rfl rfl rfl ?_
        refine rw_val (v := .int .u64 ((n / 65536 / 256 : Nat) : Int)) (w' := w) rfl rfl rfl rfl rfl ?_
        refine rw_val (v := .int .u8 ((n / 65536 / 256 : Nat) : Int)) (w' := w) rfl rfl rfl rfl (by simp [go_sem, sEv, sLook, nbeq, i64_w]; exact u8_wrap _ (by omega) (by have := of_decide_eq_false c1; have := of_decide_eq_true c5; have := of_decide_eq_true c6; omega)) ?_
        refine rw_val (v := .int .u8 ((blen (n / 65536 / 256) : Nat) : Int)) (w' := w) rfl rfl rfl rfl (by refine run_value (tab_index (P := Try.prog) ?_ ?_ ?_ (n / 65536 / 256) ?_ _); kernel_rfl; decide +kernel; decide +kernel; (have := of_decide_eq_false c1; have := of_decide_eq_true c5; have := of_decide_eq_true c6; omega)) ?_
        refine rw_val (v := .int .i64 ((blen (n / 65536 / 256) : Nat) : Int)) (w' := w) rfl rfl rfl rfl (by simp [go_sem, sEv, sLook, nbeq, i64_w]; exact wrap_id (by omega) (by have := blen_le (n / 65536 / 256) 8 (by have := of_decide_eq_false c1; have := of_decide_eq_true c5; have := of_decide_eq_true c6; omega); omega)) ?_
        refine rw_val (v := .int .i64 (wrap64 (24 + ((blen (n / 65536 / 256) : Nat) : Int)))) (w' := w) rfl rfl rfl rfl (by simp [go_sem, sEv, sLook, nbeq, i64_w]) ?_
        refine rw_val (v := .int .i64 (wrap64 (24 + ((blen (n / 65536 / 256) : Nat) : Int)))) (w' := w) rfl rfl rfl rfl rfl ?_
        refine rw_end ?_
        refine w_weaken (G' := [(2, .int .i64 (wrap64 (24 + ((blen (n / 65536 / 256) : Nat) : Int))))]) ⟨rfl, trivial⟩ ?_
        refine w_ret (post_ret1 rfl rfl ?_)
        have qc1 := of_decide_eq_false c1
        have qc5 := of_decide_eq_true c5
        have qc6 := of_decide_eq_true c6
        have b0_ := blen_shift (n) 16 (by have e_ := qc5; simp at e_ ⊢; omega)
        have b1_ := blen_shift (n / 65536) 8 (by have e_ := qc6; simp at e_ ⊢; omega)
        have hb_ := blen_le ((n / 65536) / 256) 8 (by simp; omega)
        simp only [show (2 : Nat) ^ 32 = 4294967296 by decide, show (2 : Nat) ^ 16 = 65536 by decide, show (2 : Nat) ^ 8 = 256 by decide] at *
        refine ⟨?_, (Below.refl _ _)⟩
        congr 2
        unfold wrap64
        omega
      · refine w_skip ?_
        refine w_seq ?_
        refine w_region ?_
        refine rw_val (v := .int .i64 16) (w' := w) rfl rfl rfl rfl rfl ?_
        refine rw_val (v := .int .u64 ((n / 65536 : Nat) : Int)) (w' := w) rfl rfl rfl rfl rfl ?_
        refine rw_val (v := .int .u8 ((n / 65536 : Nat) : Int)) (w' := w) rfl rfl rfl rfl (by simp [go_sem, sEv, sLook, nbeq, i64_w]; exact u8_wrap _ (by omega) (by have := of_decide_eq_false c1; have := of_decide_eq_true c5; have := of_decide_eq_false c6; omega)) ?_
        refine rw_val (v := .int .u8 ((blen (n / 65536) : Nat) : Int)) (w' := w) rfl rfl rfl rfl (by refine run_value (tab_index (P := Try.prog) ?_ ?_ ?_ (n / 65536) ?_ _); kernel_rfl; decide +kernel; decide +kernel; (have := of_decide_eq_false c1; have := of_decide_eq_true c5; have := of_decide_eq_false c6; omega)) ?_
        refine rw_val (v := .int .i64 ((blen (n / 65536) : Nat) : Int)) (w' := w) rfl rfl rfl rfl (by simp [go_sem, sEv, sLook, nbeq, i64_w]; exact wrap_id (by omega) (by have := blen_le (n / 65536) 8 (by have := of_decide_eq_false c1; have := of_decide_eq_true c5; have := of_decide_eq_false c6; omega); omega)) ?_
        refine rw_val (v := .int .i64 (wrap64 (16 + ((blen (n / 65536) : Nat) : Int)))) (w' := w) rfl rfl rfl rfl (by simp [go_sem, sEv, sLook, nbeq, i64_w]) ?_
        refine rw_val (v := .int .i64 (wrap64 (16 + ((blen (n / 65536) : Nat) : Int)))) (w' := w) rfl rfl rfl rfl rfl ?_
        refine rw_end ?_
        refine w_weaken (G' := [(2, .int .i64 (wrap64 (16 + ((blen (n / 65536) : Nat) : Int))))]) ⟨rfl, trivial⟩ ?_
        refine w_ret (post_ret1 rfl rfl ?_)
        have qc1 := of_decide_eq_false c1
        have qc5 := of_decide_eq_true c5
        have qc6 := of_decide_eq_false c6
        have b0_ := blen_shift (n) 16 (by have e_ := qc5; simp at e_ ⊢; omega)
        have hb_ := blen_le (n / 65536) 8 (by simp; omega)
        simp only [show (2 : Nat) ^ 32 = 4294967296 by decide, show (2 : Nat) ^ 16 = 65536 by decide, show (2 : Nat) ^ 8 = 256 by decide] at *
        refine ⟨?_, (Below.refl _ _)⟩
        congr 2
        unfold wrap64
        omega
    · refine w_skip ?_
      refine w_seq ?_
      refine w_seq ?_
      refine w_region ?_
      refine rw_val (v := .int .u64 (n : Int)) (w' := w) rfl rfl rfl rfl rfl ?_
      refine rw_val (v := .bool (decide (256 ≤ (n : Int)))) (w' := w) rfl rfl rfl rfl (by simp [go_sem, sEv, sLook, nbeq, i64_w]) ?_
      refine rw_end ?_
      refine w_cond rfl rfl (fun c7 => ?_) (fun c7 => ?_)
      · refine w_seq ?_
        refine w_region ?_
        refine rw_val (v := .int .u64 (n : Int)) (w' := w) rfl rfl rfl rfl rfl ?_
        refine rw_val (v := .int .u64 ((n / 256 : Nat) : Int)) (w' := w) rfl rfl rfl rfl (by simp [go_sem, sEv, sLook, nbeq, i64_w] <;> omega) ?_
        refine rw_val (v := .int .u64 ((n / 256 : Nat) : Int)) (w' := w) rfl rfl rfl rfl rfl ?_
        refine rw_end ?_
        refine w_region ?_
        refine rw_val (v := .int .i64 0) (w' := w) rfl rfl rfl rfl rfl ?_
        refine rw_val (v := .int .i64 8) (w' := w) rfl rfl rfl rfl (by kernel_rfl) ?_
        refine rw_val (v := .int .i64 8) (w' := w) rfl rfl rfl rfl rfl ?_
        refine rw_end ?_
        refine w_seq ?_
        refine w_region ?_
        refine rw_val (v := .int .i64 8) (w' := w) rfl rfl rfl rfl rfl ?_
        refine rw_val (v := .int .u64 ((n / 256 : Nat) : Int)) (w' := w) rfl rfl rfl rfl rfl ?_
        refine rw_val (v := .int .u8 ((n / 256 : Nat) : Int)) (w' := w) rfl rfl rfl rfl (by simp [go_sem, sEv, sLook, nbeq, i64_w]; exact u8_wrap _ (by omega) (by have := of_decide_eq_false c1; have := of_decide_eq_false c5; have := of_decide_eq_true c7; omega)) ?_
        refine rw_val (v := .int .u8 ((blen (n / 256) : Nat) : Int)) (w' := w) rfl rfl rfl rfl (by refine run_value (tab_index (P := Try.prog) ?_ ?_ ?_ (n / 256) ?_ _); kernel_rfl; decide +kernel; decide +kernel; (have := of_decide_eq_false c1; have := of_decide_eq_false c5; have := of_decide_eq_true c7; omega)) ?_
        refine rw_val (v := .int .i64 ((blen (n / 256) : Nat) : Int)) (w' := w) rfl rfl rfl rfl (by simp [go_sem, sEv, sLook, nbeq, i64_w]; exact wrap_id (by omega) (by have := blen_le (n / 256) 8 (by have := of_decide_eq_false c1; have := of_decide_eq_false c5; have := of_decide_eq_true c7; omega); omega)) ?_
        refine rw_val (v := .int .i64 (wrap64 (8 + ((blen (n / 256) : Nat) : Int)))) (w' := w) rfl rfl rfl rfl (by simp [go_sem, sEv, sLook, nbeq, i64_w]) ?_
        refine rw_val (v := .int .i64 (wrap64 (8 + ((blen (n / 256) : Nat) : Int)))) (w' := w) rfl rfl rfl rfl rfl ?_
        refine rw_end ?_
        refine w_weaken (G' := [(2, .int .i64 (wrap64 (8 + ((blen (n / 256) : Nat) : Int))))]) ⟨rfl, trivial⟩ ?_
        refine w_ret (post_ret1 rfl rfl ?_)
        have qc1 := of_decide_eq_false c1
        have qc5 := of_decide_eq_false c5
        have qc7 := of_decide_eq_true c7
        have b0_ := blen_shift (n) 8 (by have e_ := qc7; simp at e_ ⊢; omega)
        have hb_ := blen_le (n / 256) 8 (by simp; omega)
        simp only [show (2 : Nat) ^ 32 = 4294967296 by decide, show (2 : Nat) ^ 16 = 65536 by decide, show (2 : Nat) ^ 8 = 256 by decide] at *
        refine ⟨?_, (Below.refl _ _)⟩
        congr 2
        unfold wrap64
        omega
      · refine w_skip ?_
        refine w_seq ?_
        refine w_region ?_
        refine rw_val (v := .int .i64 0) (w' := w) rfl rfl rfl rfl rfl ?_
        refine rw_val (v := .int .u64 (n : Int)) (w' := w) rfl rfl rfl rfl rfl ?_
        refine rw_val (v := .int .u8 ((n : Nat) : Int)) (w' := w) rfl rfl rfl rfl (by simp [go_sem, sEv, sLook, nbeq, i64_w]; exact u8_wrap _ (by omega) (by have := of_decide_eq_false c1; have := of_decide_eq_false c5; have := of_decide_eq_false c7; omega)) ?_
        refine rw_val (v := .int .u8 ((blen (n) : Nat) : Int)) (w' := w) rfl rfl rfl rfl (by refine run_value (tab_index (P := Try.prog) ?_ ?_ ?_ (n) ?_ _); kernel_rfl; decide +kernel; decide +kernel; (have := of_decide_eq_false c1; have := of_decide_eq_false c5; have := of_decide_eq_false c7; omega)) ?_
        refine rw_val (v := .int .i64 ((blen (n) : Nat) : Int)) (w' := w) rfl rfl rfl rfl (by simp [go_sem, sEv, sLook, nbeq, i64_w]; exact wrap_id (by omega) (by have := blen_le (n) 8 (by have := of_decide_eq_false c1; have := of_decide_eq_false c5; have := of_decide_eq_false c7; omega); omega)) ?_
        refine rw_val (v := .int .i64 (wrap64 (0 + ((blen (n) : Nat) : Int)))) (w' := w) rfl rfl rfl rfl (by simp [go_sem, sEv, sLook, nbeq, i64_w]) ?_
        refine rw_val (v := .int .i64 (wrap64 (0 + ((blen (n) : Nat) : Int)))) (w' := w) rfl rfl rfl rfl rfl ?_
        refine rw_end ?_
        refine w_weaken (G' := [(2, .int .i64 (wrap64 (0 + ((blen (n) : Nat) : Int))))]) ⟨rfl, trivial⟩ ?_
        refine w_ret (post_ret1 rfl rfl ?_)
        have qc1 := of_decide_eq_false c1
        have qc5 := of_decide_eq_false c5
        have qc7 := of_decide_eq_false c7
        have hb_ := blen_le (n) 8 (by simp; omega)
        simp only [show (2 : Nat) ^ 32 = 4294967296 by decide, show (2 : Nat) ^ 16 = 65536 by decide, show (2 : Nat) ^ 8 = 256 by decide] at *
        refine ⟨?_, (Below.refl _ _)⟩
        congr 2
        unfold wrap64
        omega
theorem xor_max (x : Int) (h1 : 0 ≤ x) (h2 : x < 18446744073709551616) : bits .xor .u64 x 18446744073709551615 = 18446744073709551615 - x := by
  show IntKind.u64.wrap ((BitVec.ofInt 64 x ^^^ BitVec.ofInt 64 18446744073709551615).toNat : Int) = _
  have h3 : BitVec.ofInt 64 18446744073709551615 = BitVec.allOnes 64 := by decide
  rw [h3, BitVec.xor_allOnes, BitVec.toNat_not, BitVec.toNat_ofInt, IntKind.wrap_u64]
  omega
theorem xor_nil (x : Int) (h1 : 0 ≤ x) (h2 : x < 18446744073709551616) : bits .xor .u64 x 0 = x := by
  show IntKind.u64.wrap ((BitVec.ofInt 64 x ^^^ BitVec.ofInt 64 0).toNat : Int) = _
  have h3 : BitVec.ofInt 64 0 = 0#64 := by decide
  rw [h3, BitVec.xor_zero, BitVec.toNat_ofInt, IntKind.wrap_u64]
  omega
set_option maxHeartbeats 4000000 in
theorem bits_pos (m : Nat) (h1 : m ≤ 9223372036854775807) (w : World) :
    Calls Try.prog 33 #[.int .i64 (m : Int)] w fun e w' => e = .returned (.int .i64 ((blen m : Nat) : Int)) ∧ Below w.heap.size w w' := by
  refine calls_flow Try.func33 rfl 14 rfl (Nat.le_of_ble_eq_true rfl) [(0, .int .i64 (m : Int))] ?_ ?_
  · intro t v h; exact args_look rfl t v h
  refine w_seq ?_
  refine w_region ?_
  refine rw_val (v := .int .i64 0) (w' := w) rfl rfl rfl rfl rfl ?_
  refine rw_end ?_
  refine w_seq ?_
  refine w_region ?_
  refine rw_val (v := .int .i64 (m : Int)) (w' := w) rfl rfl rfl rfl rfl ?_
  refine rw_val (v := .int .i64 0) (w' := w) rfl rfl rfl rfl (by simp [go_sem, sEv, sLook, nbeq, i64_w] <;> omega) ?_
  refine rw_val (v := .int .u64 0) (w' := w) rfl rfl rfl rfl (by simp [go_sem, sEv, sLook, nbeq, i64_w] <;> (try rw [u64_wrap]) <;> omega) ?_
  refine rw_val (v := .int .u64 0) (w' := w) rfl rfl rfl rfl rfl ?_
  refine rw_end ?_
  refine w_weaken (G' := [(0, .int .i64 (m : Int)), (2, .int .i64 0), (3, .int .u64 0)]) ⟨rfl, rfl, rfl, trivial⟩ ?_
  refine w_seq ?_
  refine w_region ?_
  refine rw_val (v := .int .i64 (m : Int)) (w' := w) rfl rfl rfl rfl rfl ?_
  refine rw_val (v := .int .u64 (m : Int)) (w' := w) rfl rfl rfl rfl (by simp [go_sem, sEv, sLook, nbeq, i64_w] <;> (try rw [u64_wrap]) <;> omega) ?_
  refine rw_val (v := .int .u64 0) (w' := w) rfl rfl rfl rfl rfl ?_
  refine rw_val (v := .int .u64 (m : Int)) (w' := w) rfl rfl rfl rfl (by simp [go_sem, sEv, sLook, nbeq, i64_w]; exact xor_nil _ (by omega) (by omega)) ?_
  refine rw_val (v := .int .u64 0) (w' := w) rfl rfl rfl rfl rfl ?_
  refine rw_val (v := .int .u64 (m : Int)) (w' := w) rfl rfl rfl rfl (by simp [go_sem, sEv, sLook, nbeq, i64_w] <;> (try rw [u64_wrap]) <;> omega) ?_
  refine rw_call rfl rfl rfl rfl (f := 39) (args := #[.int .u64 (m : Int)]) (by simp [go_sem, sEv, sLook, nbeq, i64_w]) (len64_calls m (by omega) w) ?_
  rintro e_ w1 ⟨rfl, hb2⟩
  refine ⟨_, rfl, ?_⟩
  have hs_w1 := hb2.size
  refine rw_val (v := .int .i64 ((blen m : Nat) : Int)) (w' := w1) rfl rfl rfl rfl rfl ?_
  refine rw_end ?_
  refine w_weaken (G' := [(2, .int .i64 ((blen m : Nat) : Int))]) ⟨rfl, trivial⟩ ?_
  refine w_ret (post_ret1 rfl rfl ?_)
  exact ⟨rfl, hb2⟩
set_option maxHeartbeats 4000000 in
theorem bits_neg (m : Nat) (h1 : 1 ≤ m ∧ m ≤ 9223372036854775808) (w : World) :
    Calls Try.prog 33 #[.int .i64 (-(m : Int))] w fun e w' => e = .returned (.int .i64 ((blen m : Nat) : Int)) ∧ Below w.heap.size w w' := by
  refine calls_flow Try.func33 rfl 14 rfl (Nat.le_of_ble_eq_true rfl) [(0, .int .i64 (-(m : Int)))] ?_ ?_
  · intro t v h; exact args_look rfl t v h
  refine w_seq ?_
  refine w_region ?_
  refine rw_val (v := .int .i64 0) (w' := w) rfl rfl rfl rfl rfl ?_
  refine rw_end ?_
  refine w_seq ?_
  refine w_region ?_
  refine rw_val (v := .int .i64 (-(m : Int))) (w' := w) rfl rfl rfl rfl rfl ?_
  refine rw_val (v := .int .i64 (-1)) (w' := w) rfl rfl rfl rfl (by simp [go_sem, sEv, sLook, nbeq, i64_w] <;> omega) ?_
  refine rw_val (v := .int .u64 18446744073709551615) (w' := w) rfl rfl rfl rfl (by simp [go_sem, sEv, sLook, nbeq, i64_w] <;> (try rw [u64_wrap]) <;> omega) ?_
  refine rw_val (v := .int .u64 18446744073709551615) (w' := w) rfl rfl rfl rfl rfl ?_
  refine rw_end ?_
  refine w_weaken (G' := [(0, .int .i64 (-(m : Int))), (2, .int .i64 0), (3, .int .u64 18446744073709551615)]) ⟨rfl, rfl, rfl, trivial⟩ ?_
  refine w_seq ?_
  refine w_region ?_
  refine rw_val (v := .int .i64 (-(m : Int))) (w' := w) rfl rfl rfl rfl rfl ?_
  refine rw_val (v := .int .u64 (18446744073709551616 - (m : Int))) (w' := w) rfl rfl rfl rfl (by simp [go_sem, sEv, sLook, nbeq, i64_w] <;> (try rw [u64_wrap]) <;> omega) ?_
  refine rw_val (v := .int .u64 18446744073709551615) (w' := w) rfl rfl rfl rfl rfl ?_
  refine rw_val (v := .int .u64 ((m : Int) - 1)) (w' := w) rfl rfl rfl rfl (by simp [go_sem, sEv, sLook, nbeq, i64_w]; rw [xor_max _ (by omega) (by omega)]; omega) ?_
  refine rw_val (v := .int .u64 18446744073709551615) (w' := w) rfl rfl rfl rfl rfl ?_
  refine rw_val (v := .int .u64 (m : Int)) (w' := w) rfl rfl rfl rfl (by simp [go_sem, sEv, sLook, nbeq, i64_w] <;> (try rw [u64_wrap]) <;> omega) ?_
  refine rw_call rfl rfl rfl rfl (f := 39) (args := #[.int .u64 (m : Int)]) (by simp [go_sem, sEv, sLook, nbeq, i64_w]) (len64_calls m (by omega) w) ?_
  rintro e_ w1 ⟨rfl, hb2⟩
  refine ⟨_, rfl, ?_⟩
  have hs_w1 := hb2.size
  refine rw_val (v := .int .i64 ((blen m : Nat) : Int)) (w' := w1) rfl rfl rfl rfl rfl ?_
  refine rw_end ?_
  refine w_weaken (G' := [(2, .int .i64 ((blen m : Nat) : Int))]) ⟨rfl, trivial⟩ ?_
  refine w_ret (post_ret1 rfl rfl ?_)
  exact ⟨rfl, hb2⟩

theorem bits_calls (n : Int) (h : -9223372036854775808 ≤ n ∧ n ≤ 9223372036854775807) (w : World) :
    Calls Try.prog 33 #[.int .i64 n] w fun e w' => e = .returned (.int .i64 ((blen n.natAbs : Nat) : Int)) ∧ Below w.heap.size w w' := by
  by_cases h0 : 0 ≤ n
  · obtain ⟨m, rfl⟩ := Int.eq_ofNat_of_zero_le h0
    exact bits_pos m (by omega) w
  · obtain ⟨m, hm⟩ := Int.eq_ofNat_of_zero_le (show 0 ≤ -n by omega)
    obtain rfl : n = -(m : Int) := by omega
    have h1 := bits_neg m (by omega) w
    rw [show (-(m : Int)).natAbs = m by omega]
    exact h1
theorem blen_64 (n : Int) (h : -9223372036854775808 ≤ n ∧ n ≤ 9223372036854775807) : blen n.natAbs < 65 := by
  have := blen_le n.natAbs 64 (by omega)
  omega
theorem of_calls (a : Int) (w : World) : Calls Try.prog 32 #[.int .i64 a] w fun e w' => e = .returned (.agg #[.int .i64 (a / 9223372036854775808), .int .u64 (a % 18446744073709551616)]) ∧ Below w.heap.size w w' := by
  have h := floor_Of.calls a _ _ w rfl
  rw [u64_wrap] at h
  exact h
/-! ### Which sample is later -/
def later (a0 a1 a2 a3 b0 b1 b2 b3 : Int) : Bool := if a0 = b0 then (if a1 = b1 then (if a2 = b2 then decide (b3 < a3) else decide (b2 < a2)) else decide (b1 < a1)) else decide (b0 < a0)
theorem compare_f (a b : Int) : cmp_Compare_int.f a b = some (if a < b then -1 else if b < a then 1 else 0) := by
  unfold cmp_Compare_int.f cmp_isNaN_int.f
  simp only [Option.bind_some, bne_self_eq_false, Bool.false_eq_true, if_false]
  split
  · rfl
  · split <;> rfl
theorem or_f (a b c d : Int) : cmp_Or_int.f 9 [a, b, c, d] = some (if a = 0 then (if b = 0 then (if c = 0 then d else c) else b) else a) := by
  have w1 : wrap64 1 = 1 := by decide +kernel
  have w2 : wrap64 2 = 2 := by decide +kernel
  have w3 : wrap64 3 = 3 := by decide +kernel
  have w4 : wrap64 4 = 4 := by decide +kernel
  have r0 : ∀ a b c d : Int, rd [a, b, c, d] 0 = a := fun _ _ _ _ => rfl
  have r1 : ∀ a b c d : Int, rd [a, b, c, d] 1 = b := fun _ _ _ _ => rfl
  have r2 : ∀ a b c d : Int, rd [a, b, c, d] 2 = c := fun _ _ _ _ => rfl
  have r3 : ∀ a b c d : Int, rd [a, b, c, d] 3 = d := fun _ _ _ _ => rfl
  unfold cmp_Or_int.f
  simp only [List.length_cons, List.length_nil]
  by_cases h0 : a = 0 <;> by_cases h1 : b = 0 <;> by_cases h2 : c = 0 <;> by_cases h3 : d = 0 <;> simp [cmp_Or_int.l0, r0, r1, r2, r3, w1, w2, w3, w4, h0, h1, h2, h3]
theorem later_f (a0 a1 a2 a3 b0 b1 b2 b3 : Int) : cell_Later.f 9 a0 a1 a2 a3 b0 b1 b2 b3 = some (later a0 a1 a2 a3 b0 b1 b2 b3) := by
  unfold cell_Later.f
  simp only [compare_f, Option.bind_some, or_f]
  congr 1
  unfold later
  have c : ∀ (x y : Int), (if x < y then (-1 : Int) else if y < x then 1 else 0) = 0 ↔ x = y := fun x y => by split <;> (try split) <;> omega
  have d : ∀ (x y : Int), decide ((if x < y then (-1 : Int) else if y < x then 1 else 0) > 0) = decide (y < x) := fun x y => by
    rw [decide_eq_decide]
    split <;> (try split) <;> omega
  simp only [c]
  by_cases h0 : a0 = b0
  · simp only [if_pos h0]
    by_cases h1 : a1 = b1
    · simp only [if_pos h1]
      by_cases h2 : a2 = b2
      · simp only [if_pos h2]
        exact d a3 b3
      · simp only [if_neg h2]
        exact d a2 b2
    · simp only [if_neg h1]
      exact d a1 b1
  · simp only [if_neg h0]
    exact d a0 b0
theorem later_calls (a0 a1 a2 a3 b0 b1 b2 b3 : Int) (w : World) : Calls Try.prog 16 #[.agg #[.int .i64 a0, .int .i64 a1, .int .i64 a2, .int .i64 a3], .agg #[.int .i64 b0, .int .i64 b1, .int .i64 b2, .int .i64 b3]] w fun e w' => e = .returned (.bool (later a0 a1 a2 a3 b0 b1 b2 b3)) ∧ Below w.heap.size w w' :=
  cell_Later.calls 9 a0 a1 a2 a3 b0 b1 b2 b3 _ w (later_f a0 a1 a2 a3 b0 b1 b2 b3)
theorem rlater_calls (a0 a1 a2 a3 b0 b1 b2 b3 : Int) (w : World) : Calls Try.prog 17 #[.agg #[.int .i64 a0, .int .i64 a1, .int .i64 a2, .int .i64 a3], .agg #[.int .i64 b0, .int .i64 b1, .int .i64 b2, .int .i64 b3]] w fun e w' => e = .returned (.bool (later a0 a1 a2 a3 b0 b1 b2 b3)) ∧ Below w.heap.size w w' :=
  estuaryref02_Later.calls a0 a1 a2 a3 b0 b1 b2 b3 _ w (by unfold estuaryref02_Later.f later; split <;> (try split) <;> (try split) <;> rfl)
end Go.Proofs.Ytheaipbnbnjlgaa.Ce
