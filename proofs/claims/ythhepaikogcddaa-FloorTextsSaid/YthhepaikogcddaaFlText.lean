/- The text of a wide number: the walk. -/
import Derived.Test.YthhepaikogcddaaFlBase
namespace Go.Proofs.Ythhepaikogcddaa.PFloorGroup
open Go.RowKit Go.Proofs.YthhepaikogcddaaW.PrintWords Go.Proofs.YthhepaikogcddaaW.PrintLast Go.Proofs.YthhepaikogcddaaW.PrintMore
open Go.Proofs.Ythhepaikogcddaa.Flow
set_option linter.unusedVariables false
set_option linter.unusedSimpArgs false

/-- The digits of an amount, the last first laid: what the loop holds. -/
def digs : Nat → Nat → List Int → List Int
  | 0, _, acc => acc
  | f + 1, n, acc => if n = 0 then acc else digs f (n / 10) ((48 + ((n % 10 : Nat) : Int)) :: acc)
def digits (N : Nat) : List Int := digs 39 (N / 10) [48 + ((N % 10 : Nat) : Int)]
def TInv (N m n : Nat) (ds : List Int) : Prop :=
  1 ≤ m ∧ m + ds.length = 40 ∧ n < 10 ^ (m - 1) ∧ n < 340282366920938463463374607431768211456 ∧ ((m = 40 ∧ n = N ∧ ds = []) ∨ (m < 40 ∧ digs m n ds = digits N))
theorem TInv.start (N : Nat) (h : N < 340282366920938463463374607431768211456) : TInv N 40 N [] :=
  ⟨by omega, rfl, Nat.lt_of_lt_of_le h (by decide), h, Or.inl ⟨rfl, rfl, rfl⟩⟩
theorem TInv.lt {N m n : Nat} {ds : List Int} (h : TInv N m n ds) : n < 340282366920938463463374607431768211456 := h.2.2.2.1
theorem TInv.step {N i n : Nat} {ds : List Int} (h : TInv N (i + 1) n ds) (hgo : i + 1 = 40 ∨ n ≠ 0) : TInv N i (n / 10) ((48 + (n : Int) % 10) :: ds) := by
  obtain ⟨h1, h2, h3, h4, h5⟩ := h
  have e : (48 + (n : Int) % 10) = 48 + ((n % 10 : Nat) : Int) := by omega
  rw [e]
  have hi : 1 ≤ i := by
    rcases Nat.eq_zero_or_pos i with h0 | h0
    · subst h0
      simp at h3
      omega
    · exact h0
  refine ⟨hi, by simp; omega, ?_, by omega, Or.inr ⟨by omega, ?_⟩⟩
  · obtain ⟨j, rfl⟩ : ∃ j, i = j + 1 := ⟨i - 1, by omega⟩
    simp only [Nat.add_sub_cancel] at h3 ⊢
    rw [Nat.pow_succ] at h3
    exact Nat.div_lt_of_lt_mul (by omega)
  · rcases h5 with ⟨h6, rfl, rfl⟩ | ⟨h6, h7⟩
    · have : i = 39 := by omega
      subst this
      rfl
    · rw [← h7]
      rcases hgo with h8 | h8
      · omega
      · show _ = (if n = 0 then _ else _)
        rw [if_neg h8]
theorem TInv.stop {N i n : Nat} {ds : List Int} (h : TInv N (i + 1) n ds) (h40 : ¬ i + 1 = 40) (h0 : n = 0) : ds = digits N := by
  obtain ⟨h1, h2, h3, h4, h5⟩ := h
  rcases h5 with ⟨h6, _⟩ | ⟨h6, h7⟩
  · exact absurd h6 h40
  · rw [← h7]
    show _ = (if n = 0 then _ else _)
    rw [if_pos h0]
/-- Digits that lie in the cells from m on. -/
def DIn (cs : Array Value) (m : Nat) (ds : List Int) : Prop := ∀ j, j < ds.length → cs[m + j]? = some (.int .u8 (ds.getD j 0))
theorem DIn.nil {m : Nat} (cs : Array Value) : DIn cs m [] := fun j h => by simp at h
theorem DIn.step {cs : Array Value} {i : Nat} {ds : List Int} {a : Value} {d : Int} (h : DIn cs (i + 1) ds) (hi : i < cs.size) : DIn ((cs.setIfInBounds i a).setIfInBounds i (.int .u8 d)) i (d :: ds) := fun j hj => by
  cases j with
  | zero => simp [hi]
  | succ j =>
    have := h j (by simpa using hj)
    rw [show i + 1 + j = i + (j + 1) by omega] at this
    simpa [Array.getElem?_setIfInBounds] using this
theorem DIn.reads {w : World} {g t m : Nat} {cs : Array Value} {ds : List Int} {n : Nat} (hb : Blk w g t cs) (h : DIn cs m ds) (hn : ds.length = n) (hm : n ≤ 9223372036854775807 := by omega) : ReadsInt w .u8 (some ⟨g, m, none⟩) n ds :=
  ⟨hn, hm, fun _ => ⟨_, rfl, fun j hj => by
    have := h j (by omega)
    rw [← hb.cell] at this
    have e : (⟨g, m, none⟩ : Addr).add j = ⟨g, m + j, none⟩ := by
      cases j with
      | zero => simp [Addr.add]
      | succ j => simp [Addr.add]
    rw [e]
    exact this⟩⟩
theorem or_zero (n : Nat) (h : n < 340282366920938463463374607431768211456) : ∃ ho : Int, bits .or .u64 ((n : Int) / 18446744073709551616) ((n : Int) % 18446744073709551616) = ho ∧ (ho = 0 ↔ n = 0) := by
  have e1 : (n : Int) / 18446744073709551616 = ((n / 18446744073709551616 : Nat) : Int) := by omega
  have e2 : (n : Int) % 18446744073709551616 = ((n % 18446744073709551616 : Nat) : Int) := by omega
  rw [e1, e2]
  refine ⟨_, bits_or_u64_nat _ _ (by omega) (by omega), ?_⟩
  constructor
  · intro h0
    have h1 : (n / 18446744073709551616) ||| (n % 18446744073709551616) = 0 := by exact_mod_cast h0
    have h2 := Nat.left_le_or (n := n / 18446744073709551616) (m := n % 18446744073709551616)
    have h3 := Nat.right_le_or (n := n / 18446744073709551616) (m := n % 18446744073709551616)
    omega
  · intro h0
    subst h0
    rfl
theorem neg_text (ah al : Int) (N : Nat) (h' : Int) (hah : -9223372036854775808 ≤ ah ∧ ah ≤ 9223372036854775807) (hal : 0 ≤ al ∧ al < 18446744073709551616) (h : ah < 0) (hval : (N : Int) = -(ah * 18446744073709551616 + al)) (hh : wrap64 ((N : Int) / 18446744073709551616) = h') (w : World) :
    Calls Try.prog 16 #[.agg #[.int .i64 ah, .int .u64 al]] w fun e w' => e = .returned (.agg #[.int .i64 h', .int .u64 ((N : Int) % 18446744073709551616)]) ∧ Below w.heap.size w w' := by
  have h1 := neg_raw ah al hah hal w
  have e1 : wrap64 ((-1 - ah) + 0 + ((18446744073709551615 - al) + 1) / 18446744073709551616) = h' := by rw [← hh]; congr 1; omega
  have e2 : ((18446744073709551615 - al) + 1) % 18446744073709551616 = (N : Int) % 18446744073709551616 := by omega
  rw [e1, e2] at h1
  exact h1
def zeros40 : Array Value := Array.replicate 40 (.int .u8 0)
theorem digs_len : ∀ (f n : Nat) (acc : List Int), (digs f n acc).length ≤ f + acc.length
  | 0, _, acc => by simp [digs]
  | f + 1, n, acc => by
    simp only [digs]
    split
    · omega
    · have := digs_len f (n / 10) ((48 + ((n % 10 : Nat) : Int)) :: acc)
      simp at this ⊢
      omega
theorem digits_size (N : Nat) : (strOfNums (digits N)).size ≤ 40 := by
  have := digs_len 39 (N / 10) [48 + ((N % 10 : Nat) : Int)]
  have e : (strOfNums (digits N)).size = (digits N).length := by simp [strOfNums, ByteArray.size]
  rw [e]
  exact this
theorem slice40 {w : World} {g i : Nat} (h : i + 1 < 40) : (Instr.sliceAt 54 (.pointer (some ⟨g, 0, none⟩)) (some (.int .i64 ((i : Int) + 1))) none none).run Try.prog w = .ok (.slice (some ⟨g, i + 1, none⟩) (39 - i) (39 - i)) w := by
  have hal : Try.prog.arrayLen 54 = 40 := by kernel_rfl
  have hu : Try.prog.underlying 54 = some (.array (Try.prog.arrayLen 54) (Try.prog.elem 54)) := by kernel_rfl
  have hs : (sizeOf (Try.prog.elem 54)).run Try.prog w = .ok 1 w := by kernel_rfl
  rw [run_sliceAt_array_l w 54 ⟨g, 0, none⟩ hu .i64 ((i : Int) + 1) (by omega) (by rw [hal]; omega), hs, hal]
  have e : ((i : Int) + 1).toNat = i + 1 := by omega
  simp only [Result.andThen, slicedAt]
  rw [e, if_neg (by omega), add_plain, Nat.mul_one, show 40 - (i + 1) = 39 - i by omega]
theorem wrap_back (N : Nat) (h' : Int) (hh : wrap64 ((N : Int) / 18446744073709551616) = h') (hN : N < 340282366920938463463374607431768211456) : IntKind.u64.wrap h' = (N : Int) / 18446744073709551616 := by
  rw [u64_wrap, ← hh]
  unfold wrap64
  omega
set_option maxHeartbeats 4000000 in
theorem text_pos (ah al : Int) (N : Nat) (h' : Int) (tt : ByteArray) (hh : wrap64 ((N : Int) / 18446744073709551616) = h') (hah : -9223372036854775808 ≤ ah ∧ ah ≤ 9223372036854775807) (hal : 0 ≤ al ∧ al < 18446744073709551616) (hneg : decide (ah < 0) = false) (hval : (N : Int) = ah * 18446744073709551616 + al) (hN : N < 340282366920938463463374607431768211456) (htt : (⟨#[]⟩ : ByteArray) ++ strOfNums (digits N) = tt) (w : World) :
    Calls Try.prog 31 #[.agg #[.int .i64 ah, .int .u64 al]] w fun e w' => e = .returned (.string tt) ∧ Below w.heap.size w w' := by
  refine calls_flow Try.func31 rfl 47 rfl (Nat.le_of_ble_eq_true rfl) [(0, .agg #[.int .i64 ah, .int .u64 al])] ?_ ?_
  · intro t v h; exact args_look rfl t v h
  refine w_seq ?_
  refine w_region ?_
  refine rw_new (cs := #[.int .i64 ah, .int .u64 al]) (t := 24) (fun g => .pointer (some ⟨g, 0, none⟩)) rfl rfl rfl rfl (by simp [go_sem, sEv, sLook, nbeq, i64_w]) ?_
  intro g1 w2 hg6 hz5 hb3 hk4
  have hs_w2 := hb3.size
  refine rw_val (v := .string (⟨#[]⟩ : ByteArray)) (w' := w2) rfl rfl rfl rfl rfl ?_
  refine rw_end ?_
  refine w_seq ?_
  refine w_region ?_
  refine rw_val (v := .string (⟨#[]⟩ : ByteArray)) (w' := w2) rfl rfl rfl rfl rfl ?_
  refine rw_end ?_
  refine w_seq ?_
  refine w_seq ?_
  refine w_region ?_
  refine rw_val (v := .pointer (some ⟨g1, 0, none⟩)) (w' := w2) rfl rfl rfl rfl (by simp [go_sem, sEv, sLook, nbeq, i64_w, Try.underlying24]) ?_
  refine rw_val (v := .int .i64 ah) (w' := w2) rfl rfl rfl rfl (by have eb_ := hk4; have e0_ := eb_.cellv (i := 0) (v := (.int .i64 ah : Value)) rfl; simp [go_sem, sEv, sLook, nbeq, i64_w, e0_]) ?_
  refine rw_val (v := .bool (decide (ah < 0))) (w' := w2) rfl rfl rfl rfl (by simp [go_sem, sEv, sLook, nbeq, i64_w]) ?_
  refine rw_end ?_
  refine w_cond_f rfl rfl hneg ?_
  refine w_skip ?_
  refine w_seq ?_
  refine w_draw (M := [0, 1, 3, 0, 8, 7, 63]) (ss := [Is (.pointer (some ⟨g1, 0, none⟩)), Is (.int .i64 ah), Is (.int .u64 ((N : Int) / 18446744073709551616)), Is (.pointer (some ⟨g1, 1, none⟩)), Is (.int .u64 ((N : Int) % 18446744073709551616)), Is (.int .u64 ((N : Int) / 18446744073709551616)), Is (.int .u64 ((N : Int) % 18446744073709551616))]) rfl (by decide +kernel) ?_
  refine t_is (.pointer (some ⟨g1, 0, none⟩)) rfl rfl rfl rfl (fun W_ hW_ F_ => by simp [go_sem, sEv, sLook, nbeq, i64_w, Try.underlying24]) ?_
  refine t_is (.int .i64 ah) rfl rfl rfl rfl (fun W_ hW_ F_ => by have eb_ := (hk4.on (below_of_drew hW_)); have e0_ := eb_.cellv (i := 0) (v := (.int .i64 ah : Value)) rfl; simp [go_sem, sEv, sLook, nbeq, i64_w, e0_]) ?_
  refine t_is (.int .u64 ((N : Int) / 18446744073709551616)) rfl rfl rfl rfl (fun W_ hW_ F_ => by simp [go_sem, sEv, sLook, nbeq, i64_w, Try.underlying3, Try.underlying44] <;> first | exact wrap_back N h' hh hN | (rw [u64_wrap]; omega) | first | omega | (unfold wrap64; (try simp only [u64_wrap]); omega)) ?_
  refine t_is (.pointer (some ⟨g1, 1, none⟩)) rfl rfl rfl rfl (fun W_ hW_ F_ => by simp [go_sem, sEv, sLook, nbeq, i64_w, Try.underlying24]) ?_
  refine t_is (.int .u64 ((N : Int) % 18446744073709551616)) rfl rfl rfl rfl (fun W_ hW_ F_ => by have eb_ := (hk4.on (below_of_drew hW_)); have e0_ := eb_.cellv (i := 1) (v := (.int .u64 al : Value)) rfl; simp [go_sem, sEv, sLook, nbeq, i64_w, e0_] <;> first | omega | (unfold wrap64; (try simp only [u64_wrap]); omega)) ?_
  refine t_is (.int .u64 ((N : Int) / 18446744073709551616)) rfl rfl rfl rfl (fun W_ hW_ F_ => rfl) ?_
  refine t_is (.int .u64 ((N : Int) % 18446744073709551616)) rfl rfl rfl rfl (fun W_ hW_ F_ => rfl) ?_
  refine t_end ?_
  intro w7 hb8_ F9
  have hb8 := below_of_drew hb8_
  have hs_w7 := hb8.size
  refine w_weaken (G' := [(2, .string (⟨#[]⟩ : ByteArray)), (3, .string (⟨#[]⟩ : ByteArray)), (4, .int .u64 ((N : Int) / 18446744073709551616)), (5, .int .u64 ((N : Int) % 18446744073709551616))]) ⟨rfl, rfl, rfl, rfl, trivial⟩ ?_
  refine w_seq ?_
  refine w_region ?_
  refine rw_new (cs := zeros40) (t := 54) (fun g => .pointer (some ⟨g, 0, none⟩)) rfl rfl rfl rfl (by kernel_rfl) ?_
  intro g10 w11 hg15 hz14 hb12 hk13
  have hs_w11 := hb12.size
  refine rw_end ?_
  refine w_seq ?_
  refine w_region ?_
  refine rw_val (v := .int .i64 40) (w' := w11) rfl rfl rfl rfl rfl ?_
  refine rw_end ?_
  refine w_seq ?_
  refine w_block ?_
  refine w_loop (fun m G W_ => ∃ (n : Nat) (ds : List Int) (cs : Array Value), G = [(3, .string (⟨#[]⟩ : ByteArray)), (4, .int .u64 ((n : Int) / 18446744073709551616)), (5, .int .u64 ((n : Int) % 18446744073709551616)), (6, .pointer (some ⟨g10, 0, none⟩)), (7, .int .i64 (m : Int))] ∧ Below w.heap.size w W_ ∧ Blk W_ g10 54 cs ∧ cs.size = 40 ∧ TInv N m n ds ∧ DIn cs m ds) 40 [(3, .string (⟨#[]⟩ : ByteArray)), (4, .int .u64 ((N : Int) / 18446744073709551616)), (5, .int .u64 ((N : Int) % 18446744073709551616)), (6, .pointer (some ⟨g10, 0, none⟩)), (7, .int .i64 ((40 : Nat) : Int))] ⟨N, [], _, rfl, (chain (chain hb3 hb8) hb12), hk13, rfl, TInv.start N hN, DIn.nil _⟩ ⟨rfl, rfl, rfl, rfl, rfl, trivial⟩ ?_
  rintro m G w_ ⟨n, ds, cs, rfl, hB, hblk, hcs, hinv, hds⟩
  obtain ⟨i, rfl⟩ : ∃ i, m = i + 1 := ⟨m - 1, by have := hinv.1; omega⟩
  obtain ⟨ho, hor, hz⟩ := or_zero n hinv.lt
  have hi40 : i < cs.size := by have := hinv.2.1; omega
  have hi41 : (i : Int) < 40 := by omega
  have e7_ : (((i + 1 : Nat)) : Int) = (i : Int) + 1 := by omega
  rw [e7_]
  refine w_seq ?_
  refine w_seq ?_
  refine w_region ?_
  refine rw_val (v := .int .i64 ((i : Int) + 1)) (w' := w_) rfl rfl rfl rfl rfl ?_
  refine rw_val (v := .bool (((i : Int) + 1) == 40)) (w' := w_) rfl rfl rfl rfl (by simp [go_sem, sEv, sLook, nbeq, i64_w]) ?_
  refine rw_val (v := .bool (((i : Int) + 1) == 40)) (w' := w_) rfl rfl rfl rfl rfl ?_
  rcases bcase (((i : Int) + 1) == 40) with cAt | cAt
  · refine rw_gval (c := (((i : Int) + 1) == 40)) (v := .int .u64 ((n : Int) / 18446744073709551616)) (w' := w_) rfl rfl rfl (by simp [cAt]) rfl rfl rfl (by rfl) ?_
    refine rw_gval (c := (((i : Int) + 1) == 40)) (v := .int .u64 ((n : Int) % 18446744073709551616)) (w' := w_) rfl rfl rfl (by simp [cAt]) rfl rfl rfl (by rfl) ?_
    refine rw_gval (c := (((i : Int) + 1) == 40)) (v := .int .u64 ho) (w' := w_) rfl rfl rfl (by simp [cAt]) rfl rfl rfl (by simp [go_sem, sEv, sLook, nbeq, i64_w]; exact hor) ?_
    refine rw_gval (c := (((i : Int) + 1) == 40)) (v := .bool (ho != 0)) (w' := w_) rfl rfl rfl (by simp [cAt]) rfl rfl rfl (by simp [go_sem, sEv, sLook, nbeq, i64_w]) ?_
    refine rw_val (v := .bool (ho != 0)) (w' := w_) rfl rfl rfl rfl (by simp [go_sem, sEv, sLook, nbeq, i64_w, cAt]) ?_
    refine rw_end ?_
    refine w_weaken (G' := [(3, .string (⟨#[]⟩ : ByteArray)), (4, .int .u64 ((n : Int) / 18446744073709551616)), (5, .int .u64 ((n : Int) % 18446744073709551616)), (6, .pointer (some ⟨g10, 0, none⟩)), (7, .int .i64 ((i : Int) + 1)), (25, .bool (ho != 0))]) ⟨rfl, rfl, rfl, rfl, rfl, rfl, trivial⟩ ?_
    refine w_cond rfl rfl (fun cHo => ?_) (fun cHo => ?_)
    · refine w_skip ?_
      refine w_block ?_
      refine w_seq ?_
      refine w_region ?_
      refine rw_val (v := .int .i64 ((i : Int) + 1)) (w' := w_) rfl rfl rfl rfl rfl ?_
      refine rw_val (v := .int .i64 (i : Int)) (w' := w_) rfl rfl rfl rfl (by simp [go_sem, sEv, sLook, nbeq, i64_w]; unfold wrap64; omega) ?_
      refine rw_val (v := .int .i64 (i : Int)) (w' := w_) rfl rfl rfl rfl rfl ?_
      refine rw_end ?_
      refine w_seq ?_
      refine w_region ?_
      refine rw_val (v := .int .i64 (i : Int)) (w' := w_) rfl rfl rfl rfl rfl ?_
      refine rw_val (v := .int .u64 ((n : Int) / 18446744073709551616)) (w' := w_) rfl rfl rfl rfl rfl ?_
      refine rw_val (v := .int .u64 ((n : Int) % 18446744073709551616)) (w' := w_) rfl rfl rfl rfl rfl ?_
      refine rw_call rfl rfl rfl rfl (f := 40) (args := #[.int .u64 ((n : Int) / 18446744073709551616), .int .u64 ((n : Int) % 18446744073709551616)]) (by simp [go_sem, sEv, sLook, nbeq, i64_w]) (tenth_calls ((n : Int) / 18446744073709551616) ((n : Int) % 18446744073709551616) (by have := hinv.lt; omega) (by omega) w_) ?_
      rintro e_ w16 ⟨rfl, hb17⟩
      refine ⟨_, rfl, ?_⟩
      have hs_w16 := hb17.size
      refine rw_val (v := .tuple #[.int .u64 (((n : Int) / 18446744073709551616) / 10), .int .u64 ((((n : Int) / 18446744073709551616) % 10 * 18446744073709551616 + ((n : Int) % 18446744073709551616)) / 10), .int .u8 ((((n : Int) / 18446744073709551616) % 10 * 18446744073709551616 + ((n : Int) % 18446744073709551616)) % 10)]) (w' := w16) rfl rfl rfl rfl rfl ?_
      refine rw_val (v := .int .u64 (((n / 10 : Nat) : Int) / 18446744073709551616)) (w' := w16) rfl rfl rfl rfl (by simp [go_sem, sEv, sLook, nbeq, i64_w]; omega) ?_
      refine rw_val (v := .int .u64 (((n / 10 : Nat) : Int) % 18446744073709551616)) (w' := w16) rfl rfl rfl rfl (by simp [go_sem, sEv, sLook, nbeq, i64_w]; omega) ?_
      refine rw_val (v := .int .u8 ((n : Int) % 10)) (w' := w16) rfl rfl rfl rfl (by simp [go_sem, sEv, sLook, nbeq, i64_w]; omega) ?_
      refine rw_val (v := .int .u64 (((n / 10 : Nat) : Int) / 18446744073709551616)) (w' := w16) rfl rfl rfl rfl rfl ?_
      refine rw_val (v := .int .u64 (((n / 10 : Nat) : Int) % 18446744073709551616)) (w' := w16) rfl rfl rfl rfl rfl ?_
      refine rw_val (v := .pointer (some ⟨g10, i, none⟩)) (w' := w16) rfl rfl rfl rfl (by simp [go_sem, sEv, sLook, nbeq, i64_w, Try.underlying54, add_plain, hi41]) ?_
      have hb21 := (hblk.on hb17)
      refine rw_store (g := g10) (i := i) (l := [.int .u8 ((n : Int) % 10)]) (cs' := (cs).setIfInBounds i (.int .u8 ((n : Int) % 10))) rfl rfl rfl hb21 rfl (by have e0_ := hb21.cellv (Array.getElem?_eq_getElem (by simpa using hi40)); have f0_ := hb21.frozen i; simp [go_sem, sEv, sLook, nbeq, i64_w, putCells, e0_, f0_]) ?_
      intro w18 hk19 hk20
      have hs_w18 := hk19.size
      refine rw_end ?_
      refine w_weaken (G' := [(3, .string (⟨#[]⟩ : ByteArray)), (4, .int .u64 (((n / 10 : Nat) : Int) / 18446744073709551616)), (5, .int .u64 (((n / 10 : Nat) : Int) % 18446744073709551616)), (6, .pointer (some ⟨g10, 0, none⟩)), (7, .int .i64 (i : Int))]) ⟨rfl, rfl, rfl, rfl, rfl, trivial⟩ ?_
      refine w_region ?_
      refine rw_val (v := .int .i64 (i : Int)) (w' := w18) rfl rfl rfl rfl rfl ?_
      refine rw_val (v := .pointer (some ⟨g10, i, none⟩)) (w' := w18) rfl rfl rfl rfl (by simp [go_sem, sEv, sLook, nbeq, i64_w, Try.underlying54, add_plain, hi41]) ?_
      refine rw_val (v := .int .u8 ((n : Int) % 10)) (w' := w18) rfl rfl rfl rfl (by have e0_ := hk20.cellv (i := i) (v := (.int .u8 ((n : Int) % 10) : Value)) (by simp [hi40]); simp [go_sem, sEv, sLook, nbeq, i64_w, e0_]) ?_
      refine rw_val (v := .int .u8 (48 + (n : Int) % 10)) (w' := w18) rfl rfl rfl rfl (by simp [go_sem, sEv, sLook, nbeq, i64_w]; rw [u8_wrap _ (by omega) (by omega)]; omega) ?_
      refine rw_val (v := .pointer (some ⟨g10, i, none⟩)) (w' := w18) rfl rfl rfl rfl (by simp [go_sem, sEv, sLook, nbeq, i64_w, Try.underlying54, add_plain, hi41]) ?_
      have hb25 := hk20
      refine rw_store (g := g10) (i := i) (l := [.int .u8 (48 + (n : Int) % 10)]) (cs' := ((cs).setIfInBounds i (.int .u8 ((n : Int) % 10))).setIfInBounds i (.int .u8 (48 + (n : Int) % 10))) rfl rfl rfl hb25 rfl (by have e0_ := hb25.cellv (Array.getElem?_eq_getElem (by simpa using hi40)); have f0_ := hb25.frozen i; simp [go_sem, sEv, sLook, nbeq, i64_w, putCells, e0_, f0_]) ?_
      intro w22 hk23 hk24
      have hs_w22 := hk23.size
      refine rw_end ?_
      refine w_weaken (G' := [(3, .string (⟨#[]⟩ : ByteArray)), (4, .int .u64 (((n / 10 : Nat) : Int) / 18446744073709551616)), (5, .int .u64 (((n / 10 : Nat) : Int) % 18446744073709551616)), (6, .pointer (some ⟨g10, 0, none⟩)), (7, .int .i64 (i : Int))]) ⟨rfl, rfl, rfl, rfl, rfl, trivial⟩ ?_
      refine w_blk ?_
      have hgo_ : i + 1 = 40 ∨ n ≠ 0 := Or.inr (fun h0 => by have := cHo; rw [hz.2 h0] at this; simp at this)
      exact w_back i [(3, .string (⟨#[]⟩ : ByteArray)), (4, .int .u64 (((n / 10 : Nat) : Int) / 18446744073709551616)), (5, .int .u64 (((n / 10 : Nat) : Int) % 18446744073709551616)), (6, .pointer (some ⟨g10, 0, none⟩)), (7, .int .i64 (i : Int))] (by omega) ⟨rfl, rfl, rfl, rfl, rfl, trivial⟩ ⟨n / 10, (48 + n % 10) :: ds, _, rfl, (hk23.below (by omega) (hk19.below (by omega) (chain hB hb17))), hk24, by simp [hcs], hinv.step hgo_, hds.step hi40⟩
    · refine w_exit rfl ?_
      refine w_seq ?_
      refine w_region ?_
      refine rw_val (v := .string (⟨#[]⟩ : ByteArray)) (w' := w_) rfl rfl rfl rfl rfl ?_
      refine rw_val (v := .int .i64 ((i : Int) + 1)) (w' := w_) rfl rfl rfl rfl rfl ?_
      refine rw_val (v := .slice (some ⟨g10, i + 1, none⟩) (39 - i) (39 - i)) (w' := w_) rfl rfl rfl rfl (by simp [go_sem, sEv, sLook, nbeq, i64_w, slice40 (i := i) (by have := cAt; simp at this; omega)]) ?_
      refine rw_val (v := .string (strOfNums ds)) (w' := w_) rfl rfl rfl rfl (by have hl_ : ds.length = 39 - i := by {have := hinv.2.1; omega}; have hs_ := string_of_reads (P := Try.prog) (src := 52) (dst := 9) (e := 5) (c := 39 - i) (by kernel_rfl) (by kernel_rfl) (by kernel_rfl) (DIn.reads hblk hds hl_ (by omega)); simp [go_sem, sEv, sLook, nbeq, i64_w, hs_]) ?_
      have hd_ : ds = digits N := hinv.stop (by have := cAt; simp at this; omega) (hz.1 (by have := cHo; simpa using this))
      refine rw_val (v := .string tt) (w' := w_) rfl rfl rfl rfl (by simp [go_sem, sEv, sLook, nbeq, i64_w]; rw [hd_, if_neg (by have := digits_size N; simp; omega), htt]) ?_
      refine rw_val (v := .string tt) (w' := w_) rfl rfl rfl rfl rfl ?_
      refine rw_end ?_
      refine w_weaken (G' := [(2, .string tt)]) ⟨rfl, trivial⟩ ?_
      refine w_ret (post_ret1 rfl rfl ?_)
      exact ⟨rfl, hB⟩
  · refine rw_off (c := (((i : Int) + 1) == 40)) rfl rfl rfl (by simp [cAt]) rfl rfl ?_
    refine rw_off (c := (((i : Int) + 1) == 40)) rfl rfl rfl (by simp [cAt]) rfl rfl ?_
    refine rw_off (c := (((i : Int) + 1) == 40)) rfl rfl rfl (by simp [cAt]) rfl rfl ?_
    refine rw_off (c := (((i : Int) + 1) == 40)) rfl rfl rfl (by simp [cAt]) rfl rfl ?_
    refine rw_val (v := .bool true) (w' := w_) rfl rfl rfl rfl (by simp [go_sem, sEv, sLook, nbeq, i64_w, cAt]) ?_
    refine rw_end ?_
    refine w_weaken (G' := [(3, .string (⟨#[]⟩ : ByteArray)), (4, .int .u64 ((n : Int) / 18446744073709551616)), (5, .int .u64 ((n : Int) % 18446744073709551616)), (6, .pointer (some ⟨g10, 0, none⟩)), (7, .int .i64 ((i : Int) + 1)), (25, .bool true)]) ⟨rfl, rfl, rfl, rfl, rfl, rfl, trivial⟩ ?_
    refine w_cond_t rfl rfl rfl ?_
    refine w_skip ?_
    refine w_block ?_
    refine w_seq ?_
    refine w_region ?_
    refine rw_val (v := .int .i64 ((i : Int) + 1)) (w' := w_) rfl rfl rfl rfl rfl ?_
    refine rw_val (v := .int .i64 (i : Int)) (w' := w_) rfl rfl rfl rfl (by simp [go_sem, sEv, sLook, nbeq, i64_w]; unfold wrap64; omega) ?_
    refine rw_val (v := .int .i64 (i : Int)) (w' := w_) rfl rfl rfl rfl rfl ?_
    refine rw_end ?_
    refine w_seq ?_
    refine w_region ?_
    refine rw_val (v := .int .i64 (i : Int)) (w' := w_) rfl rfl rfl rfl rfl ?_
    refine rw_val (v := .int .u64 ((n : Int) / 18446744073709551616)) (w' := w_) rfl rfl rfl rfl rfl ?_
    refine rw_val (v := .int .u64 ((n : Int) % 18446744073709551616)) (w' := w_) rfl rfl rfl rfl rfl ?_
    refine rw_call rfl rfl rfl rfl (f := 40) (args := #[.int .u64 ((n : Int) / 18446744073709551616), .int .u64 ((n : Int) % 18446744073709551616)]) (by simp [go_sem, sEv, sLook, nbeq, i64_w]) (tenth_calls ((n : Int) / 18446744073709551616) ((n : Int) % 18446744073709551616) (by have := hinv.lt; omega) (by omega) w_) ?_
    rintro e_ w26 ⟨rfl, hb27⟩
    refine ⟨_, rfl, ?_⟩
    have hs_w26 := hb27.size
    refine rw_val (v := .tuple #[.int .u64 (((n : Int) / 18446744073709551616) / 10), .int .u64 ((((n : Int) / 18446744073709551616) % 10 * 18446744073709551616 + ((n : Int) % 18446744073709551616)) / 10), .int .u8 ((((n : Int) / 18446744073709551616) % 10 * 18446744073709551616 + ((n : Int) % 18446744073709551616)) % 10)]) (w' := w26) rfl rfl rfl rfl rfl ?_
    refine rw_val (v := .int .u64 (((n / 10 : Nat) : Int) / 18446744073709551616)) (w' := w26) rfl rfl rfl rfl (by simp [go_sem, sEv, sLook, nbeq, i64_w]; omega) ?_
    refine rw_val (v := .int .u64 (((n / 10 : Nat) : Int) % 18446744073709551616)) (w' := w26) rfl rfl rfl rfl (by simp [go_sem, sEv, sLook, nbeq, i64_w]; omega) ?_
    refine rw_val (v := .int .u8 ((n : Int) % 10)) (w' := w26) rfl rfl rfl rfl (by simp [go_sem, sEv, sLook, nbeq, i64_w]; omega) ?_
    refine rw_val (v := .int .u64 (((n / 10 : Nat) : Int) / 18446744073709551616)) (w' := w26) rfl rfl rfl rfl rfl ?_
    refine rw_val (v := .int .u64 (((n / 10 : Nat) : Int) % 18446744073709551616)) (w' := w26) rfl rfl rfl rfl rfl ?_
    refine rw_val (v := .pointer (some ⟨g10, i, none⟩)) (w' := w26) rfl rfl rfl rfl (by simp [go_sem, sEv, sLook, nbeq, i64_w, Try.underlying54, add_plain, hi41]) ?_
    have hb31 := (hblk.on hb27)
    refine rw_store (g := g10) (i := i) (l := [.int .u8 ((n : Int) % 10)]) (cs' := (cs).setIfInBounds i (.int .u8 ((n : Int) % 10))) rfl rfl rfl hb31 rfl (by have e0_ := hb31.cellv (Array.getElem?_eq_getElem (by simpa using hi40)); have f0_ := hb31.frozen i; simp [go_sem, sEv, sLook, nbeq, i64_w, putCells, e0_, f0_]) ?_
    intro w28 hk29 hk30
    have hs_w28 := hk29.size
    refine rw_end ?_
    refine w_weaken (G' := [(3, .string (⟨#[]⟩ : ByteArray)), (4, .int .u64 (((n / 10 : Nat) : Int) / 18446744073709551616)), (5, .int .u64 (((n / 10 : Nat) : Int) % 18446744073709551616)), (6, .pointer (some ⟨g10, 0, none⟩)), (7, .int .i64 (i : Int))]) ⟨rfl, rfl, rfl, rfl, rfl, trivial⟩ ?_
    refine w_region ?_
    refine rw_val (v := .int .i64 (i : Int)) (w' := w28) rfl rfl rfl rfl rfl ?_
    refine rw_val (v := .pointer (some ⟨g10, i, none⟩)) (w' := w28) rfl rfl rfl rfl (by simp [go_sem, sEv, sLook, nbeq, i64_w, Try.underlying54, add_plain, hi41]) ?_
    refine rw_val (v := .int .u8 ((n : Int) % 10)) (w' := w28) rfl rfl rfl rfl (by have e0_ := hk30.cellv (i := i) (v := (.int .u8 ((n : Int) % 10) : Value)) (by simp [hi40]); simp [go_sem, sEv, sLook, nbeq, i64_w, e0_]) ?_
    refine rw_val (v := .int .u8 (48 + (n : Int) % 10)) (w' := w28) rfl rfl rfl rfl (by simp [go_sem, sEv, sLook, nbeq, i64_w]; rw [u8_wrap _ (by omega) (by omega)]; omega) ?_
    refine rw_val (v := .pointer (some ⟨g10, i, none⟩)) (w' := w28) rfl rfl rfl rfl (by simp [go_sem, sEv, sLook, nbeq, i64_w, Try.underlying54, add_plain, hi41]) ?_
    have hb35 := hk30
    refine rw_store (g := g10) (i := i) (l := [.int .u8 (48 + (n : Int) % 10)]) (cs' := ((cs).setIfInBounds i (.int .u8 ((n : Int) % 10))).setIfInBounds i (.int .u8 (48 + (n : Int) % 10))) rfl rfl rfl hb35 rfl (by have e0_ := hb35.cellv (Array.getElem?_eq_getElem (by simpa using hi40)); have f0_ := hb35.frozen i; simp [go_sem, sEv, sLook, nbeq, i64_w, putCells, e0_, f0_]) ?_
    intro w32 hk33 hk34
    have hs_w32 := hk33.size
    refine rw_end ?_
    refine w_weaken (G' := [(3, .string (⟨#[]⟩ : ByteArray)), (4, .int .u64 (((n / 10 : Nat) : Int) / 18446744073709551616)), (5, .int .u64 (((n / 10 : Nat) : Int) % 18446744073709551616)), (6, .pointer (some ⟨g10, 0, none⟩)), (7, .int .i64 (i : Int))]) ⟨rfl, rfl, rfl, rfl, rfl, trivial⟩ ?_
    refine w_blk ?_
    have hgo_ : i + 1 = 40 ∨ n ≠ 0 := Or.inl (by have := cAt; simp at this; omega)
    exact w_back i [(3, .string (⟨#[]⟩ : ByteArray)), (4, .int .u64 (((n / 10 : Nat) : Int) / 18446744073709551616)), (5, .int .u64 (((n / 10 : Nat) : Int) % 18446744073709551616)), (6, .pointer (some ⟨g10, 0, none⟩)), (7, .int .i64 (i : Int))] (by omega) ⟨rfl, rfl, rfl, rfl, rfl, trivial⟩ ⟨n / 10, (48 + n % 10) :: ds, _, rfl, (hk33.below (by omega) (hk29.below (by omega) (chain hB hb27))), hk34, by simp [hcs], hinv.step hgo_, hds.step hi40⟩
set_option maxHeartbeats 4000000 in
theorem text_neg (ah al : Int) (N : Nat) (h' : Int) (tt : ByteArray) (hh : wrap64 ((N : Int) / 18446744073709551616) = h') (hah : -9223372036854775808 ≤ ah ∧ ah ≤ 9223372036854775807) (hal : 0 ≤ al ∧ al < 18446744073709551616) (hneg : decide (ah < 0) = true) (hval : (N : Int) = -(ah * 18446744073709551616 + al)) (hN : N < 340282366920938463463374607431768211456) (htt : (⟨#[45]⟩ : ByteArray) ++ strOfNums (digits N) = tt) (w : World) :
    Calls Try.prog 31 #[.agg #[.int .i64 ah, .int .u64 al]] w fun e w' => e = .returned (.string tt) ∧ Below w.heap.size w w' := by
  refine calls_flow Try.func31 rfl 47 rfl (Nat.le_of_ble_eq_true rfl) [(0, .agg #[.int .i64 ah, .int .u64 al])] ?_ ?_
  · intro t v h; exact args_look rfl t v h
  refine w_seq ?_
  refine w_region ?_
  refine rw_new (cs := #[.int .i64 ah, .int .u64 al]) (t := 24) (fun g => .pointer (some ⟨g, 0, none⟩)) rfl rfl rfl rfl (by simp [go_sem, sEv, sLook, nbeq, i64_w]) ?_
  intro g1 w2 hg6 hz5 hb3 hk4
  have hs_w2 := hb3.size
  refine rw_val (v := .string (⟨#[]⟩ : ByteArray)) (w' := w2) rfl rfl rfl rfl rfl ?_
  refine rw_end ?_
  refine w_seq ?_
  refine w_region ?_
  refine rw_val (v := .string (⟨#[]⟩ : ByteArray)) (w' := w2) rfl rfl rfl rfl rfl ?_
  refine rw_end ?_
  refine w_seq ?_
  refine w_seq ?_
  refine w_region ?_
  refine rw_val (v := .pointer (some ⟨g1, 0, none⟩)) (w' := w2) rfl rfl rfl rfl (by simp [go_sem, sEv, sLook, nbeq, i64_w, Try.underlying24]) ?_
  refine rw_val (v := .int .i64 ah) (w' := w2) rfl rfl rfl rfl (by have eb_ := hk4; have e0_ := eb_.cellv (i := 0) (v := (.int .i64 ah : Value)) rfl; simp [go_sem, sEv, sLook, nbeq, i64_w, e0_]) ?_
  refine rw_val (v := .bool (decide (ah < 0))) (w' := w2) rfl rfl rfl rfl (by simp [go_sem, sEv, sLook, nbeq, i64_w]) ?_
  refine rw_end ?_
  refine w_cond_t rfl rfl hneg ?_
  refine w_region ?_
  refine rw_val (v := .agg #[.int .i64 ah, .int .u64 al]) (w' := w2) rfl rfl rfl rfl (by have eb_ := hk4; have e0_ := eb_.cellv (i := 0) (v := (.int .i64 ah : Value)) rfl; have e1_ := eb_.cellv (i := 1) (v := (.int .u64 al : Value)) rfl; simp [go_sem, sEv, sLook, nbeq, i64_w, e0_, e1_, Try.underlying24]) ?_
  refine rw_call rfl rfl rfl rfl (f := 16) (args := #[.agg #[.int .i64 ah, .int .u64 al]]) (by simp [go_sem, sEv, sLook, nbeq, i64_w]) (neg_text ah al N h' hah hal (of_decide_eq_true hneg) hval hh w2) ?_
  rintro e_ w7 ⟨rfl, hb8⟩
  refine ⟨_, rfl, ?_⟩
  have hs_w7 := hb8.size
  refine rw_val (v := .string (⟨#[45]⟩ : ByteArray)) (w' := w7) rfl rfl rfl rfl rfl ?_
  have hb12 := (hk4.on hb8)
  refine rw_store (g := g1) (i := 0) (l := [.int .i64 h', .int .u64 ((N : Int) % 18446744073709551616)]) (cs' := #[.int .i64 h', .int .u64 ((N : Int) % 18446744073709551616)]) rfl rfl rfl hb12 rfl (by have e0_ := hb12.cellv (i := 0) (v := (.int .i64 ah : Value)) rfl; have f0_ := hb12.frozen 0; have e1_ := hb12.cellv (i := 1) (v := (.int .u64 al : Value)) rfl; have f1_ := hb12.frozen 1; simp [go_sem, sEv, sLook, nbeq, i64_w, putCells, e0_, f0_, e1_, f1_, Try.underlying24]) ?_
  intro w9 hk10 hk11
  have hs_w9 := hk10.size
  refine rw_end ?_
  refine w_weaken (G' := [(1, .pointer (some ⟨g1, 0, none⟩)), (2, .string (⟨#[]⟩ : ByteArray)), (3, .string (⟨#[45]⟩ : ByteArray))]) ⟨rfl, rfl, rfl, trivial⟩ ?_
  refine w_seq ?_
  refine w_draw (M := [0, 1, 3, 0, 8, 7, 63]) (ss := [Is (.pointer (some ⟨g1, 0, none⟩)), Is (.int .i64 h'), Is (.int .u64 ((N : Int) / 18446744073709551616)), Is (.pointer (some ⟨g1, 1, none⟩)), Is (.int .u64 ((N : Int) % 18446744073709551616)), Is (.int .u64 ((N : Int) / 18446744073709551616)), Is (.int .u64 ((N : Int) % 18446744073709551616))]) rfl (by decide +kernel) ?_
  refine t_is (.pointer (some ⟨g1, 0, none⟩)) rfl rfl rfl rfl (fun W_ hW_ F_ => by simp [go_sem, sEv, sLook, nbeq, i64_w, Try.underlying24]) ?_
  refine t_is (.int .i64 h') rfl rfl rfl rfl (fun W_ hW_ F_ => by have eb_ := (hk11.on (below_of_drew hW_)); have e0_ := eb_.cellv (i := 0) (v := (.int .i64 h' : Value)) rfl; simp [go_sem, sEv, sLook, nbeq, i64_w, e0_]) ?_
  refine t_is (.int .u64 ((N : Int) / 18446744073709551616)) rfl rfl rfl rfl (fun W_ hW_ F_ => by simp [go_sem, sEv, sLook, nbeq, i64_w, Try.underlying3, Try.underlying44] <;> first | exact wrap_back N h' hh hN | (rw [u64_wrap]; omega) | first | omega | (unfold wrap64; (try simp only [u64_wrap]); omega)) ?_
  refine t_is (.pointer (some ⟨g1, 1, none⟩)) rfl rfl rfl rfl (fun W_ hW_ F_ => by simp [go_sem, sEv, sLook, nbeq, i64_w, Try.underlying24]) ?_
  refine t_is (.int .u64 ((N : Int) % 18446744073709551616)) rfl rfl rfl rfl (fun W_ hW_ F_ => by have eb_ := (hk11.on (below_of_drew hW_)); have e0_ := eb_.cellv (i := 1) (v := (.int .u64 ((N : Int) % 18446744073709551616) : Value)) rfl; simp [go_sem, sEv, sLook, nbeq, i64_w, e0_] <;> first | omega | (unfold wrap64; (try simp only [u64_wrap]); omega)) ?_
  refine t_is (.int .u64 ((N : Int) / 18446744073709551616)) rfl rfl rfl rfl (fun W_ hW_ F_ => rfl) ?_
  refine t_is (.int .u64 ((N : Int) % 18446744073709551616)) rfl rfl rfl rfl (fun W_ hW_ F_ => rfl) ?_
  refine t_end ?_
  intro w13 hb14_ F15
  have hb14 := below_of_drew hb14_
  have hs_w13 := hb14.size
  refine w_weaken (G' := [(2, .string (⟨#[]⟩ : ByteArray)), (3, .string (⟨#[45]⟩ : ByteArray)), (4, .int .u64 ((N : Int) / 18446744073709551616)), (5, .int .u64 ((N : Int) % 18446744073709551616))]) ⟨rfl, rfl, rfl, rfl, trivial⟩ ?_
  refine w_seq ?_
  refine w_region ?_
  refine rw_new (cs := zeros40) (t := 54) (fun g => .pointer (some ⟨g, 0, none⟩)) rfl rfl rfl rfl (by kernel_rfl) ?_
  intro g16 w17 hg21 hz20 hb18 hk19
  have hs_w17 := hb18.size
  refine rw_end ?_
  refine w_seq ?_
  refine w_region ?_
  refine rw_val (v := .int .i64 40) (w' := w17) rfl rfl rfl rfl rfl ?_
  refine rw_end ?_
  refine w_seq ?_
  refine w_block ?_
  refine w_loop (fun m G W_ => ∃ (n : Nat) (ds : List Int) (cs : Array Value), G = [(3, .string (⟨#[45]⟩ : ByteArray)), (4, .int .u64 ((n : Int) / 18446744073709551616)), (5, .int .u64 ((n : Int) % 18446744073709551616)), (6, .pointer (some ⟨g16, 0, none⟩)), (7, .int .i64 (m : Int))] ∧ Below w.heap.size w W_ ∧ Blk W_ g16 54 cs ∧ cs.size = 40 ∧ TInv N m n ds ∧ DIn cs m ds) 40 [(3, .string (⟨#[45]⟩ : ByteArray)), (4, .int .u64 ((N : Int) / 18446744073709551616)), (5, .int .u64 ((N : Int) % 18446744073709551616)), (6, .pointer (some ⟨g16, 0, none⟩)), (7, .int .i64 ((40 : Nat) : Int))] ⟨N, [], _, rfl, (chain (chain (hk10.below (by omega) (chain hb3 hb8)) hb14) hb18), hk19, rfl, TInv.start N hN, DIn.nil _⟩ ⟨rfl, rfl, rfl, rfl, rfl, trivial⟩ ?_
  rintro m G w_ ⟨n, ds, cs, rfl, hB, hblk, hcs, hinv, hds⟩
  obtain ⟨i, rfl⟩ : ∃ i, m = i + 1 := ⟨m - 1, by have := hinv.1; omega⟩
  obtain ⟨ho, hor, hz⟩ := or_zero n hinv.lt
  have hi40 : i < cs.size := by have := hinv.2.1; omega
  have hi41 : (i : Int) < 40 := by omega
  have e7_ : (((i + 1 : Nat)) : Int) = (i : Int) + 1 := by omega
  rw [e7_]
  refine w_seq ?_
  refine w_seq ?_
  refine w_region ?_
  refine rw_val (v := .int .i64 ((i : Int) + 1)) (w' := w_) rfl rfl rfl rfl rfl ?_
  refine rw_val (v := .bool (((i : Int) + 1) == 40)) (w' := w_) rfl rfl rfl rfl (by simp [go_sem, sEv, sLook, nbeq, i64_w]) ?_
  refine rw_val (v := .bool (((i : Int) + 1) == 40)) (w' := w_) rfl rfl rfl rfl rfl ?_
  rcases bcase (((i : Int) + 1) == 40) with cAt | cAt
  · refine rw_gval (c := (((i : Int) + 1) == 40)) (v := .int .u64 ((n : Int) / 18446744073709551616)) (w' := w_) rfl rfl rfl (by simp [cAt]) rfl rfl rfl (by rfl) ?_
    refine rw_gval (c := (((i : Int) + 1) == 40)) (v := .int .u64 ((n : Int) % 18446744073709551616)) (w' := w_) rfl rfl rfl (by simp [cAt]) rfl rfl rfl (by rfl) ?_
    refine rw_gval (c := (((i : Int) + 1) == 40)) (v := .int .u64 ho) (w' := w_) rfl rfl rfl (by simp [cAt]) rfl rfl rfl (by simp [go_sem, sEv, sLook, nbeq, i64_w]; exact hor) ?_
    refine rw_gval (c := (((i : Int) + 1) == 40)) (v := .bool (ho != 0)) (w' := w_) rfl rfl rfl (by simp [cAt]) rfl rfl rfl (by simp [go_sem, sEv, sLook, nbeq, i64_w]) ?_
    refine rw_val (v := .bool (ho != 0)) (w' := w_) rfl rfl rfl rfl (by simp [go_sem, sEv, sLook, nbeq, i64_w, cAt]) ?_
    refine rw_end ?_
    refine w_weaken (G' := [(3, .string (⟨#[45]⟩ : ByteArray)), (4, .int .u64 ((n : Int) / 18446744073709551616)), (5, .int .u64 ((n : Int) % 18446744073709551616)), (6, .pointer (some ⟨g16, 0, none⟩)), (7, .int .i64 ((i : Int) + 1)), (25, .bool (ho != 0))]) ⟨rfl, rfl, rfl, rfl, rfl, rfl, trivial⟩ ?_
    refine w_cond rfl rfl (fun cHo => ?_) (fun cHo => ?_)
    · refine w_skip ?_
      refine w_block ?_
      refine w_seq ?_
      refine w_region ?_
      refine rw_val (v := .int .i64 ((i : Int) + 1)) (w' := w_) rfl rfl rfl rfl rfl ?_
      refine rw_val (v := .int .i64 (i : Int)) (w' := w_) rfl rfl rfl rfl (by simp [go_sem, sEv, sLook, nbeq, i64_w]; unfold wrap64; omega) ?_
      refine rw_val (v := .int .i64 (i : Int)) (w' := w_) rfl rfl rfl rfl rfl ?_
      refine rw_end ?_
      refine w_seq ?_
      refine w_region ?_
      refine rw_val (v := .int .i64 (i : Int)) (w' := w_) rfl rfl rfl rfl rfl ?_
      refine rw_val (v := .int .u64 ((n : Int) / 18446744073709551616)) (w' := w_) rfl rfl rfl rfl rfl ?_
      refine rw_val (v := .int .u64 ((n : Int) % 18446744073709551616)) (w' := w_) rfl rfl rfl rfl rfl ?_
      refine rw_call rfl rfl rfl rfl (f := 40) (args := #[.int .u64 ((n : Int) / 18446744073709551616), .int .u64 ((n : Int) % 18446744073709551616)]) (by simp [go_sem, sEv, sLook, nbeq, i64_w]) (tenth_calls ((n : Int) / 18446744073709551616) ((n : Int) % 18446744073709551616) (by have := hinv.lt; omega) (by omega) w_) ?_
      rintro e_ w22 ⟨rfl, hb23⟩
      refine ⟨_, rfl, ?_⟩
      have hs_w22 := hb23.size
      refine rw_val (v := .tuple #[.int .u64 (((n : Int) / 18446744073709551616) / 10), .int .u64 ((((n : Int) / 18446744073709551616) % 10 * 18446744073709551616 + ((n : Int) % 18446744073709551616)) / 10), .int .u8 ((((n : Int) / 18446744073709551616) % 10 * 18446744073709551616 + ((n : Int) % 18446744073709551616)) % 10)]) (w' := w22) rfl rfl rfl rfl rfl ?_
      refine rw_val (v := .int .u64 (((n / 10 : Nat) : Int) / 18446744073709551616)) (w' := w22) rfl rfl rfl rfl (by simp [go_sem, sEv, sLook, nbeq, i64_w]; omega) ?_
      refine rw_val (v := .int .u64 (((n / 10 : Nat) : Int) % 18446744073709551616)) (w' := w22) rfl rfl rfl rfl (by simp [go_sem, sEv, sLook, nbeq, i64_w]; omega) ?_
      refine rw_val (v := .int .u8 ((n : Int) % 10)) (w' := w22) rfl rfl rfl rfl (by simp [go_sem, sEv, sLook, nbeq, i64_w]; omega) ?_
      refine rw_val (v := .int .u64 (((n / 10 : Nat) : Int) / 18446744073709551616)) (w' := w22) rfl rfl rfl rfl rfl ?_
      refine rw_val (v := .int .u64 (((n / 10 : Nat) : Int) % 18446744073709551616)) (w' := w22) rfl rfl rfl rfl rfl ?_
      refine rw_val (v := .pointer (some ⟨g16, i, none⟩)) (w' := w22) rfl rfl rfl rfl (by simp [go_sem, sEv, sLook, nbeq, i64_w, Try.underlying54, add_plain, hi41]) ?_
      have hb27 := (hblk.on hb23)
      refine rw_store (g := g16) (i := i) (l := [.int .u8 ((n : Int) % 10)]) (cs' := (cs).setIfInBounds i (.int .u8 ((n : Int) % 10))) rfl rfl rfl hb27 rfl (by have e0_ := hb27.cellv (Array.getElem?_eq_getElem (by simpa using hi40)); have f0_ := hb27.frozen i; simp [go_sem, sEv, sLook, nbeq, i64_w, putCells, e0_, f0_]) ?_
      intro w24 hk25 hk26
      have hs_w24 := hk25.size
      refine rw_end ?_
      refine w_weaken (G' := [(3, .string (⟨#[45]⟩ : ByteArray)), (4, .int .u64 (((n / 10 : Nat) : Int) / 18446744073709551616)), (5, .int .u64 (((n / 10 : Nat) : Int) % 18446744073709551616)), (6, .pointer (some ⟨g16, 0, none⟩)), (7, .int .i64 (i : Int))]) ⟨rfl, rfl, rfl, rfl, rfl, trivial⟩ ?_
      refine w_region ?_
      refine rw_val (v := .int .i64 (i : Int)) (w' := w24) rfl rfl rfl rfl rfl ?_
      refine rw_val (v := .pointer (some ⟨g16, i, none⟩)) (w' := w24) rfl rfl rfl rfl (by simp [go_sem, sEv, sLook, nbeq, i64_w, Try.underlying54, add_plain, hi41]) ?_
      refine rw_val (v := .int .u8 ((n : Int) % 10)) (w' := w24) rfl rfl rfl rfl (by have e0_ := hk26.cellv (i := i) (v := (.int .u8 ((n : Int) % 10) : Value)) (by simp [hi40]); simp [go_sem, sEv, sLook, nbeq, i64_w, e0_]) ?_
      refine rw_val (v := .int .u8 (48 + (n : Int) % 10)) (w' := w24) rfl rfl rfl rfl (by simp [go_sem, sEv, sLook, nbeq, i64_w]; rw [u8_wrap _ (by omega) (by omega)]; omega) ?_
      refine rw_val (v := .pointer (some ⟨g16, i, none⟩)) (w' := w24) rfl rfl rfl rfl (by simp [go_sem, sEv, sLook, nbeq, i64_w, Try.underlying54, add_plain, hi41]) ?_
      have hb31 := hk26
      refine rw_store (g := g16) (i := i) (l := [.int .u8 (48 + (n : Int) % 10)]) (cs' := ((cs).setIfInBounds i (.int .u8 ((n : Int) % 10))).setIfInBounds i (.int .u8 (48 + (n : Int) % 10))) rfl rfl rfl hb31 rfl (by have e0_ := hb31.cellv (Array.getElem?_eq_getElem (by simpa using hi40)); have f0_ := hb31.frozen i; simp [go_sem, sEv, sLook, nbeq, i64_w, putCells, e0_, f0_]) ?_
      intro w28 hk29 hk30
      have hs_w28 := hk29.size
      refine rw_end ?_
      refine w_weaken (G' := [(3, .string (⟨#[45]⟩ : ByteArray)), (4, .int .u64 (((n / 10 : Nat) : Int) / 18446744073709551616)), (5, .int .u64 (((n / 10 : Nat) : Int) % 18446744073709551616)), (6, .pointer (some ⟨g16, 0, none⟩)), (7, .int .i64 (i : Int))]) ⟨rfl, rfl, rfl, rfl, rfl, trivial⟩ ?_
      refine w_blk ?_
      have hgo_ : i + 1 = 40 ∨ n ≠ 0 := Or.inr (fun h0 => by have := cHo; rw [hz.2 h0] at this; simp at this)
      exact w_back i [(3, .string (⟨#[45]⟩ : ByteArray)), (4, .int .u64 (((n / 10 : Nat) : Int) / 18446744073709551616)), (5, .int .u64 (((n / 10 : Nat) : Int) % 18446744073709551616)), (6, .pointer (some ⟨g16, 0, none⟩)), (7, .int .i64 (i : Int))] (by omega) ⟨rfl, rfl, rfl, rfl, rfl, trivial⟩ ⟨n / 10, (48 + n % 10) :: ds, _, rfl, (hk29.below (by omega) (hk25.below (by omega) (chain hB hb23))), hk30, by simp [hcs], hinv.step hgo_, hds.step hi40⟩
    · refine w_exit rfl ?_
      refine w_seq ?_
      refine w_region ?_
      refine rw_val (v := .string (⟨#[45]⟩ : ByteArray)) (w' := w_) rfl rfl rfl rfl rfl ?_
      refine rw_val (v := .int .i64 ((i : Int) + 1)) (w' := w_) rfl rfl rfl rfl rfl ?_
      refine rw_val (v := .slice (some ⟨g16, i + 1, none⟩) (39 - i) (39 - i)) (w' := w_) rfl rfl rfl rfl (by simp [go_sem, sEv, sLook, nbeq, i64_w, slice40 (i := i) (by have := cAt; simp at this; omega)]) ?_
      refine rw_val (v := .string (strOfNums ds)) (w' := w_) rfl rfl rfl rfl (by have hl_ : ds.length = 39 - i := by {have := hinv.2.1; omega}; have hs_ := string_of_reads (P := Try.prog) (src := 52) (dst := 9) (e := 5) (c := 39 - i) (by kernel_rfl) (by kernel_rfl) (by kernel_rfl) (DIn.reads hblk hds hl_ (by omega)); simp [go_sem, sEv, sLook, nbeq, i64_w, hs_]) ?_
      have hd_ : ds = digits N := hinv.stop (by have := cAt; simp at this; omega) (hz.1 (by have := cHo; simpa using this))
      refine rw_val (v := .string tt) (w' := w_) rfl rfl rfl rfl (by simp [go_sem, sEv, sLook, nbeq, i64_w]; rw [hd_, if_neg (by have := digits_size N; simp; omega), htt]) ?_
      refine rw_val (v := .string tt) (w' := w_) rfl rfl rfl rfl rfl ?_
      refine rw_end ?_
      refine w_weaken (G' := [(2, .string tt)]) ⟨rfl, trivial⟩ ?_
      refine w_ret (post_ret1 rfl rfl ?_)
      exact ⟨rfl, hB⟩
  · refine rw_off (c := (((i : Int) + 1) == 40)) rfl rfl rfl (by simp [cAt]) rfl rfl ?_
    refine rw_off (c := (((i : Int) + 1) == 40)) rfl rfl rfl (by simp [cAt]) rfl rfl ?_
    refine rw_off (c := (((i : Int) + 1) == 40)) rfl rfl rfl (by simp [cAt]) rfl rfl ?_
    refine rw_off (c := (((i : Int) + 1) == 40)) rfl rfl rfl (by simp [cAt]) rfl rfl ?_
    refine rw_val (v := .bool true) (w' := w_) rfl rfl rfl rfl (by simp [go_sem, sEv, sLook, nbeq, i64_w, cAt]) ?_
    refine rw_end ?_
    refine w_weaken (G' := [(3, .string (⟨#[45]⟩ : ByteArray)), (4, .int .u64 ((n : Int) / 18446744073709551616)), (5, .int .u64 ((n : Int) % 18446744073709551616)), (6, .pointer (some ⟨g16, 0, none⟩)), (7, .int .i64 ((i : Int) + 1)), (25, .bool true)]) ⟨rfl, rfl, rfl, rfl, rfl, rfl, trivial⟩ ?_
    refine w_cond_t rfl rfl rfl ?_
    refine w_skip ?_
    refine w_block ?_
    refine w_seq ?_
    refine w_region ?_
    refine rw_val (v := .int .i64 ((i : Int) + 1)) (w' := w_) rfl rfl rfl rfl rfl ?_
    refine rw_val (v := .int .i64 (i : Int)) (w' := w_) rfl rfl rfl rfl (by simp [go_sem, sEv, sLook, nbeq, i64_w]; unfold wrap64; omega) ?_
    refine rw_val (v := .int .i64 (i : Int)) (w' := w_) rfl rfl rfl rfl rfl ?_
    refine rw_end ?_
    refine w_seq ?_
    refine w_region ?_
    refine rw_val (v := .int .i64 (i : Int)) (w' := w_) rfl rfl rfl rfl rfl ?_
    refine rw_val (v := .int .u64 ((n : Int) / 18446744073709551616)) (w' := w_) rfl rfl rfl rfl rfl ?_
    refine rw_val (v := .int .u64 ((n : Int) % 18446744073709551616)) (w' := w_) rfl rfl rfl rfl rfl ?_
    refine rw_call rfl rfl rfl rfl (f := 40) (args := #[.int .u64 ((n : Int) / 18446744073709551616), .int .u64 ((n : Int) % 18446744073709551616)]) (by simp [go_sem, sEv, sLook, nbeq, i64_w]) (tenth_calls ((n : Int) / 18446744073709551616) ((n : Int) % 18446744073709551616) (by have := hinv.lt; omega) (by omega) w_) ?_
    rintro e_ w32 ⟨rfl, hb33⟩
    refine ⟨_, rfl, ?_⟩
    have hs_w32 := hb33.size
    refine rw_val (v := .tuple #[.int .u64 (((n : Int) / 18446744073709551616) / 10), .int .u64 ((((n : Int) / 18446744073709551616) % 10 * 18446744073709551616 + ((n : Int) % 18446744073709551616)) / 10), .int .u8 ((((n : Int) / 18446744073709551616) % 10 * 18446744073709551616 + ((n : Int) % 18446744073709551616)) % 10)]) (w' := w32) rfl rfl rfl rfl rfl ?_
    refine rw_val (v := .int .u64 (((n / 10 : Nat) : Int) / 18446744073709551616)) (w' := w32) rfl rfl rfl rfl (by simp [go_sem, sEv, sLook, nbeq, i64_w]; omega) ?_
    refine rw_val (v := .int .u64 (((n / 10 : Nat) : Int) % 18446744073709551616)) (w' := w32) rfl rfl rfl rfl (by simp [go_sem, sEv, sLook, nbeq, i64_w]; omega) ?_
    refine rw_val (v := .int .u8 ((n : Int) % 10)) (w' := w32) rfl rfl rfl rfl (by simp [go_sem, sEv, sLook, nbeq, i64_w]; omega) ?_
    refine rw_val (v := .int .u64 (((n / 10 : Nat) : Int) / 18446744073709551616)) (w' := w32) rfl rfl rfl rfl rfl ?_
    refine rw_val (v := .int .u64 (((n / 10 : Nat) : Int) % 18446744073709551616)) (w' := w32) rfl rfl rfl rfl rfl ?_
    refine rw_val (v := .pointer (some ⟨g16, i, none⟩)) (w' := w32) rfl rfl rfl rfl (by simp [go_sem, sEv, sLook, nbeq, i64_w, Try.underlying54, add_plain, hi41]) ?_
    have hb37 := (hblk.on hb33)
    refine rw_store (g := g16) (i := i) (l := [.int .u8 ((n : Int) % 10)]) (cs' := (cs).setIfInBounds i (.int .u8 ((n : Int) % 10))) rfl rfl rfl hb37 rfl (by have e0_ := hb37.cellv (Array.getElem?_eq_getElem (by simpa using hi40)); have f0_ := hb37.frozen i; simp [go_sem, sEv, sLook, nbeq, i64_w, putCells, e0_, f0_]) ?_
    intro w34 hk35 hk36
    have hs_w34 := hk35.size
    refine rw_end ?_
    refine w_weaken (G' := [(3, .string (⟨#[45]⟩ : ByteArray)), (4, .int .u64 (((n / 10 : Nat) : Int) / 18446744073709551616)), (5, .int .u64 (((n / 10 : Nat) : Int) % 18446744073709551616)), (6, .pointer (some ⟨g16, 0, none⟩)), (7, .int .i64 (i : Int))]) ⟨rfl, rfl, rfl, rfl, rfl, trivial⟩ ?_
    refine w_region ?_
    refine rw_val (v := .int .i64 (i : Int)) (w' := w34) rfl rfl rfl rfl rfl ?_
    refine rw_val (v := .pointer (some ⟨g16, i, none⟩)) (w' := w34) rfl rfl rfl rfl (by simp [go_sem, sEv, sLook, nbeq, i64_w, Try.underlying54, add_plain, hi41]) ?_
    refine rw_val (v := .int .u8 ((n : Int) % 10)) (w' := w34) rfl rfl rfl rfl (by have e0_ := hk36.cellv (i := i) (v := (.int .u8 ((n : Int) % 10) : Value)) (by simp [hi40]); simp [go_sem, sEv, sLook, nbeq, i64_w, e0_]) ?_
    refine rw_val (v := .int .u8 (48 + (n : Int) % 10)) (w' := w34) rfl rfl rfl rfl (by simp [go_sem, sEv, sLook, nbeq, i64_w]; rw [u8_wrap _ (by omega) (by omega)]; omega) ?_
    refine rw_val (v := .pointer (some ⟨g16, i, none⟩)) (w' := w34) rfl rfl rfl rfl (by simp [go_sem, sEv, sLook, nbeq, i64_w, Try.underlying54, add_plain, hi41]) ?_
    have hb41 := hk36
    refine rw_store (g := g16) (i := i) (l := [.int .u8 (48 + (n : Int) % 10)]) (cs' := ((cs).setIfInBounds i (.int .u8 ((n : Int) % 10))).setIfInBounds i (.int .u8 (48 + (n : Int) % 10))) rfl rfl rfl hb41 rfl (by have e0_ := hb41.cellv (Array.getElem?_eq_getElem (by simpa using hi40)); have f0_ := hb41.frozen i; simp [go_sem, sEv, sLook, nbeq, i64_w, putCells, e0_, f0_]) ?_
    intro w38 hk39 hk40
    have hs_w38 := hk39.size
    refine rw_end ?_
    refine w_weaken (G' := [(3, .string (⟨#[45]⟩ : ByteArray)), (4, .int .u64 (((n / 10 : Nat) : Int) / 18446744073709551616)), (5, .int .u64 (((n / 10 : Nat) : Int) % 18446744073709551616)), (6, .pointer (some ⟨g16, 0, none⟩)), (7, .int .i64 (i : Int))]) ⟨rfl, rfl, rfl, rfl, rfl, trivial⟩ ?_
    refine w_blk ?_
    have hgo_ : i + 1 = 40 ∨ n ≠ 0 := Or.inl (by have := cAt; simp at this; omega)
    exact w_back i [(3, .string (⟨#[45]⟩ : ByteArray)), (4, .int .u64 (((n / 10 : Nat) : Int) / 18446744073709551616)), (5, .int .u64 (((n / 10 : Nat) : Int) % 18446744073709551616)), (6, .pointer (some ⟨g16, 0, none⟩)), (7, .int .i64 (i : Int))] (by omega) ⟨rfl, rfl, rfl, rfl, rfl, trivial⟩ ⟨n / 10, (48 + n % 10) :: ds, _, rfl, (hk39.below (by omega) (hk35.below (by omega) (chain hB hb33))), hk40, by simp [hcs], hinv.step hgo_, hds.step hi40⟩
end Go.Proofs.Ythhepaikogcddaa.PFloorGroup
