/- Frames one behind the other, cut anywhere: which are split off. -/
import Derived.Test.YtiiljpaedelhlaaFrPlain
import Derived.Laws.Bits64b
namespace Go.Proofs.Ytiiljpaedelhlaa.PDiaryPlays
open Go.RowKit Go.Proofs.YtiiljpaedelhlaaW.PrintWords Go.Proofs.YtiiljpaedelhlaaW.PrintLast Go.Proofs.YtiiljpaedelhlaaW.PrintMore
attribute [local go_sem] max2_int min2_int max_two min_two max_three min_three max_four min_four
set_option linter.unusedVariables false
set_option linter.unusedSimpArgs false

/-! ### frame_high: function 57 -/
def frame_high.l0 : Nat → Int → List Int → Int → Int → Option (Int)
  | 0, _, _, _, _ => none
  | k + 1, x3, x6, x7, x8 => if x8 < x7 then (if 0 ≤ x8 then (if x8 < (x6.length : Int) then (if 0 ≤ (wrap64 (8 * x8)) then (frame_high.l0 k (Go.bits .or .u64 x3 (shl .u64 (IntKind.u64.wrap (rd x6 x8)) (wrap64 (8 * x8)))) x6 x7 (wrap64 (x8 + 1))) else (none)) else (none)) else (none)) else (some x3)
def frame_high.f (k : Nat) (l0 : List Int) : Option (Int) := frame_high.l0 k 0 l0 (l0.length : Int) 0
theorem frame_high.mono_l : ∀ k, (∀ y0 y1 y2 y3, LeO (frame_high.l0 k y0 y1 y2 y3) (frame_high.l0 (k + 1) y0 y1 y2 y3))
  | 0 => fun _ _ _ _ r h => by simp [frame_high.l0] at h
  | k + 1 => by
    have ih0 := frame_high.mono_l k
    · intro y0 y1 y2 y3
      unfold frame_high.l0
      repeat' first
      | (with_reducible exact ih0 _ _ _ _)
      | (with_reducible exact LeO.refl _)
      | (with_reducible exact LeO.none _)
      | (with_reducible refine LeO.ite ?_ ?_)
      | (with_reducible refine LeO.bind ?_ (fun _ => ?_))
      | exact ih0 _ _ _ _
      | exact LeO.none _
      | refine LeO.ite ?_ ?_
      | refine LeO.bind ?_ (fun _ => ?_)
theorem frame_high.mono : ∀ a0 k, LeO (frame_high.f k a0) (frame_high.f (k + 1) a0) := by
  intro a0 k
  have ih0 := frame_high.mono_l k
  unfold frame_high.f
  repeat' first
      | (with_reducible exact ih0 _ _ _ _)
      | (with_reducible exact LeO.refl _)
      | (with_reducible exact LeO.none _)
      | (with_reducible refine LeO.ite ?_ ?_)
      | (with_reducible refine LeO.bind ?_ (fun _ => ?_))
      | exact ih0 _ _ _ _
      | exact LeO.none _
      | refine LeO.ite ?_ ?_
      | refine LeO.bind ?_ (fun _ => ?_)
set_option maxHeartbeats 8000000 in
set_option maxRecDepth 100000 in
theorem frame_high.calls (k : Nat) (A0 : Option Addr) (c0 : Nat) (l0 : List Int) (r : Int) (w : World) (hr0 : Kd.C (Kd.int .u8) w A0 l0.length l0) (hc0 : l0.length ≤ c0) (h : frame_high.f k l0 = some r) :
    Calls Try.prog 57 #[.slice A0 l0.length c0] w fun e w' => e = .returned (.int .u64 r) ∧ Drawn0 w w' := by
  have HR0 := Aside0.mk hr0
  have HC0 := Aside0.mk hc0
  clear hr0 hc0
  have H : (frame_high.l0 k 0 l0 (l0.length : Int) 0) = some r := h
  clear h
  have H' := Aside0.mk H
  clear H
  go_enter Try.func57, Try.ntmps57
  go_wp2
  go_loopg [3, 8] k (fun kq v3 v8 w' => ∃ (x3_1 : Int) (x8_1 : Int), v3 = .int .u64 x3_1 ∧ v8 = .int .i64 x8_1 ∧ Aside0 (frame_high.l0 kq x3_1 l0 (l0.length : Int) x8_1 = some r) ∧ Aside0 (kq ≤ k) ∧ Drawn0 w w')
  case atStart => exact ⟨(0), (0), (by first | rfl | (simp; done) | (simp [*]; done)), (by first | rfl | (simp; done) | (simp [*]; done)), H', ⟨Nat.le_refl _⟩, by repeat (first | exact Drawn0.refl _ | apply Drawn0.step)⟩
  case round =>
    clear H'
    obtain ⟨x3_1, x8_1, rfl, rfl, HA, HK1, ⟨m1, rfl⟩⟩ := hrel
    cases gk with
    | zero => exact absurd HA.out (by simp [frame_high.l0])
    | succ k1 =>
      have H := HA.out
      clear HA
      simp only [frame_high.l0] at H
      by_cases c2 : x8_1 < (l0.length : Int)
      · rw [if_pos c2] at H
        have c2b0 : decide (x8_1 < (l0.length : Int)) = true := decide_eq_true c2
        clear c2
        by_cases c3 : 0 ≤ x8_1
        · rw [if_pos c3] at H
          have c3b0 : decide (0 ≤ x8_1) = true := decide_eq_true c3
          clear c3
          by_cases c4 : x8_1 < (l0.length : Int)
          · rw [if_pos c4] at H
            have c4b0 : decide (x8_1 < (l0.length : Int)) = true := decide_eq_true c4
            clear c4
            obtain ⟨ji5, hji5⟩ : ∃ j_ : Int, (wrap64 (8 * x8_1)) = j_ := ⟨_, rfl⟩
            replace H : (if 0 ≤ (ji5) then (frame_high.l0 k1 (Go.bits .or .u64 x3_1 (shl .u64 (IntKind.u64.wrap (rd l0 x8_1)) (ji5))) l0 (l0.length : Int) (wrap64 (x8_1 + 1))) else (none)) = some r := by first | (rw [hji5] at H; exact H) | (simp only [hji5] at H ⊢; exact H)
            have hji5w : (IntKind.i64.wrap (8 * x8_1)) = ji5 := (i64_w _).trans hji5
            by_cases c6 : 0 ≤ (ji5)
            · rw [if_pos c6] at H
              have c6b0 := eq_true c6
              have c6b1 : decide (0 ≤ (ji5)) = true := decide_eq_true c6
              clear c6
              obtain ⟨ji7, hji7⟩ : ∃ j_ : Int, (shl .u64 (IntKind.u64.wrap (rd l0 x8_1)) (ji5)) = j_ := ⟨_, rfl⟩
              replace H : (frame_high.l0 k1 (Go.bits .or .u64 x3_1 (ji7)) l0 (l0.length : Int) (wrap64 (x8_1 + 1))) = some r := by first | (rw [hji7] at H; exact H) | (simp only [hji7] at H ⊢; exact H)
              have hji7_ : (IntKind.u64.wrap ((IntKind.u64.wrap (rd l0 x8_1)) * 2 ^ min (ji5).toNat 64)) = ji7 := hji7
              have hji7z : (ji5) ≤ 64 → (IntKind.u64.wrap ((IntKind.u64.wrap (rd l0 x8_1)) * 2 ^ (ji5).toNat)) = ji7 := shl_small hji7
              have H' := Aside0.mk H
              clear H
              have p104 : 0 ≤ (x8_1 : Int) := of_decide_eq_true (by first | (with_reducible assumption) | assumption)
              have q104 : x8_1 < (l0.length : Int) := of_decide_eq_true (by first | (with_reducible assumption) | assumption)
              obtain ⟨ad104, e104, hx104_0⟩ := Kd.at_int HR0.out x8_1 p104 q104
              cases e104
              replace p104 := eq_true p104
              replace q104 := eq_true q104
              go_wp2
              go_roundg k1
              case measure => have := HK1.out; omega
              case rel => exact ⟨(Go.bits .or .u64 x3_1 (ji7)), (wrap64 (x8_1 + 1)), (by first | rfl | (simp; done) | (simp only [← hji7] <;> (first | rfl | simp)) | (simp [*]; done)), (by first | rfl | (simp; done) | (simp [*]; done)), H', ⟨by have := HK1.out; omega⟩, by repeat (first | exact Drawn0.refl _ | apply Drawn0.step)⟩
            · rw [if_neg c6] at H
              exact absurd H (by simp)
          · rw [if_neg c4] at H
            exact absurd H (by simp)
        · rw [if_neg c3] at H
          exact absurd H (by simp)
      · rw [if_neg c2] at H
        have c2b0 : decide (x8_1 < (l0.length : Int)) = false := decide_eq_false c2
        clear c2
        obtain rfl := Option.some.inj H
        go_wp2
        go_ret
        exact ⟨by first | rfl | (simp; done) | (simp [*]; done), by repeat (first | exact Drawn0.refl _ | apply Drawn0.step)⟩

end Go.Proofs.Ytiiljpaedelhlaa.PDiaryPlays
namespace Go.Proofs.Ytiiljpaedelhlaa.PDiaryPlays
open Go.RowKit Go.Proofs.YtiiljpaedelhlaaW.PrintWords Go.Proofs.YtiiljpaedelhlaaW.PrintLast Go.Proofs.YtiiljpaedelhlaaW.PrintMore
open Go.Proofs.Ytiiljpaedelhlaa.Flow
set_option linter.unusedVariables false
set_option linter.unusedSimpArgs false
def Bytes (l : List Int) : Prop := ∀ c ∈ l, 0 ≤ c ∧ c < 256
def valN : List Int → Nat
  | [] => 0
  | c :: r => c.toNat + 256 * valN r
theorem Bytes.tail {c : Int} {r : List Int} (h : Bytes (c :: r)) : Bytes r := fun x hx => h x (List.mem_cons_of_mem _ hx)
theorem Bytes.take {l : List Int} (h : Bytes l) (n : Nat) : Bytes (l.take n) := fun x hx => h x (List.mem_of_mem_take hx)
theorem Bytes.drop {l : List Int} (h : Bytes l) (n : Nat) : Bytes (l.drop n) := fun x hx => h x (List.mem_of_mem_drop hx)
theorem Bytes.append {l m : List Int} (h : Bytes l) (k : Bytes m) : Bytes (l ++ m) := fun x hx => (List.mem_append.1 hx).elim (h x) (k x)
theorem Bytes.set {l : List Int} (h : Bytes l) (i : Nat) {c : Int} (hc : 0 ≤ c ∧ c < 256) : Bytes (l.set i c) := fun x hx => by
  rcases List.mem_or_eq_of_mem_set hx with h1 | h1
  · exact h x h1
  · rw [h1]
    exact hc
theorem valN_lt : ∀ (l : List Int), Bytes l → valN l < 2 ^ (8 * l.length)
  | [], _ => by simp [valN]
  | c :: r, h => by
    have h1 := valN_lt r h.tail
    have h2 := h c (by simp)
    have e : 2 ^ (8 * (c :: r).length) = 256 * 2 ^ (8 * r.length) := by
      rw [List.length_cons, show 8 * (r.length + 1) = 8 * r.length + 8 by omega, Nat.pow_add, Nat.mul_comm]
    rw [e, valN]
    omega
theorem valN_inj : ∀ (l m : List Int), Bytes l → Bytes m → l.length = m.length → valN l = valN m → l = m
  | [], [], _, _, _, _ => rfl
  | c :: r, d :: s, h, k, hl, hv => by
    have h2 := h c (by simp)
    have k2 := k d (by simp)
    rw [valN, valN] at hv
    have e1 : c = d := by omega
    have e2 : valN r = valN s := by omega
    rw [e1, valN_inj r s h.tail k.tail (by simpa using hl) e2]
theorem shl_nat (C i : Nat) (hC : C < 256) (hi : i ≤ 7) : shl .u64 ((C : Int)) (8 * (i : Int)) = ((C * 2 ^ (8 * i) : Nat) : Int) := by
  have hp : C * 2 ^ (8 * i) < 2 ^ 64 := by
    have h1 : C * 2 ^ (8 * i) < 2 ^ 8 * 2 ^ (8 * i) := Nat.mul_lt_mul_of_pos_right hC (Nat.pow_pos (by omega))
    rw [← Nat.pow_add] at h1
    exact Nat.lt_of_lt_of_le h1 (Nat.pow_le_pow_right (by omega) (by omega))
  have e0 : min ((8 * (i : Int)).toNat) (IntKind.u64.bits) = 8 * i := by
    have : IntKind.u64.bits = 64 := rfl
    omega
  unfold shl
  rw [e0]
  have e1 : (C : Int) * 2 ^ (8 * i) = ((C * 2 ^ (8 * i) : Nat) : Int) := by push_cast; rfl
  rw [e1, u64_wrap]
  have hp2 : C * 2 ^ (8 * i) < 18446744073709551616 := hp
  generalize C * 2 ^ (8 * i) = z at hp2 ⊢
  omega
theorem or_step (x C i : Nat) (hx : x < 2 ^ (8 * i)) (hC : C < 256) (hi : i ≤ 7) : Go.bits .or .u64 (x : Int) (shl .u64 (C : Int) (8 * (i : Int))) = ((x + 2 ^ (8 * i) * C : Nat) : Int) := by
  rw [shl_nat C i hC hi]
  have hx2 : x < 2 ^ 64 := Nat.lt_of_lt_of_le hx (Nat.pow_le_pow_right (by omega) (by omega))
  have hp : C * 2 ^ (8 * i) < 2 ^ 64 := by
    have h1 : C * 2 ^ (8 * i) < 2 ^ 8 * 2 ^ (8 * i) := Nat.mul_lt_mul_of_pos_right hC (Nat.pow_pos (by omega))
    rw [← Nat.pow_add] at h1
    exact Nat.lt_of_lt_of_le h1 (Nat.pow_le_pow_right (by omega) (by omega))
  rw [bits_or_u64_nat x (C * 2 ^ (8 * i)) hx2 hp]
  congr 1
  rw [Nat.or_comm, Nat.mul_comm C, ← Nat.two_pow_add_eq_or_of_lt hx, Nat.add_comm]
theorem rd_at (l : List Int) (i : Nat) (h : i < l.length) : rd l (i : Int) = l[i] := by
  unfold rd
  rw [List.getD_eq_getElem?_getD, show ((i : Int)).toNat = i by omega, List.getElem?_eq_getElem h]
  rfl
theorem high_l0 (l : List Int) (hb : Bytes l) (hl : l.length ≤ 8) : ∀ (m K i x : Nat), m + 1 ≤ K → i + m = l.length → x < 2 ^ (8 * i) → frame_high.l0 K (x : Int) l (l.length : Int) (i : Int) = some ((x + 2 ^ (8 * i) * valN (l.drop i) : Nat) : Int)
  | 0, K, i, x, hK, hi, hx => by
    obtain ⟨k, rfl⟩ : ∃ k, K = k + 1 := ⟨K - 1, by omega⟩
    rw [frame_high.l0, if_neg (by omega), List.drop_of_length_le (by omega)]
    simp [valN]
  | m + 1, K, i, x, hK, hi, hx => by
    obtain ⟨k, rfl⟩ : ∃ k, K = k + 1 := ⟨K - 1, by omega⟩
    have hlt : i < l.length := by omega
    have e1 : wrap64 (8 * (i : Int)) = 8 * (i : Int) := wrap_id (by omega) (by omega)
    have e2 : wrap64 ((i : Int) + 1) = ((i + 1 : Nat) : Int) := wrap_id (by omega) (by omega)
    have hc := hb l[i] (List.getElem_mem hlt)
    have e3 : IntKind.u64.wrap (rd l (i : Int)) = ((l[i].toNat : Nat) : Int) := by
      rw [rd_at l i hlt, u64_wrap]
      omega
    rw [frame_high.l0, if_pos (by omega), if_pos (by omega), if_pos (by omega), e1, if_pos (by omega), e2, e3, or_step x l[i].toNat i hx (by omega) (by omega)]
    have hp : 2 ^ (8 * (i + 1)) = 2 ^ (8 * i) * 256 := by rw [show 8 * (i + 1) = 8 * i + 8 by omega, Nat.pow_add]
    have hx2 : x + 2 ^ (8 * i) * l[i].toNat < 2 ^ (8 * (i + 1)) := by
      have h1 : 2 ^ (8 * i) * l[i].toNat ≤ 2 ^ (8 * i) * 255 := Nat.mul_le_mul_left _ (by omega)
      omega
    rw [high_l0 l hb hl m k (i + 1) _ (by omega) (by omega) hx2, List.drop_eq_getElem_cons hlt, valN, hp, Nat.mul_add, Nat.mul_assoc]
    congr 2
    omega
theorem high_f (l : List Int) (hb : Bytes l) (hl : l.length ≤ 8) (K : Nat) (hK : 9 ≤ K) : frame_high.f K l = some ((valN l : Nat) : Int) := by
  unfold frame_high.f
  have h := high_l0 l hb hl l.length K 0 0 (by omega) (by omega) (by simp)
  simpa using h
theorem shr_nat (U i : Nat) (hi : i ≤ 8) : shr .u64 (U : Int) (8 * (i : Int)) = ((U / 2 ^ (8 * i) : Nat) : Int) := by
  have e0 : min ((8 * (i : Int)).toNat) (IntKind.u64.bits) = 8 * i := by
    have : IntKind.u64.bits = 64 := rfl
    omega
  unfold shr
  rw [e0]
  push_cast
  rfl
theorem lowl_bytes (u : Int) : ∀ n i, Bytes (lowl u n i)
  | 0, i => fun c hc => by simp [lowl] at hc
  | n + 1, i => fun c hc => by
    rw [lowl] at hc
    rcases List.mem_cons.1 hc with rfl | hc
    · exact ⟨Int.emod_nonneg _ (by decide), Int.emod_lt_of_pos _ (by decide)⟩
    · exact lowl_bytes u n (i + 1) c hc
theorem valN_lowl (U : Nat) : ∀ n i, i + n ≤ 8 → valN (lowl (U : Int) n i) = (U / 2 ^ (8 * i)) % 2 ^ (8 * n)
  | 0, i, h => by simp [lowl, valN, Nat.mod_one]
  | n + 1, i, h => by
    rw [lowl, valN, valN_lowl U n (i + 1) (by omega), shr_nat U i (by omega)]
    have e1 : U / 2 ^ (8 * (i + 1)) = U / 2 ^ (8 * i) / 256 := by rw [Nat.div_div_eq_div_mul, show 8 * (i + 1) = 8 * i + 8 by omega, Nat.pow_add]
    have e2 : 2 ^ (8 * (n + 1)) = 256 * 2 ^ (8 * n) := by rw [show 8 * (n + 1) = 8 * n + 8 by omega, Nat.pow_add, Nat.mul_comm]
    rw [e1, e2, Nat.mod_mul]
    congr 1
theorem valN_low4 (U : Nat) (h : U < 4294967296) : valN (lowl (U : Int) 4 0) = U := by
  rw [valN_lowl U 4 0 (by omega)]
  simp
  omega
/-- How many bytes the frame has that bytes begin with. -/
def wholeP (b : List Int) : Nat :=
  if b.length < 8 then 0 else if 16376 < valN (b.take 4) then 0 else if b.length < 8 + valN (b.take 4) then 0
  else if fnv 2166136261 ((b.drop 8).take (valN (b.take 4))) = ((valN ((b.take 8).drop 4) : Nat) : Int) then 8 + valN (b.take 4) else 0
theorem xor_u32_nat (a b : Nat) (ha : a < 4294967296) (hb : b < 4294967296) : Go.bits .xor .u32 (a : Int) (b : Int) = ((a ^^^ b : Nat) : Int) := by
  show IntKind.u32.wrap ((BitVec.ofInt 32 (a : Int) ^^^ BitVec.ofInt 32 (b : Int)).toNat : Int) = _
  have h1 : (BitVec.ofInt 32 (a : Int) ^^^ BitVec.ofInt 32 (b : Int)).toNat = a ^^^ b := by
    rw [BitVec.toNat_xor, BitVec.toNat_ofInt, BitVec.toNat_ofInt]
    congr 1 <;> omega
  rw [h1]
  have h2 : a ^^^ b < 2 ^ 32 := Nat.xor_lt_two_pow (by omega) (by omega)
  simp [IntKind.wrap, IntKind.bits, IntKind.signed]
  omega
theorem xor_u8_nat (a b : Nat) (ha : a < 256) (hb : b < 256) : Go.bits .xor .u8 (a : Int) (b : Int) = ((a ^^^ b : Nat) : Int) := by
  show IntKind.u8.wrap ((BitVec.ofInt 8 (a : Int) ^^^ BitVec.ofInt 8 (b : Int)).toNat : Int) = _
  have h1 : (BitVec.ofInt 8 (a : Int) ^^^ BitVec.ofInt 8 (b : Int)).toNat = a ^^^ b := by
    rw [BitVec.toNat_xor, BitVec.toNat_ofInt, BitVec.toNat_ofInt]
    congr 1 <;> omega
  rw [h1]
  have h2 : a ^^^ b < 2 ^ 8 := Nat.xor_lt_two_pow (by omega) (by omega)
  simp [IntKind.wrap, IntKind.bits, IntKind.signed]
  omega
theorem xor_cancel_r {a b c : Nat} (h : a ^^^ c = b ^^^ c) : a = b := by
  have h1 : (a ^^^ c) ^^^ c = (b ^^^ c) ^^^ c := by rw [h]
  rwa [Nat.xor_assoc, Nat.xor_assoc, Nat.xor_self, Nat.xor_zero, Nat.xor_zero] at h1
theorem xor_cancel_l {a c d : Nat} (h : a ^^^ c = a ^^^ d) : c = d := by
  rw [Nat.xor_comm a c, Nat.xor_comm a d] at h
  exact xor_cancel_r h
theorem mod_diff {A B : Int} (h : A % 4294967296 = B % 4294967296) : ∃ q : Int, A - B = 4294967296 * q := by
  refine ⟨A / 4294967296 - B / 4294967296, ?_⟩
  omega
theorem unit_inv {d q : Int} (h2 : 16777619 * d = 4294967296 * q) : d = 4294967296 * (899433627 * q - 3513497 * d) := by
  have h3 : 899433627 * (16777619 * d) = 899433627 * (4294967296 * q) := by rw [h2]
  rw [← Int.mul_assoc, ← Int.mul_assoc] at h3
  rw [Int.mul_sub, ← Int.mul_assoc, ← Int.mul_assoc, Int.mul_comm 4294967296 899433627, ← h3, ← Int.sub_mul]
  simp
theorem small_zero {d t : Int} (h : d = 4294967296 * t) (h1 : -4294967296 < d) (h2 : d < 4294967296) : d = 0 := by
  omega
theorem prime_inj {x y : Nat} (hx : x < 4294967296) (hy : y < 4294967296) (h : ((x : Int) * 16777619) % 4294967296 = ((y : Int) * 16777619) % 4294967296) : x = y := by
  have h5 : -4294967296 < (x : Int) - y := by clear h; omega
  have h6 : (x : Int) - y < 4294967296 := by clear h; omega
  obtain ⟨q, hq⟩ := mod_diff h
  clear h
  have h2 : 16777619 * ((x : Int) - y) = 4294967296 * q := by rw [← hq, Int.mul_sub, Int.mul_comm, Int.mul_comm 16777619]
  have h3 := small_zero (unit_inv h2) h5 h6
  clear h2 hq
  omega
def stepS (s c : Int) : Int := ((Go.bits .xor .u32 s (c % 4294967296)) * 16777619) % 4294967296
theorem stepS_eq (s c : Nat) (hs : s < 4294967296) (hc : c < 256) : stepS (s : Int) (c : Int) = (((s ^^^ c : Nat) : Int) * 16777619) % 4294967296 := by
  unfold stepS
  rw [show ((c : Int) % 4294967296) = (c : Int) by omega, xor_u32_nat s c hs (by omega)]
theorem stepS_inj_s {s t c : Int} (hs : 0 ≤ s ∧ s < 4294967296) (ht : 0 ≤ t ∧ t < 4294967296) (hc : 0 ≤ c ∧ c < 256) (h : stepS s c = stepS t c) : s = t := by
  obtain ⟨s, rfl⟩ := Int.eq_ofNat_of_zero_le hs.1
  obtain ⟨t, rfl⟩ := Int.eq_ofNat_of_zero_le ht.1
  obtain ⟨c, rfl⟩ := Int.eq_ofNat_of_zero_le hc.1
  rw [stepS_eq s c (by omega) (by omega), stepS_eq t c (by omega) (by omega)] at h
  have h1 : s ^^^ c < 2 ^ 32 := Nat.xor_lt_two_pow (by omega) (by omega)
  have h2 : t ^^^ c < 2 ^ 32 := Nat.xor_lt_two_pow (by omega) (by omega)
  rw [xor_cancel_r (prime_inj h1 h2 h)]
theorem stepS_inj_c {s c d : Int} (hs : 0 ≤ s ∧ s < 4294967296) (hc : 0 ≤ c ∧ c < 256) (hd : 0 ≤ d ∧ d < 256) (h : stepS s c = stepS s d) : c = d := by
  obtain ⟨s, rfl⟩ := Int.eq_ofNat_of_zero_le hs.1
  obtain ⟨c, rfl⟩ := Int.eq_ofNat_of_zero_le hc.1
  obtain ⟨d, rfl⟩ := Int.eq_ofNat_of_zero_le hd.1
  rw [stepS_eq s c (by omega) (by omega), stepS_eq s d (by omega) (by omega)] at h
  have h1 : s ^^^ c < 2 ^ 32 := Nat.xor_lt_two_pow (by omega) (by omega)
  have h2 : s ^^^ d < 2 ^ 32 := Nat.xor_lt_two_pow (by omega) (by omega)
  rw [xor_cancel_l (prime_inj h1 h2 h)]
theorem stepS_range (s c : Int) : 0 ≤ stepS s c ∧ stepS s c < 4294967296 := ⟨Int.emod_nonneg _ (by decide), Int.emod_lt_of_pos _ (by decide)⟩
theorem fnv_inj : ∀ (l : List Int) (s t : Int), Bytes l → 0 ≤ s ∧ s < 4294967296 → 0 ≤ t ∧ t < 4294967296 → fnv s l = fnv t l → s = t
  | [], s, t, _, _, _, h => h
  | c :: r, s, t, hb, hs, ht, h => stepS_inj_s hs ht (hb c (by simp)) (fnv_inj r (stepS s c) (stepS t c) hb.tail (stepS_range _ _) (stepS_range _ _) h)
theorem fnv_set : ∀ (l : List Int) (s : Int) (i : Nat) (c : Int) (hi : i < l.length), Bytes l → 0 ≤ c ∧ c < 256 → 0 ≤ s ∧ s < 4294967296 → fnv s (l.set i c) = fnv s l → c = l[i]
  | d :: r, s, 0, c, hi, hb, hc, hs, h => stepS_inj_c hs hc (hb d (by simp)) (fnv_inj r (stepS s c) (stepS s d) hb.tail (stepS_range _ _) (stepS_range _ _) h)
  | d :: r, s, i + 1, c, hi, hb, hc, hs, h => by
    have := fnv_set r (stepS s d) i c (by simpa using hi) hb.tail hc (stepS_range _ _) h
    simpa using this
theorem frameB_parts (l : List Int) (hl : l.length ≤ 16376) : ∃ a b, frameB l = a ++ b ++ l ∧ a = lowl (l.length : Int) 4 0 ∧ b = lowl (fnv 2166136261 l) 4 0 ∧ a.length = 4 ∧ b.length = 4 := by
  refine ⟨_, _, ?_, rfl, rfl, lowl_len _ _ _, lowl_len _ _ _⟩
  unfold frameB
  rw [if_neg (by omega)]
theorem frameB_len (l : List Int) (hl : l.length ≤ 16376) : (frameB l).length = 8 + l.length := by
  obtain ⟨a, b, h, _, _, h1, h2⟩ := frameB_parts l hl
  rw [h]
  simp only [List.length_append]
  omega
theorem frameB_bytes (l : List Int) (hb : Bytes l) : Bytes (frameB l) := by
  unfold frameB
  split
  · exact fun c hc => by simp at hc
  · exact ((lowl_bytes _ _ _).append (lowl_bytes _ _ _)).append hb
theorem take4 (l : List Int) (hl : l.length ≤ 16376) (r : List Int) : valN ((frameB l ++ r).take 4) = l.length := by
  obtain ⟨a, b, h, ha, hb, h1, h2⟩ := frameB_parts l hl
  have e : (frameB l ++ r).take 4 = a := by
    rw [h, List.append_assoc, List.append_assoc, ← h1]
    exact List.take_left
  rw [e, ha]
  exact valN_low4 _ (by omega)
/-- No beginning of a frame is one. -/
theorem whole_cut (l : List Int) (hl : l.length ≤ 16376) (k : Nat) (hk : k < (frameB l).length) : wholeP ((frameB l).take k) = 0 := by
  have hf := frameB_len l hl
  have hlen : ((frameB l).take k).length = k := by rw [List.length_take]; omega
  unfold wholeP
  rw [hlen]
  split
  · rfl
  · have e : ((frameB l).take k).take 4 = (frameB l ++ []).take 4 := by rw [List.append_nil, List.take_take, Nat.min_eq_left (by omega)]
    rw [e, take4 l hl, if_neg (by omega), if_pos (by omega)]
/-- A frame with another byte behind its length isn't one. -/
theorem whole_turned (l : List Int) (hb : Bytes l) (hl : l.length ≤ 16376) (k : Nat) (h4 : 4 ≤ k) (hk : k < (frameB l).length) (c : Int) (hc : 0 ≤ c ∧ c < 256) (hne : c ≠ (frameB l)[k]) : wholeP ((frameB l).set k c) = 0 := by
  have hf := frameB_len l hl
  obtain ⟨a, b, h, ha, hb2, h1, h2⟩ := frameB_parts l hl
  have hS := fnv_range l 2166136261 (by omega)
  obtain ⟨S, hSn⟩ := Int.eq_ofNat_of_zero_le hS.1
  have hvb : valN b = S := by rw [hb2, hSn]; exact valN_low4 S (by omega)
  have ht4 : ((frameB l).set k c).take 4 = a := by
    rw [List.take_set_of_le (by omega), h, List.append_assoc, ← h1]
    exact List.take_left
  have hva : valN a = l.length := by rw [ha]; exact valN_low4 _ (by omega)
  unfold wholeP
  rw [ht4, hva, List.length_set, if_neg (by omega), if_neg (by omega), if_neg (by omega), if_neg]
  by_cases hk8 : k < 8
  · have e1 : (((frameB l).set k c).drop 8).take l.length = l := by
      rw [List.drop_set_of_lt (by omega), h, show (8 : Nat) = (a ++ b).length by simp; omega, List.drop_left, List.take_length]
    have e2 : (((frameB l).set k c).take 8).drop 4 = b.set (k - 4) c := by
      rw [h, List.set_append_left _ _ (by simp; omega), List.set_append_right _ _ (by omega), h1, List.take_append_of_le_length (by simp; omega), List.take_of_length_le (by simp; omega), ← h1, List.drop_left]
    rw [e1, e2, hSn]
    intro he
    have he' : valN b = valN (b.set (k - 4) c) := by omega
    have hbb : Bytes b := by rw [hb2]; exact lowl_bytes _ _ _
    have he2 := valN_inj b (b.set (k - 4) c) hbb (hbb.set _ hc) (by simp) he'
    have h3 : k - 4 < b.length := by omega
    have h5 : (b.set (k - 4) c)[k - 4]'(by simpa using h3) = c := by simp
    have h6 : b[k - 4] = c := by
      have := congrArg (fun z => z[k - 4]?) he2
      simp only [List.getElem?_eq_getElem h3, List.getElem?_set_self h3] at this
      exact Option.some.inj this
    refine hne ?_
    have : (frameB l)[k]? = some c := by
      rw [h, List.getElem?_append_left (by simp; omega), List.getElem?_append_right (by omega), h1, List.getElem?_eq_getElem h3, h6]
    rw [List.getElem?_eq_getElem hk] at this
    exact (Option.some.inj this).symm
  · have e1 : (((frameB l).set k c).drop 8).take l.length = l.set (k - 8) c := by
      rw [h, List.set_append_right _ _ (by simp; omega), show (8 : Nat) = (a ++ b).length by simp; omega, List.drop_left, List.take_of_length_le (by simp)]
    have e2 : (((frameB l).set k c).take 8).drop 4 = b := by
      rw [List.take_set_of_le (by omega), h, List.take_append_of_le_length (by simp; omega), List.take_of_length_le (by simp; omega), ← h1, List.drop_left]
    rw [e1, e2, hvb, ← hSn]
    intro he
    have hkl : k - 8 < l.length := by omega
    have h6 := fnv_set l 2166136261 (k - 8) c hkl hb hc (by omega) he
    refine hne ?_
    have : (frameB l)[k]? = some c := by
      rw [h, List.getElem?_append_right (by simp; omega), show k - (a ++ b).length = k - 8 by simp; omega, List.getElem?_eq_getElem hkl, h6]
    rw [List.getElem?_eq_getElem hk] at this
    exact (Option.some.inj this).symm
theorem xor_other (a y : Int) (ha : 0 ≤ a ∧ a < 256) (hy : 0 < y ∧ y < 256) : (0 ≤ Go.bits .xor .u8 a y ∧ Go.bits .xor .u8 a y < 256) ∧ Go.bits .xor .u8 a y ≠ a := by
  obtain ⟨a, rfl⟩ := Int.eq_ofNat_of_zero_le ha.1
  obtain ⟨y, rfl⟩ := Int.eq_ofNat_of_zero_le (show 0 ≤ y by omega)
  rw [xor_u8_nat a y (by omega) (by omega)]
  have h2 : a ^^^ y < 2 ^ 8 := Nat.xor_lt_two_pow (by omega) (by omega)
  refine ⟨by omega, fun h => ?_⟩
  have h3 : a ^^^ y = a ^^^ 0 := by rw [Nat.xor_zero]; omega
  have := xor_cancel_l h3
  omega
end Go.Proofs.Ytiiljpaedelhlaa.PDiaryPlays
namespace Go.Proofs.Ytiiljpaedelhlaa.PDiaryPlays
open Go.RowKit Go.Proofs.YtiiljpaedelhlaaW.PrintWords Go.Proofs.YtiiljpaedelhlaaW.PrintLast Go.Proofs.YtiiljpaedelhlaaW.PrintMore
open Go.Proofs.Ytiiljpaedelhlaa.Flow
set_option linter.unusedVariables false
set_option linter.unusedSimpArgs false
/-- The frames that bytes begin with, and how many bytes these are. -/
inductive SplitR : List Int → List (List Int) → Nat → Prop
  | none (b : List Int) : wholeP b = 0 → SplitR b [] 0
  | some (b : List Int) (l : List (List Int)) (n : Nat) : wholeP b ≠ 0 → SplitR (b.drop (wholeP b)) l n → SplitR b ((b.take (wholeP b)).drop 8 :: l) (wholeP b + n)
theorem wholeP_le (b : List Int) : wholeP b = 0 ∨ (8 ≤ wholeP b ∧ wholeP b ≤ b.length) := by
  unfold wholeP
  split
  · exact Or.inl rfl
  · split
    · exact Or.inl rfl
    · split
      · exact Or.inl rfl
      · split
        · right
          omega
        · exact Or.inl rfl
def FC (ps : List (List Int)) : List Int := (ps.map frameB).flatten
def ends (ps : List (List Int)) (j : Nat) : Nat := (FC (ps.take j)).length
theorem FC_cons (p : List Int) (ps : List (List Int)) : FC (p :: ps) = frameB p ++ FC ps := rfl
theorem ends_zero (ps : List (List Int)) : ends ps 0 = 0 := by simp [ends, FC]
theorem ends_cons (p : List Int) (ps : List (List Int)) (j : Nat) : ends (p :: ps) (j + 1) = (frameB p).length + ends ps j := by
  unfold ends
  rw [List.take_succ_cons, FC_cons, List.length_append]
theorem whole_frame (p r : List Int) (hl : p.length ≤ 16376) : wholeP (frameB p ++ r) = 8 + p.length := by
  have hf := frameB_len p hl
  obtain ⟨a, b, h, ha, hb, h1, h2⟩ := frameB_parts p hl
  have hS := fnv_range p 2166136261 (by omega)
  obtain ⟨S, hSn⟩ := Int.eq_ofNat_of_zero_le hS.1
  have hvb : valN b = S := by rw [hb, hSn]; exact valN_low4 S (by omega)
  have e1 : ((frameB p ++ r).drop 8).take p.length = p := by
    rw [h, List.append_assoc, show (8 : Nat) = (a ++ b).length by simp; omega, List.drop_left, List.take_left]
  have e2 : ((frameB p ++ r).take 8).drop 4 = b := by
    rw [h, List.append_assoc, show (8 : Nat) = (a ++ b).length by simp; omega, List.take_left, ← h1, List.drop_left]
  unfold wholeP
  rw [take4 p hl r, List.length_append, if_neg (by omega), if_neg (by omega), if_neg (by omega), e1, e2, hvb, if_pos (by rw [hSn])]
theorem split_frames : ∀ (ps : List (List Int)), (∀ p ∈ ps, p.length ≤ 16376) → ∀ (k : Nat) (l : List (List Int)) (n : Nat), SplitR ((FC ps).take k) l n →
    ∃ wh, wh ≤ ps.length ∧ l = ps.take wh ∧ n = ends ps wh ∧ ends ps wh ≤ k ∧ (wh < ps.length → k < ends ps (wh + 1))
  | [], _, k, l, n, h => by
    have e : (FC []).take k = [] := by simp [FC]
    rw [e] at h
    cases h with
    | none _ h0 => exact ⟨0, by simp, rfl, (ends_zero _).symm, by rw [ends_zero]; omega, fun h => by simp at h⟩
    | some _ l n h0 _ => exact absurd (by simp [wholeP]) h0
  | p :: ps, hps, k, l, n, h => by
    have hp := hps p (by simp)
    have hf := frameB_len p hp
    rw [FC_cons] at h
    by_cases hk : k < (frameB p).length
    · have e : (frameB p ++ FC ps).take k = (frameB p).take k := by rw [List.take_append_of_le_length (by omega)]
      have e0 := whole_cut p hp k hk
      rw [e] at h
      cases h with
      | none _ h0 => exact ⟨0, by simp, rfl, (ends_zero _).symm, by rw [ends_zero]; omega, fun _ => by rw [ends_cons, ends_zero]; omega⟩
      | some _ l n h0 _ => exact absurd e0 h0
    · have e : (frameB p ++ FC ps).take k = frameB p ++ (FC ps).take (k - (frameB p).length) := by
        rw [List.take_append, List.take_of_length_le (by omega)]
      have e0 := whole_frame p ((FC ps).take (k - (frameB p).length)) hp
      rw [e] at h
      cases h with
      | none _ h0 => rw [e0] at h0; omega
      | some _ l' n' h0 hs =>
        have ed : (frameB p ++ (FC ps).take (k - (frameB p).length)).drop (8 + p.length) = (FC ps).take (k - (frameB p).length) := by rw [← hf, List.drop_left]
        have et : ((frameB p ++ (FC ps).take (k - (frameB p).length)).take (8 + p.length)).drop 8 = p := by
          rw [← hf, List.take_left]
          obtain ⟨a, b, h, ha, hb, h1, h2⟩ := frameB_parts p hp
          rw [h, show (8 : Nat) = (a ++ b).length by simp; omega, List.drop_left]
        rw [e0, ed] at hs
        obtain ⟨wh, q1, q2, q3, q4, q5⟩ := split_frames ps (fun x hx => hps x (List.mem_cons_of_mem _ hx)) _ _ _ hs
        refine ⟨wh + 1, by simp; omega, ?_, ?_, ?_, fun hlt => ?_⟩
        · rw [e0, et, q2, List.take_succ_cons]
        · rw [e0, ends_cons, q3]; omega
        · rw [ends_cons]; omega
        · have := q5 (by simpa using hlt)
          rw [ends_cons]
          omega
theorem ends_step : ∀ (ps : List (List Int)) (j : Nat), j < ps.length → ends ps (j + 1) = ends ps j + (frameB (rd_L1 ps (j : Int))).length
  | p :: ps, 0, _ => by
    rw [ends_cons, ends_zero, ends_zero, rd_L1_at _ 0 (by simp)]
    simp
  | p :: ps, j + 1, h => by
    have hj : j < ps.length := by simpa using h
    rw [ends_cons, ends_cons, ends_step ps j hj, rd_L1_at _ (j + 1) h, rd_L1_at ps j hj]
    simp only [List.getElem_cons_succ]
    omega
theorem ends_mono (ps : List (List Int)) : ∀ (j i : Nat), i ≤ j → j ≤ ps.length → ends ps i ≤ ends ps j
  | 0, i, h, _ => by rw [show i = 0 by omega]; exact Nat.le_refl _
  | j + 1, i, h, hj => by
    by_cases h1 : i = j + 1
    · rw [h1]; exact Nat.le_refl _
    · have h2 := ends_mono ps j i (by omega) (by omega)
      have h3 := ends_step ps j (by omega)
      omega
/-- The number of whole frames is told by their ends. -/
theorem ends_uniq (ps : List (List Int)) (k a b : Nat) (ha : a ≤ ps.length) (hb : b ≤ ps.length) (a1 : ends ps a ≤ k) (a2 : a < ps.length → k < ends ps (a + 1)) (b1 : ends ps b ≤ k) (b2 : b < ps.length → k < ends ps (b + 1)) : a = b := by
  rcases Nat.lt_trichotomy a b with h | h | h
  · have := ends_mono ps b (a + 1) h hb
    have := a2 (by omega)
    omega
  · exact h
  · have := ends_mono ps a (b + 1) h ha
    have := b2 (by omega)
    omega
theorem FC_take (ps : List (List Int)) (j : Nat) (h : j < ps.length) : FC (ps.take (j + 1)) = FC (ps.take j) ++ frameB (rd_L1 ps (j : Int)) := by
  unfold FC
  rw [List.take_succ_eq_append_getElem h, List.map_append, List.flatten_append, rd_L1_at ps j h]
  simp
end Go.Proofs.Ytiiljpaedelhlaa.PDiaryPlays
