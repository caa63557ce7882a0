/- Numbers as bytes, the fixed fact: the walks. -/
import Derived.Test.YtjndoihnpnmbjaaFrWrap
import Derived.Test.YtjndoihnpnmbjaaFlowG
namespace Go.Proofs.Ytjndoihnpnmbjaa.PFrameSums
open Go.RowKit Go.Proofs.YtjndoihnpnmbjaaW.PrintWords Go.Proofs.YtjndoihnpnmbjaaW.PrintLast Go.Proofs.YtjndoihnpnmbjaaW.PrintMore
open Go.Proofs.Ytjndoihnpnmbjaa.Flow
set_option linter.unusedVariables false
set_option linter.unusedSimpArgs false


theorem wrap_nil (w : World) : Calls Try.prog 19 #[.slice none 0 0] w fun e w' => ∃ A' n' c', e = .returned (.tuple #[.slice A' n' c', .nilIface]) ∧ Own .u8 5 w' w.heap.size w.heap.size A' n' c' [0, 0, 0, 0, 197, 157, 28, 129] ∧ Below w.heap.size w w' := by
  have h := wrap_calls w none 0 [] ⟨rfl, by simp, fun h => absurd h (by simp)⟩ (by simp) (by simp) (by simp)
  have e1 : frameB ([] : List (List Int)).flatten = [0, 0, 0, 0, 197, 157, 28, 129] := by decide +kernel
  have e2 : errW (frameE ([] : List (List Int)).flatten) = .nilIface := rfl
  rw [e1, e2] at h
  exact h
def numR (o : Option Int) : Int := if o.isNone then 0 else if o.getD 0 = 0 then -1 else o.getD 0
theorem num_calls (o : Option Int) (w : World) : Calls Try.prog 21 #[errW o] w fun e w' => e = .returned (.int .i64 (numR o)) ∧ Drawn0 w w' := by
  refine estuarynum_Num.calls o _ w ?_
  unfold estuarynum_Num.f numR
  split
  · rfl
  · split <;> rfl
set_option maxHeartbeats 4000000 in
theorem put_calls (w : World) (K : Nat) (A : Option Addr) (n c : Nat) (xs : List Int) (hC : (Kd.int .u8).C w A n xs) (hl : n ≤ 140737488355328) (DA : Option Addr) (dc : Nat) (ys r : List Int) (hC1 : (Kd.int .i64).C w DA ys.length ys) (hc1 : ys.length ≤ dc) (hf : frame_put.f K xs ys = some r) :
    Calls Try.prog 14 #[.slice A n c, .slice DA ys.length dc] w fun e w' => ∃ A' n' c', e = .returned (.slice A' n' c') ∧ Own .u8 5 w' w.heap.size w.heap.size A' n' c' r ∧ Below w.heap.size w w' := by
  refine calls_flow Try.func14 rfl 9 rfl (Nat.le_of_ble_eq_true rfl) [(0, .slice A n c), (1, .slice DA ys.length dc)] ?_ ?_
  · intro t v h; exact args_look rfl t v h
  refine w_seq ?_
  refine w_region ?_
  refine rw_val (v := .slice none 0 0) (w' := w) rfl rfl rfl rfl rfl ?_
  refine rw_end ?_
  refine w_seq ?_
  refine w_region ?_
  refine rw_val (v := .slice A n c) (w' := w) rfl rfl rfl rfl rfl ?_
  refine rw_call rfl rfl rfl rfl (f := 33) (args := #[.slice A n c]) (by simp [go_sem, sEv, sLook, nbeq, i64_w]) (clone_calls w A n c xs (Kd.C_below hC (Below.refl _ _)) (by omega)) ?_
  rintro e_ w4 ⟨A1, n2, c3, rfl, hO5, hB6⟩
  refine ⟨_, rfl, ?_⟩
  have hs_w4 := hB6.size
  have hL7 : Own .u8 5 w4 w.heap.size w.heap.size A1 n2 c3 xs := Own.lower hO5 (by omega)
  refine rw_val (v := .slice DA ys.length dc) (w' := w4) rfl rfl rfl rfl rfl ?_
  refine rw_call rfl rfl rfl rfl (f := 32) (args := #[.slice A1 n2 c3, .slice DA ys.length dc]) (by simp [go_sem, sEv, sLook, nbeq, i64_w]) (frame_put.calls K (fun q => w.heap.size ≤ q) _ xs DA dc ys r w w4 hB6 (Own.mono (hL7.on (Below.refl _ _)) (by omega)) (Kd.C_kept_came (Kd.heap_int _) hC1 hB6 (fun k hk => hk)) hc1 hf) ?_
  rintro e_ w10 ⟨_, rfl, hR11, hB12, hK13⟩
  refine ⟨_, rfl, ?_⟩
  have hs_w10 := hB12.size
  have hgs_w10 := hK13.1
  obtain ⟨A8, c9, rfl, hle15, hR16⟩ := R_shape hR11
  have hO14 : Own .u8 5 w10 w.heap.size w.heap.size A8 r.length c9 r := Kd.R_mono hR16 (fun q hq => hq.elim id (fun h => by omega))
  refine rw_val (v := .slice A8 r.length c9) (w' := w10) rfl rfl rfl rfl rfl ?_
  refine rw_end ?_
  refine w_weaken (G' := [(4, .slice A8 r.length c9)]) ⟨rfl, trivial⟩ ?_
  refine w_ret (post_ret1 rfl rfl ?_)
  exact ⟨_, _, _, rfl, (hO14.on (Below.refl _ _)), hB12⟩

theorem run_ifnil (w : World) : (binOp .eql 35 .nilIface .nilIface).run Try.prog w = .ok (.bool true) w := by kernel_rfl
set_option maxHeartbeats 4000000 in
theorem alive_calls  (w : World) :
    Calls Try.prog 11 #[] w fun e w' => e = .returned (.bool true) ∧ Below w.heap.size w w' := by
  refine calls_flow Try.func11 rfl 20 rfl (Nat.le_of_ble_eq_true rfl) [] ?_ ?_
  · intro t v h; exact args_look rfl t v h
  refine w_seq ?_
  refine w_region ?_
  refine rw_val (v := .bool false) (w' := w) rfl rfl rfl rfl rfl ?_
  refine rw_end ?_
  refine w_seq ?_
  refine w_region ?_
  refine rw_call rfl rfl rfl rfl (f := 19) (args := #[.slice none 0 0]) (by simp [go_sem, sEv, sLook, nbeq, i64_w]) (wrap_nil w) ?_
  rintro e_ w4 ⟨A1, n2, c3, rfl, hO5, hB6⟩
  refine ⟨_, rfl, ?_⟩
  have hs_w4 := hB6.size
  have hL7 : Own .u8 5 w4 w.heap.size w.heap.size A1 n2 c3 [0, 0, 0, 0, 197, 157, 28, 129] := Own.lower hO5 (by omega)
  refine rw_val (v := .tuple #[.slice A1 n2 c3, .nilIface]) (w' := w4) rfl rfl rfl rfl rfl ?_
  refine rw_val (v := .slice A1 n2 c3) (w' := w4) rfl rfl rfl rfl (by simp [go_sem, sEv, sLook, nbeq, i64_w]) ?_
  refine rw_val (v := .nilIface) (w' := w4) rfl rfl rfl rfl (by simp [go_sem, sEv, sLook, nbeq, i64_w]) ?_
  refine rw_val (v := .slice A1 n2 c3) (w' := w4) rfl rfl rfl rfl rfl ?_
  refine rw_val (v := .nilIface) (w' := w4) rfl rfl rfl rfl rfl ?_
  refine rw_end ?_
  refine w_weaken (G' := [(0, .bool false), (1, .slice A1 n2 c3), (2, .nilIface)]) ⟨rfl, rfl, rfl, trivial⟩ ?_
  refine w_seq ?_
  refine w_region ?_
  refine rw_new (cs := #[.int .i64 0, .int .i64 (-1), .int .i64 1, .int .i64 (-300)]) (t := 3) (fun g => .slice (some ⟨g, 0, none⟩) 4 4) rfl rfl rfl rfl (by kernel_rfl) ?_
  intro g8 w9 hg13 hz12 hb10 hk11
  have hs_w9 := hb10.size
  have hO14 : Own .i64 3 w9 w.heap.size g8 (some ⟨g8, 0, none⟩) 4 4 [0, -1, 1, -300] := own_blk (xs := [0, -1, 1, -300]) w.heap.size hk11 (by omega) rfl (by simp) (by omega) (fun j hj => by
    match j, hj with
    | 0, _ => rfl
    | 1, _ => rfl
    | 2, _ => rfl
    | 3, _ => rfl
    | j + 4, hj => simp at hj; omega)
  refine rw_call rfl rfl rfl rfl (f := 14) (args := #[.slice none 0 0, .slice (some ⟨g8, 0, none⟩) 4 4]) (by simp [go_sem, sEv, sLook, nbeq, i64_w]) (put_calls w9 100 none 0 0 [] ⟨rfl, by simp, fun h => absurd h (by simp)⟩ (by omega) (some ⟨g8, 0, none⟩) 4 [0, -1, 1, -300] [0, 1, 1, 1, 2, 2, 87, 2] (Own.C hO14) (by simp) (by decide +kernel)) ?_
  rintro e_ w18 ⟨A15, n16, c17, rfl, hO19, hB20⟩
  refine ⟨_, rfl, ?_⟩
  have hs_w18 := hB20.size
  have hL21 : Own .u8 5 w18 w.heap.size w9.heap.size A15 n16 c17 [0, 1, 1, 1, 2, 2, 87, 2] := Own.lower hO19 (by omega)
  refine rw_val (v := .string (strOfNums [0, 1, 1, 1, 2, 2, 87, 2])) (w' := w18) rfl rfl rfl rfl (run_as (run_str_of (P := Try.prog) (e := 5) (by kernel_rfl) (by kernel_rfl) (by kernel_rfl) (show (Kd.int .u8).C _ _ n16 [0, 1, 1, 1, 2, 2, 87, 2] by rw [hL21.len]; exact (Own.C (hL21.on (Below.refl _ _)))))) ?_
  refine rw_val (v := .bool (decide (strOfNums [0, 1, 1, 1, 2, 2, 87, 2] = (⟨#[0, 1, 1, 1, 2, 2, 87, 2]⟩ : ByteArray)))) (w' := w18) rfl rfl rfl rfl (run_as (run_str_eql 9 _ _ _)) ?_
  refine rw_val (v := .bool (decide (strOfNums [0, 1, 1, 1, 2, 2, 87, 2] = (⟨#[0, 1, 1, 1, 2, 2, 87, 2]⟩ : ByteArray)))) (w' := w18) rfl rfl rfl rfl rfl ?_
  have hq22 : (decide (strOfNums [0, 1, 1, 1, 2, 2, 87, 2] = (⟨#[0, 1, 1, 1, 2, 2, 87, 2]⟩ : ByteArray))) = true := by decide +kernel
  refine rw_gval (c := decide (strOfNums [0, 1, 1, 1, 2, 2, 87, 2] = (⟨#[0, 1, 1, 1, 2, 2, 87, 2]⟩ : ByteArray))) (v := .nilIface) (w' := w18) rfl rfl rfl (by simp [hq22]) rfl rfl rfl (by rfl) ?_
  refine rw_gval (c := decide (strOfNums [0, 1, 1, 1, 2, 2, 87, 2] = (⟨#[0, 1, 1, 1, 2, 2, 87, 2]⟩ : ByteArray))) (v := .bool true) (w' := w18) rfl rfl rfl (by simp [hq22]) rfl rfl rfl (by exact run_as (run_ifnil _)) ?_
  refine rw_val (v := .bool true) (w' := w18) rfl rfl rfl rfl (by simp [go_sem, sEv, sLook, nbeq, i64_w, hq22]) ?_
  refine rw_val (v := .bool true) (w' := w18) rfl rfl rfl rfl rfl ?_
  refine rw_gval (c := true) (v := .slice A1 n2 c3) (w' := w18) rfl rfl rfl rfl rfl rfl rfl (by rfl) ?_
  refine rw_gval (c := true) (v := .string (strOfNums [0, 0, 0, 0, 197, 157, 28, 129])) (w' := w18) rfl rfl rfl rfl rfl rfl rfl (run_as (run_str_of (P := Try.prog) (e := 5) (by kernel_rfl) (by kernel_rfl) (by kernel_rfl) (show (Kd.int .u8).C _ _ n2 [0, 0, 0, 0, 197, 157, 28, 129] by rw [hL7.len]; exact (Own.C (hL7.on (chain hb10 hB20)))))) ?_
  refine rw_gval (c := true) (v := .bool (decide (strOfNums [0, 0, 0, 0, 197, 157, 28, 129] = (⟨#[0, 0, 0, 0, 197, 157, 28, 129]⟩ : ByteArray)))) (w' := w18) rfl rfl rfl rfl rfl rfl rfl (run_as (run_str_eql 9 _ _ _)) ?_
  refine rw_val (v := .bool (decide (strOfNums [0, 0, 0, 0, 197, 157, 28, 129] = (⟨#[0, 0, 0, 0, 197, 157, 28, 129]⟩ : ByteArray)))) (w' := w18) rfl rfl rfl rfl (by simp [go_sem, sEv, sLook, nbeq, i64_w]) ?_
  refine rw_val (v := .bool (decide (strOfNums [0, 0, 0, 0, 197, 157, 28, 129] = (⟨#[0, 0, 0, 0, 197, 157, 28, 129]⟩ : ByteArray)))) (w' := w18) rfl rfl rfl rfl rfl ?_
  refine rw_end ?_
  refine w_weaken (G' := [(0, .bool (decide (strOfNums [0, 0, 0, 0, 197, 157, 28, 129] = (⟨#[0, 0, 0, 0, 197, 157, 28, 129]⟩ : ByteArray))))]) ⟨rfl, trivial⟩ ?_
  have hq23 : (decide (strOfNums [0, 0, 0, 0, 197, 157, 28, 129] = (⟨#[0, 0, 0, 0, 197, 157, 28, 129]⟩ : ByteArray))) = true := by decide +kernel
  refine w_ret (post_ret1 rfl rfl ?_)
  exact ⟨by simp only [hq23], (chain (chain hB6 hb10) hB20)⟩
end Go.Proofs.Ytjndoihnpnmbjaa.PFrameSums
