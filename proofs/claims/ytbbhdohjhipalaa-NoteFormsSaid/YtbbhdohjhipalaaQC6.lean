/- Parts of the proofs of noteForms_holds: NtGood, NtRList, NtREnc, NtCopied, NtCopW. -/
import Derived.Deep.Upon
import Derived.Laws.CopyRow
import Derived.Test.YtbbhdohjhipalaaQC5
section
namespace Go.Proofs.Ytbbhdohjhipalaa.Ce
open Go.RowKit Go.Proofs.YtbbhdohjhipalaaW.PrintWords Go.Proofs.YtbbhdohjhipalaaW.PrintLast Go.Proofs.YtbbhdohjhipalaaW.PrintMore
open Go.Proofs.Ytbbhdohjhipalaa.Flow
set_option linter.unusedVariables false
set_option linter.unusedSimpArgs false
theorem good_iff2 {n : NT} : goodN n = true ↔ (0 ≤ n.fr ∧ n.fr ≤ 999 ∧ 0 ≤ n.tw ∧ n.tw ≤ 999 ∧ n.ops.length ≤ 16 ∧ (n.ops.length = 0 ∨ n.kind = 7) ∧ n.ents.length ≤ 16 ∧ (n.ents.length = 0 ∨ n.kind = 8)) ∧ fitsN n.kind n.nums.length = true ∧ n.ops.all opOk = true := by
  unfold goodN
  simp only [Bool.and_eq_true, Bool.or_eq_true, decide_eq_true_eq]
  constructor
  · rintro ⟨⟨⟨⟨⟨⟨⟨a1, a2⟩, a3⟩, a4⟩, a5⟩, a8, a9⟩, a10, a11⟩, a12⟩
    exact ⟨⟨a1, a2, a3, a4, a8, a9, a10, a11⟩, a5, a12⟩
  · rintro ⟨⟨a1, a2, a3, a4, a8, a9, a10, a11⟩, a5, a12⟩
    exact ⟨⟨⟨⟨⟨⟨⟨a1, a2⟩, a3⟩, a4⟩, a5⟩, a8, a9⟩, a10, a11⟩, a12⟩
theorem bool_of {n : NT} {b : Bool} (h : goodN n = b) : Value.bool b = Value.bool (goodN n) := by rw [h]
theorem fits_val {k a b c : Int} (h : shapeK k = some (a, b, c)) (n : Nat) : (fitsN k n = true) ↔ (a ≤ (n : Int) ∧ (n : Int) ≤ b ∧ ((n : Int) - a) % c = 0) := by
  unfold fitsN
  rw [h]
  simp only [Bool.and_eq_true, decide_eq_true_eq]
theorem fits_no {k : Int} (h : shapeK k = none) (n : Nat) : fitsN k n = false := by
  unfold fitsN
  rw [h]
theorem op_ok {o : OpL} (h : o.2.1 = 1 ∨ o.2.1 = 2) : opOk o = true := by
  unfold opOk
  rcases h with h | h <;> rw [h] <;> rfl
theorem op_no {o : OpL} (h1 : ¬ o.2.1 = 1) (h2 : ¬ o.2.1 = 2) : opOk o = false := by
  unfold opOk
  rw [beq_eq_false_iff_ne.2 h1, beq_eq_false_iff_ne.2 h2]
  rfl
theorem all_step {l : List OpL} {j : Nat} (h : j < l.length) (hJ : (l.take j).all opOk = true) (ho : opOk (l.getD j (0, 0, 0, 0, 0)) = true) : (l.take (j + 1)).all opOk = true := by
  rw [List.take_succ_eq_append_getElem h, List.all_append, hJ]
  simpa [List.getD_eq_getElem?_getD, List.getElem?_eq_getElem h] using ho
set_option maxHeartbeats 4000000 in
theorem good_calls (w : World) (n : NT) (A3 : Option Addr) (c3 : Nat) (A4 : Option Addr) (c4 : Nat) (A5 : Option Addr) (c5 : Nat) (hn3 : (Kd.int .i64).C w A3 n.nums.length n.nums) (hc3 : n.nums.length ≤ c3) (hn4 : kOp.C w A4 n.ops.length n.ops) (hc4 : n.ops.length ≤ c4) (hn5 : kEntry.C w A5 n.ents.length n.ents) (hc5 : n.ents.length ≤ c5) (hk3 : n.nums.length ≤ 140737488355328) (hk4 : n.ops.length ≤ 140737488355328) (hk5 : n.ents.length ≤ 140737488355328) :
  Calls Try.prog 16 #[.agg #[.int .i64 n.kind, .int .i64 n.fr, .int .i64 n.tw, .slice A3 n.nums.length c3, .slice A4 n.ops.length c4, .slice A5 n.ents.length c5]] w fun e w' => e = .returned (.bool (goodN n)) ∧ Below w.heap.size w w' := by
 refine calls_flow Try.func16 rfl 142 rfl (Nat.le_of_ble_eq_true rfl) [(0, .agg #[.int .i64 n.kind, .int .i64 n.fr, .int .i64 n.tw, .slice A3 n.nums.length c3, .slice A4 n.ops.length c4, .slice A5 n.ents.length c5])] ?_ ?_
 ·
  intro t v h; exact args_look rfl t v h
 refine wsr ?_
 refine rw_new (cs := #[.int .i64 n.kind, .int .i64 n.fr, .int .i64 n.tw, .slice A3 n.nums.length c3, .slice A4 n.ops.length c4, .slice A5 n.ents.length c5]) (t := 26) (fun g => .pointer (some ⟨g, 0, none⟩)) rfl rfl rfl rfl (by simp [go_sem, sEv, sLook, nbeq, i64_w, -List.getD_eq_getElem?_getD]) ?_
 intro g1 w2 hg6 hz5 hb3 hk4
 have hs_w2 := hb3.size
 refine rv (.bool false) ?_
 refine rw_end ?_
 refine w_seq ?_
 refine wsr ?_
 refine ru (.pointer (some ⟨g1, 1, none⟩)) ?_
 refine rl hk4 1 (.int .i64 n.fr) ?_
 refine rs (.bool (decide (n.fr < 0))) ?_
 refine rv (.bool (decide (n.fr < 0))) ?_
 rcases bcase (decide (n.fr < 0)) with c7 | c7
 ·
  have l8 : ¬ (n.fr < 0) := of_decide_eq_false c7
  refine rnk c7 ?_
  refine ru (.pointer (some ⟨g1, 1, none⟩)) ?_
  refine rnk c7 ?_
  refine rl hk4 1 (.int .i64 n.fr) ?_
  refine rnk c7 ?_
  refine rs (.bool (decide (999 < n.fr))) ?_
  refine rp c7 (.bool (decide (999 < n.fr))) ?_
  refine rv (.bool (decide (999 < n.fr))) ?_
  rcases bcase (decide (999 < n.fr)) with c9 | c9
  ·
   have l10 : ¬ (999 < n.fr) := of_decide_eq_false c9
   refine rnk c9 ?_
   refine ru (.pointer (some ⟨g1, 2, none⟩)) ?_
   refine rnk c9 ?_
   refine rl hk4 2 (.int .i64 n.tw) ?_
   refine rnk c9 ?_
   refine rs (.bool (decide (n.tw < 0))) ?_
   refine rp c9 (.bool (decide (n.tw < 0))) ?_
   refine rv (.bool (decide (n.tw < 0))) ?_
   rcases bcase (decide (n.tw < 0)) with c11 | c11
   ·
    have l12 : ¬ (n.tw < 0) := of_decide_eq_false c11
    refine rnk c11 ?_
    refine ru (.pointer (some ⟨g1, 2, none⟩)) ?_
    refine rnk c11 ?_
    refine rl hk4 2 (.int .i64 n.tw) ?_
    refine rnk c11 ?_
    refine rs (.bool (decide (999 < n.tw))) ?_
    refine rp c11 (.bool (decide (999 < n.tw))) ?_
    refine rw_end ?_
    refine w_weaken (G' := [(1, .pointer (some ⟨g1, 0, none⟩)), (2, .bool false), (23, .bool (decide (999 < n.tw)))]) ⟨rfl, rfl, rfl, trivial⟩ ?_
    refine w_cond rfl rfl (fun c13 => ?_) (fun c13 => ?_)
    ·
     have l14 : (999 < n.tw) := of_decide_eq_true c13
     refine wsr ?_
     refine rv (.bool false) ?_
     refine rw_end ?_
     refine w_ret (post_ret1 rfl rfl ?_)
     have hg_ : goodN n = false := Bool.eq_false_iff.2 (fun h_ => by obtain ⟨h2_, _, _⟩ := good_iff2.1 h_; omega)
     exact ⟨by rw [bool_of hg_], hb3⟩
    ·
     have l15 : ¬ (999 < n.tw) := of_decide_eq_false c13
     refine w_skip ?_
     refine wsr ?_
     refine ru (.pointer (some ⟨g1, 3, none⟩)) ?_
     refine rl hk4 3 (.slice A3 n.nums.length c3) ?_
     refine rs (.int .i64 ((n.nums.length : Nat) : Int)) ?_
     refine rv (.int .i64 ((n.nums.length : Nat) : Int)) ?_
     refine rw_end ?_
     refine w_weaken (G' := [(1, .pointer (some ⟨g1, 0, none⟩)), (2, .bool false), (3, .int .i64 ((n.nums.length : Nat) : Int))]) ⟨rfl, rfl, rfl, trivial⟩ ?_
     refine wsr ?_
     refine rv (.bool false) ?_
     refine rw_end ?_
     refine w_seq ?_
     refine wsr ?_
     refine ru (.pointer (some ⟨g1, 0, none⟩)) ?_
     refine rl hk4 0 (.int .i64 n.kind) ?_
     refine rw_end ?_
     refine w_join (fun G W_ => w2 = W_ ∧ G = [(1, .pointer (some ⟨g1, 0, none⟩)), (2, .bool false), (4, .bool (fitsN n.kind n.nums.length))]) ?_ ?_
     ·
      refine w_block ?_
      refine w_seq ?_
      refine wsr ?_
      refine rs (.bool (n.kind == 1)) ?_
      refine rv (.bool (n.kind == 1)) ?_
      refine rw_end ?_
      refine w_cond rfl rfl (fun c16 => ?_) (fun c16 => ?_)
      ·
       have l17 : n.kind = 1 := by simpa using c16
       refine w_skip ?_
       refine w_cond_t rfl rfl c16 ?_
       refine w_region ?_
       refine rv (.int .i64 ((n.nums.length : Nat) : Int)) ?_
       refine rs (.bool (((n.nums.length : Nat) : Int) == 4)) ?_
       refine rv (.bool (((n.nums.length : Nat) : Int) == 4)) ?_
       refine rw_end ?_
       refine w_blk ?_
       have hS_ : shapeK n.kind = some (4, 4, 1) := by rw [show n.kind = 1 by omega]; rfl
       have hF_ := fits_val hS_ n.nums.length
       try simp only [Int.emod_one, and_true] at hF_
       have hj_ : (((n.nums.length : Nat) : Int) == 4) = fitsN n.kind n.nums.length := Bool.eq_iff_iff.2 (by rw [hF_]; simp <;> omega)
       exact w_joined [(1, .pointer (some ⟨g1, 0, none⟩)), (2, .bool false), (4, .bool (fitsN n.kind n.nums.length))] ⟨rfl, rfl, (by rw [← hj_]; rfl), trivial⟩ ⟨rfl, rfl⟩
      ·
       have l18 : ¬ n.kind = 1 := by simpa using c16
       refine wsr ?_
       refine rs (.bool (n.kind == 4)) ?_
       refine rv (.bool (n.kind == 4)) ?_
       refine rw_end ?_
       refine w_cond rfl rfl (fun c19 => ?_) (fun c19 => ?_)
       ·
        have l20 : n.kind = 4 := by simpa using c19
        refine w_skip ?_
        refine w_cond_t rfl rfl c19 ?_
        refine w_region ?_
        refine rv (.int .i64 ((n.nums.length : Nat) : Int)) ?_
        refine rs (.bool (((n.nums.length : Nat) : Int) == 4)) ?_
        refine rv (.bool (((n.nums.length : Nat) : Int) == 4)) ?_
        refine rw_end ?_
        refine w_blk ?_
        have hS_ : shapeK n.kind = some (4, 4, 1) := by rw [show n.kind = 4 by omega]; rfl
        have hF_ := fits_val hS_ n.nums.length
        try simp only [Int.emod_one, and_true] at hF_
        have hj_ : (((n.nums.length : Nat) : Int) == 4) = fitsN n.kind n.nums.length := Bool.eq_iff_iff.2 (by rw [hF_]; simp <;> omega)
        exact w_joined [(1, .pointer (some ⟨g1, 0, none⟩)), (2, .bool false), (4, .bool (fitsN n.kind n.nums.length))] ⟨rfl, rfl, (by rw [← hj_]; rfl), trivial⟩ ⟨rfl, rfl⟩
       ·
        have l21 : ¬ n.kind = 4 := by simpa using c19
        refine w_region ?_
        refine rs (.bool (n.kind == 9)) ?_
        refine rv (.bool (n.kind == 9)) ?_
        refine rw_end ?_
        refine w_cond rfl rfl (fun c22 => ?_) (fun c22 => ?_)
        ·
         have l23 : n.kind = 9 := by simpa using c22
         refine w_region ?_
         refine rv (.int .i64 ((n.nums.length : Nat) : Int)) ?_
         refine rs (.bool (((n.nums.length : Nat) : Int) == 4)) ?_
         refine rv (.bool (((n.nums.length : Nat) : Int) == 4)) ?_
         refine rw_end ?_
         refine w_blk ?_
         have hS_ : shapeK n.kind = some (4, 4, 1) := by rw [show n.kind = 9 by omega]; rfl
         have hF_ := fits_val hS_ n.nums.length
         try simp only [Int.emod_one, and_true] at hF_
         have hj_ : (((n.nums.length : Nat) : Int) == 4) = fitsN n.kind n.nums.length := Bool.eq_iff_iff.2 (by rw [hF_]; simp <;> omega)
         exact w_joined [(1, .pointer (some ⟨g1, 0, none⟩)), (2, .bool false), (4, .bool (fitsN n.kind n.nums.length))] ⟨rfl, rfl, (by rw [← hj_]; rfl), trivial⟩ ⟨rfl, rfl⟩
        ·
         have l24 : ¬ n.kind = 9 := by simpa using c22
         refine wsr ?_
         refine rs (.bool (n.kind == 2)) ?_
         refine rv (.bool (n.kind == 2)) ?_
         refine rw_end ?_
         refine w_cond rfl rfl (fun c25 => ?_) (fun c25 => ?_)
         ·
          have l26 : n.kind = 2 := by simpa using c25
          refine w_region ?_
          refine rv (.int .i64 ((n.nums.length : Nat) : Int)) ?_
          refine rs (.bool (decide (7 ≤ ((n.nums.length : Nat) : Int)))) ?_
          refine rv (.bool (decide (7 ≤ ((n.nums.length : Nat) : Int)))) ?_
          rcases bcase (decide (7 ≤ ((n.nums.length : Nat) : Int))) with c27 | c27
          ·
           have l28 : ¬ (7 ≤ ((n.nums.length : Nat) : Int)) := of_decide_eq_false c27
           refine rok c27 ?_
           refine rok c27 ?_
           refine rp c27 (.bool false) ?_
           refine rv (.bool false) ?_
           refine rw_end ?_
           refine w_weaken (G' := [(1, .pointer (some ⟨g1, 0, none⟩)), (2, .bool false), (4, .bool false)]) ⟨rfl, rfl, rfl, trivial⟩ ?_
           refine w_blk ?_
           have hS_ : shapeK n.kind = some (7, 39, 1) := by rw [show n.kind = 2 by omega]; rfl
           have hF_ := fits_val hS_ n.nums.length
           try simp only [Int.emod_one, and_true] at hF_
           have hj_ : false = fitsN n.kind n.nums.length := Bool.eq_iff_iff.2 (by rw [hF_]; simp <;> omega)
           exact w_joined [(1, .pointer (some ⟨g1, 0, none⟩)), (2, .bool false), (4, .bool (fitsN n.kind n.nums.length))] ⟨rfl, rfl, (by rw [← hj_]; rfl), trivial⟩ ⟨rfl, rfl⟩
          ·
           have l29 : (7 ≤ ((n.nums.length : Nat) : Int)) := of_decide_eq_true c27
           refine rnk c27 ?_
           refine rv (.int .i64 ((n.nums.length : Nat) : Int)) ?_
           refine rnk c27 ?_
           refine rs (.bool (decide (((n.nums.length : Nat) : Int) ≤ 39))) ?_
           refine rp c27 (.bool (decide (((n.nums.length : Nat) : Int) ≤ 39))) ?_
           refine rv (.bool (decide (((n.nums.length : Nat) : Int) ≤ 39))) ?_
           refine rw_end ?_
           refine w_weaken (G' := [(1, .pointer (some ⟨g1, 0, none⟩)), (2, .bool false), (4, .bool (decide (((n.nums.length : Nat) : Int) ≤ 39)))]) ⟨rfl, rfl, rfl, trivial⟩ ?_
           refine w_blk ?_
           have hS_ : shapeK n.kind = some (7, 39, 1) := by rw [show n.kind = 2 by omega]; rfl
           have hF_ := fits_val hS_ n.nums.length
           try simp only [Int.emod_one, and_true] at hF_
           have hj_ : (decide (((n.nums.length : Nat) : Int) ≤ 39)) = fitsN n.kind n.nums.length := Bool.eq_iff_iff.2 (by rw [hF_]; simp <;> omega)
           exact w_joined [(1, .pointer (some ⟨g1, 0, none⟩)), (2, .bool false), (4, .bool (fitsN n.kind n.nums.length))] ⟨rfl, rfl, (by rw [← hj_]; rfl), trivial⟩ ⟨rfl, rfl⟩
         ·
          have l30 : ¬ n.kind = 2 := by simpa using c25
          refine wsr ?_
          refine rs (.bool (n.kind == 3)) ?_
          refine rv (.bool (n.kind == 3)) ?_
          refine rw_end ?_
          refine w_cond rfl rfl (fun c31 => ?_) (fun c31 => ?_)
          ·
           have l32 : n.kind = 3 := by simpa using c31
           refine w_region ?_
           refine rv (.int .i64 ((n.nums.length : Nat) : Int)) ?_
           refine rs (.bool (decide (4 ≤ ((n.nums.length : Nat) : Int)))) ?_
           refine rv (.bool (decide (4 ≤ ((n.nums.length : Nat) : Int)))) ?_
           rcases bcase (decide (4 ≤ ((n.nums.length : Nat) : Int))) with c33 | c33
           ·
            have l34 : ¬ (4 ≤ ((n.nums.length : Nat) : Int)) := of_decide_eq_false c33
            refine rok c33 ?_
            refine rok c33 ?_
            refine rp c33 (.bool false) ?_
            refine rv (.bool false) ?_
            refine rw_end ?_
            refine w_weaken (G' := [(1, .pointer (some ⟨g1, 0, none⟩)), (2, .bool false), (4, .bool false)]) ⟨rfl, rfl, rfl, trivial⟩ ?_
            refine w_blk ?_
            have hS_ : shapeK n.kind = some (4, 36, 1) := by rw [show n.kind = 3 by omega]; rfl
            have hF_ := fits_val hS_ n.nums.length
            try simp only [Int.emod_one, and_true] at hF_
            have hj_ : false = fitsN n.kind n.nums.length := Bool.eq_iff_iff.2 (by rw [hF_]; simp <;> omega)
            exact w_joined [(1, .pointer (some ⟨g1, 0, none⟩)), (2, .bool false), (4, .bool (fitsN n.kind n.nums.length))] ⟨rfl, rfl, (by rw [← hj_]; rfl), trivial⟩ ⟨rfl, rfl⟩
           ·
            have l35 : (4 ≤ ((n.nums.length : Nat) : Int)) := of_decide_eq_true c33
            refine rnk c33 ?_
            refine rv (.int .i64 ((n.nums.length : Nat) : Int)) ?_
            refine rnk c33 ?_
            refine rs (.bool (decide (((n.nums.length : Nat) : Int) ≤ 36))) ?_
            refine rp c33 (.bool (decide (((n.nums.length : Nat) : Int) ≤ 36))) ?_
            refine rv (.bool (decide (((n.nums.length : Nat) : Int) ≤ 36))) ?_
            refine rw_end ?_
            refine w_weaken (G' := [(1, .pointer (some ⟨g1, 0, none⟩)), (2, .bool false), (4, .bool (decide (((n.nums.length : Nat) : Int) ≤ 36)))]) ⟨rfl, rfl, rfl, trivial⟩ ?_
            refine w_blk ?_
            have hS_ : shapeK n.kind = some (4, 36, 1) := by rw [show n.kind = 3 by omega]; rfl
            have hF_ := fits_val hS_ n.nums.length
            try simp only [Int.emod_one, and_true] at hF_
            have hj_ : (decide (((n.nums.length : Nat) : Int) ≤ 36)) = fitsN n.kind n.nums.length := Bool.eq_iff_iff.2 (by rw [hF_]; simp <;> omega)
            exact w_joined [(1, .pointer (some ⟨g1, 0, none⟩)), (2, .bool false), (4, .bool (fitsN n.kind n.nums.length))] ⟨rfl, rfl, (by rw [← hj_]; rfl), trivial⟩ ⟨rfl, rfl⟩
          ·
           have l36 : ¬ n.kind = 3 := by simpa using c31
           refine wsr ?_
           refine rs (.bool (n.kind == 5)) ?_
           refine rv (.bool (n.kind == 5)) ?_
           refine rw_end ?_
           refine w_cond rfl rfl (fun c37 => ?_) (fun c37 => ?_)
           ·
            have l38 : n.kind = 5 := by simpa using c37
            refine w_region ?_
            refine rv (.int .i64 ((n.nums.length : Nat) : Int)) ?_
            refine rs (.bool (((n.nums.length : Nat) : Int) == 7)) ?_
            refine rv (.bool (((n.nums.length : Nat) : Int) == 7)) ?_
            refine rw_end ?_
            refine w_blk ?_
            have hS_ : shapeK n.kind = some (7, 7, 1) := by rw [show n.kind = 5 by omega]; rfl
            have hF_ := fits_val hS_ n.nums.length
            try simp only [Int.emod_one, and_true] at hF_
            have hj_ : (((n.nums.length : Nat) : Int) == 7) = fitsN n.kind n.nums.length := Bool.eq_iff_iff.2 (by rw [hF_]; simp <;> omega)
            exact w_joined [(1, .pointer (some ⟨g1, 0, none⟩)), (2, .bool false), (4, .bool (fitsN n.kind n.nums.length))] ⟨rfl, rfl, (by rw [← hj_]; rfl), trivial⟩ ⟨rfl, rfl⟩
           ·
            have l39 : ¬ n.kind = 5 := by simpa using c37
            refine wsr ?_
            refine rs (.bool (n.kind == 6)) ?_
            refine rv (.bool (n.kind == 6)) ?_
            refine rw_end ?_
            refine w_cond rfl rfl (fun c40 => ?_) (fun c40 => ?_)
            ·
             have l41 : n.kind = 6 := by simpa using c40
             refine w_region ?_
             refine rv (.int .i64 ((n.nums.length : Nat) : Int)) ?_
             refine rs (.bool (decide (1 ≤ ((n.nums.length : Nat) : Int)))) ?_
             refine rv (.bool (decide (1 ≤ ((n.nums.length : Nat) : Int)))) ?_
             rcases bcase (decide (1 ≤ ((n.nums.length : Nat) : Int))) with c42 | c42
             ·
              have l43 : ¬ (1 ≤ ((n.nums.length : Nat) : Int)) := of_decide_eq_false c42
              refine rok c42 ?_
              refine rok c42 ?_
              refine rp c42 (.bool false) ?_
              refine rv (.bool false) ?_
              refine ro false ?_
              refine ro false ?_
              refine ro false ?_
              refine rs (.bool false) ?_
              refine rv (.bool false) ?_
              refine rw_end ?_
              refine w_weaken (G' := [(1, .pointer (some ⟨g1, 0, none⟩)), (2, .bool false), (4, .bool false)]) ⟨rfl, rfl, rfl, trivial⟩ ?_
              refine w_blk ?_
              have hS_ : shapeK n.kind = some (1, 25, 2) := by rw [show n.kind = 6 by omega]; rfl
              have hF_ := fits_val hS_ n.nums.length
              try simp only [Int.emod_one, and_true] at hF_
              have hj_ : false = fitsN n.kind n.nums.length := Bool.eq_iff_iff.2 (by rw [hF_]; simp <;> omega)
              exact w_joined [(1, .pointer (some ⟨g1, 0, none⟩)), (2, .bool false), (4, .bool (fitsN n.kind n.nums.length))] ⟨rfl, rfl, (by rw [← hj_]; rfl), trivial⟩ ⟨rfl, rfl⟩
             ·
              have l44 : (1 ≤ ((n.nums.length : Nat) : Int)) := of_decide_eq_true c42
              refine rnk c42 ?_
              refine rv (.int .i64 ((n.nums.length : Nat) : Int)) ?_
              refine rnk c42 ?_
              refine rs (.bool (decide (((n.nums.length : Nat) : Int) ≤ 25))) ?_
              refine rp c42 (.bool (decide (((n.nums.length : Nat) : Int) ≤ 25))) ?_
              refine rv (.bool (decide (((n.nums.length : Nat) : Int) ≤ 25))) ?_
              rcases bcase (decide (((n.nums.length : Nat) : Int) ≤ 25)) with c45 | c45
              ·
               have l46 : ¬ (((n.nums.length : Nat) : Int) ≤ 25) := of_decide_eq_false c45
               refine rok c45 ?_
               refine rok c45 ?_
               refine rok c45 ?_
               refine rp c45 (.bool false) ?_
               refine rv (.bool false) ?_
               refine rw_end ?_
               refine w_weaken (G' := [(1, .pointer (some ⟨g1, 0, none⟩)), (2, .bool false), (4, .bool false)]) ⟨rfl, rfl, rfl, trivial⟩ ?_
               refine w_blk ?_
               have hS_ : shapeK n.kind = some (1, 25, 2) := by rw [show n.kind = 6 by omega]; rfl
               have hF_ := fits_val hS_ n.nums.length
               try simp only [Int.emod_one, and_true] at hF_
               have hj_ : false = fitsN n.kind n.nums.length := Bool.eq_iff_iff.2 (by rw [hF_]; simp <;> omega)
               exact w_joined [(1, .pointer (some ⟨g1, 0, none⟩)), (2, .bool false), (4, .bool (fitsN n.kind n.nums.length))] ⟨rfl, rfl, (by rw [← hj_]; rfl), trivial⟩ ⟨rfl, rfl⟩
              ·
               have l47 : (((n.nums.length : Nat) : Int) ≤ 25) := of_decide_eq_true c45
               refine rnk c45 ?_
               refine rv (.int .i64 ((n.nums.length : Nat) : Int)) ?_
               refine rnk c45 ?_
               refine rz (.int .i64 (((n.nums.length : Nat) : Int) % 2)) (by simp [go_sem, sEv, sLook, nbeq, i64_w, -List.getD_eq_getElem?_getD] <;> (try rw [Int.tmod_eq_emod_of_nonneg (by omega)]) <;> (try unfold wrap64) <;> omega) ?_
               refine rnk c45 ?_
               refine rs (.bool ((((n.nums.length : Nat) : Int) % 2) == 1)) ?_
               refine rp c45 (.bool ((((n.nums.length : Nat) : Int) % 2) == 1)) ?_
               refine rv (.bool ((((n.nums.length : Nat) : Int) % 2) == 1)) ?_
               refine rw_end ?_
               refine w_weaken (G' := [(1, .pointer (some ⟨g1, 0, none⟩)), (2, .bool false), (4, .bool ((((n.nums.length : Nat) : Int) % 2) == 1))]) ⟨rfl, rfl, rfl, trivial⟩ ?_
               refine w_blk ?_
               have hS_ : shapeK n.kind = some (1, 25, 2) := by rw [show n.kind = 6 by omega]; rfl
               have hF_ := fits_val hS_ n.nums.length
               try simp only [Int.emod_one, and_true] at hF_
               have hj_ : ((((n.nums.length : Nat) : Int) % 2) == 1) = fitsN n.kind n.nums.length := Bool.eq_iff_iff.2 (by rw [hF_]; simp <;> omega)
               exact w_joined [(1, .pointer (some ⟨g1, 0, none⟩)), (2, .bool false), (4, .bool (fitsN n.kind n.nums.length))] ⟨rfl, rfl, (by rw [← hj_]; rfl), trivial⟩ ⟨rfl, rfl⟩
            ·
             have l48 : ¬ n.kind = 6 := by simpa using c40
             refine wsr ?_
             refine rs (.bool (n.kind == 7)) ?_
             refine rv (.bool (n.kind == 7)) ?_
             refine rw_end ?_
             refine w_cond rfl rfl (fun c49 => ?_) (fun c49 => ?_)
             ·
              have l50 : n.kind = 7 := by simpa using c49
              refine w_region ?_
              refine rv (.int .i64 ((n.nums.length : Nat) : Int)) ?_
              refine rs (.bool (decide (2 ≤ ((n.nums.length : Nat) : Int)))) ?_
              refine rv (.bool (decide (2 ≤ ((n.nums.length : Nat) : Int)))) ?_
              rcases bcase (decide (2 ≤ ((n.nums.length : Nat) : Int))) with c51 | c51
              ·
               have l52 : ¬ (2 ≤ ((n.nums.length : Nat) : Int)) := of_decide_eq_false c51
               refine rok c51 ?_
               refine rok c51 ?_
               refine rp c51 (.bool false) ?_
               refine rv (.bool false) ?_
               refine ro false ?_
               refine ro false ?_
               refine ro false ?_
               refine rs (.bool false) ?_
               refine rv (.bool false) ?_
               refine rw_end ?_
               refine w_weaken (G' := [(1, .pointer (some ⟨g1, 0, none⟩)), (2, .bool false), (4, .bool false)]) ⟨rfl, rfl, rfl, trivial⟩ ?_
               refine w_blk ?_
               have hS_ : shapeK n.kind = some (2, 26, 2) := by rw [show n.kind = 7 by omega]; rfl
               have hF_ := fits_val hS_ n.nums.length
               try simp only [Int.emod_one, and_true] at hF_
               have hj_ : false = fitsN n.kind n.nums.length := Bool.eq_iff_iff.2 (by rw [hF_]; simp <;> omega)
               exact w_joined [(1, .pointer (some ⟨g1, 0, none⟩)), (2, .bool false), (4, .bool (fitsN n.kind n.nums.length))] ⟨rfl, rfl, (by rw [← hj_]; rfl), trivial⟩ ⟨rfl, rfl⟩
              ·
               have l53 : (2 ≤ ((n.nums.length : Nat) : Int)) := of_decide_eq_true c51
               refine rnk c51 ?_
               refine rv (.int .i64 ((n.nums.length : Nat) : Int)) ?_
               refine rnk c51 ?_
               refine rs (.bool (decide (((n.nums.length : Nat) : Int) ≤ 26))) ?_
               refine rp c51 (.bool (decide (((n.nums.length : Nat) : Int) ≤ 26))) ?_
               refine rv (.bool (decide (((n.nums.length : Nat) : Int) ≤ 26))) ?_
               rcases bcase (decide (((n.nums.length : Nat) : Int) ≤ 26)) with c54 | c54
               ·
                have l55 : ¬ (((n.nums.length : Nat) : Int) ≤ 26) := of_decide_eq_false c54
                refine rok c54 ?_
                refine rok c54 ?_
                refine rok c54 ?_
                refine rp c54 (.bool false) ?_
                refine rv (.bool false) ?_
                refine rw_end ?_
                refine w_weaken (G' := [(1, .pointer (some ⟨g1, 0, none⟩)), (2, .bool false), (4, .bool false)]) ⟨rfl, rfl, rfl, trivial⟩ ?_
                refine w_blk ?_
                have hS_ : shapeK n.kind = some (2, 26, 2) := by rw [show n.kind = 7 by omega]; rfl
                have hF_ := fits_val hS_ n.nums.length
                try simp only [Int.emod_one, and_true] at hF_
                have hj_ : false = fitsN n.kind n.nums.length := Bool.eq_iff_iff.2 (by rw [hF_]; simp <;> omega)
                exact w_joined [(1, .pointer (some ⟨g1, 0, none⟩)), (2, .bool false), (4, .bool (fitsN n.kind n.nums.length))] ⟨rfl, rfl, (by rw [← hj_]; rfl), trivial⟩ ⟨rfl, rfl⟩
               ·
                have l56 : (((n.nums.length : Nat) : Int) ≤ 26) := of_decide_eq_true c54
                refine rnk c54 ?_
                refine rv (.int .i64 ((n.nums.length : Nat) : Int)) ?_
                refine rnk c54 ?_
                refine rz (.int .i64 (((n.nums.length : Nat) : Int) % 2)) (by simp [go_sem, sEv, sLook, nbeq, i64_w, -List.getD_eq_getElem?_getD] <;> (try rw [Int.tmod_eq_emod_of_nonneg (by omega)]) <;> (try unfold wrap64) <;> omega) ?_
                refine rnk c54 ?_
                refine rs (.bool ((((n.nums.length : Nat) : Int) % 2) == 0)) ?_
                refine rp c54 (.bool ((((n.nums.length : Nat) : Int) % 2) == 0)) ?_
                refine rv (.bool ((((n.nums.length : Nat) : Int) % 2) == 0)) ?_
                refine rw_end ?_
                refine w_weaken (G' := [(1, .pointer (some ⟨g1, 0, none⟩)), (2, .bool false), (4, .bool ((((n.nums.length : Nat) : Int) % 2) == 0))]) ⟨rfl, rfl, rfl, trivial⟩ ?_
                refine w_blk ?_
                have hS_ : shapeK n.kind = some (2, 26, 2) := by rw [show n.kind = 7 by omega]; rfl
                have hF_ := fits_val hS_ n.nums.length
                try simp only [Int.emod_one, and_true] at hF_
                have hj_ : ((((n.nums.length : Nat) : Int) % 2) == 0) = fitsN n.kind n.nums.length := Bool.eq_iff_iff.2 (by rw [hF_]; simp <;> omega)
                exact w_joined [(1, .pointer (some ⟨g1, 0, none⟩)), (2, .bool false), (4, .bool (fitsN n.kind n.nums.length))] ⟨rfl, rfl, (by rw [← hj_]; rfl), trivial⟩ ⟨rfl, rfl⟩
             ·
              have l57 : ¬ n.kind = 7 := by simpa using c49
              refine wsr ?_
              refine rs (.bool (n.kind == 8)) ?_
              refine rv (.bool (n.kind == 8)) ?_
              refine rw_end ?_
              refine w_cond rfl rfl (fun c58 => ?_) (fun c58 => ?_)
              ·
               have l59 : n.kind = 8 := by simpa using c58
               refine w_region ?_
               refine rv (.int .i64 ((n.nums.length : Nat) : Int)) ?_
               refine rs (.bool (((n.nums.length : Nat) : Int) == 6)) ?_
               refine rv (.bool (((n.nums.length : Nat) : Int) == 6)) ?_
               refine rw_end ?_
               refine w_blk ?_
               have hS_ : shapeK n.kind = some (6, 6, 1) := by rw [show n.kind = 8 by omega]; rfl
               have hF_ := fits_val hS_ n.nums.length
               try simp only [Int.emod_one, and_true] at hF_
               have hj_ : (((n.nums.length : Nat) : Int) == 6) = fitsN n.kind n.nums.length := Bool.eq_iff_iff.2 (by rw [hF_]; simp <;> omega)
               exact w_joined [(1, .pointer (some ⟨g1, 0, none⟩)), (2, .bool false), (4, .bool (fitsN n.kind n.nums.length))] ⟨rfl, rfl, (by rw [← hj_]; rfl), trivial⟩ ⟨rfl, rfl⟩
              ·
               have l60 : ¬ n.kind = 8 := by simpa using c58
               refine w_skip ?_
               refine w_blk ?_
               have hj_ : false = fitsN n.kind n.nums.length := by rw [fits_no (by unfold shapeK; rw [if_neg (by omega), if_neg (by omega), if_neg (by omega), if_neg (by omega), if_neg (by omega), if_neg (by omega), if_neg (by omega)]) n.nums.length]
               exact w_joined [(1, .pointer (some ⟨g1, 0, none⟩)), (2, .bool false), (4, .bool (fitsN n.kind n.nums.length))] ⟨rfl, rfl, (by rw [← hj_]; rfl), trivial⟩ ⟨rfl, rfl⟩
     ·
      rintro _ _ ⟨rfl, rfl⟩
      refine w_seq ?_
      refine wsr ?_
      refine rv (.bool (fitsN n.kind n.nums.length)) ?_
      refine rs (.bool (!(fitsN n.kind n.nums.length))) ?_
      refine rw_end ?_
      refine w_cond rfl rfl (fun cF => ?_) (fun cF => ?_)
      ·
       refine wsr ?_
       refine rv (.bool false) ?_
       refine rw_end ?_
       refine w_ret (post_ret1 rfl rfl ?_)
       have hg_ : goodN n = false := Bool.eq_false_iff.2 (fun h_ => by have h2_ := (good_iff2.1 h_).2.1; rw [h2_] at cF; simp at cF)
       exact ⟨by rw [bool_of hg_], hb3⟩
      ·
       refine w_skip ?_
       refine w_seq ?_
       refine wsr ?_
       refine ru (.pointer (some ⟨g1, 0, none⟩)) ?_
       refine rl hk4 0 (.int .i64 n.kind) ?_
       refine rs (.bool (n.kind != 7)) ?_
       refine rv (.bool (n.kind != 7)) ?_
       rcases bcase (n.kind != 7) with c61 | c61
       ·
        have l62 : n.kind = 7 := by simpa using c61
        refine rok c61 ?_
        refine rok c61 ?_
        refine rok c61 ?_
        refine rok c61 ?_
        refine rp c61 (.bool false) ?_
        refine rv (.bool false) ?_
        refine rn false ?_
        refine ru (.pointer (some ⟨g1, 0, none⟩)) ?_
        refine rn false ?_
        refine rl hk4 0 (.int .i64 n.kind) ?_
        refine rn false ?_
        refine rs (.bool (n.kind != 8)) ?_
        refine rn false ?_
        refine rv (.bool (n.kind != 8)) ?_
        rcases bcase (n.kind != 8) with c63 | c63
        ·
         have l64 : n.kind = 8 := by simpa using c63
         refine rok c63 ?_
         refine rok c63 ?_
         refine rok c63 ?_
         refine rok c63 ?_
         refine rn false ?_
         refine rp c63 (.bool false) ?_
         refine rs (.bool false) ?_
         refine rv (.bool false) ?_
         refine rn false ?_
         refine ru (.pointer (some ⟨g1, 4, none⟩)) ?_
         refine rn false ?_
         refine rl hk4 4 (.slice A4 n.ops.length c4) ?_
         refine rn false ?_
         refine rs (.int .i64 ((n.ops.length : Nat) : Int)) ?_
         refine rn false ?_
         refine rs (.bool (decide (16 < ((n.ops.length : Nat) : Int)))) ?_
         refine rs (.bool (decide (16 < ((n.ops.length : Nat) : Int)))) ?_
         refine rv (.bool (decide (16 < ((n.ops.length : Nat) : Int)))) ?_
         rcases bcase (decide (16 < ((n.ops.length : Nat) : Int))) with c65 | c65
         ·
          have l66 : ¬ (16 < ((n.ops.length : Nat) : Int)) := of_decide_eq_false c65
          refine rnk c65 ?_
          refine ru (.pointer (some ⟨g1, 5, none⟩)) ?_
          refine rnk c65 ?_
          refine rl hk4 5 (.slice A5 n.ents.length c5) ?_
          refine rnk c65 ?_
          refine rs (.int .i64 ((n.ents.length : Nat) : Int)) ?_
          refine rnk c65 ?_
          refine rs (.bool (decide (16 < ((n.ents.length : Nat) : Int)))) ?_
          refine rp c65 (.bool (decide (16 < ((n.ents.length : Nat) : Int)))) ?_
          refine rw_end ?_
          refine w_weaken (G' := [(1, .pointer (some ⟨g1, 0, none⟩)), (2, .bool false), (118, .bool (decide (16 < ((n.ents.length : Nat) : Int))))]) ⟨rfl, rfl, rfl, trivial⟩ ?_
          refine w_cond rfl rfl (fun c67 => ?_) (fun c67 => ?_)
          ·
           have l68 : (16 < ((n.ents.length : Nat) : Int)) := of_decide_eq_true c67
           refine wsr ?_
           refine rv (.bool false) ?_
           refine rw_end ?_
           refine w_ret (post_ret1 rfl rfl ?_)
           have hg_ : goodN n = false := Bool.eq_false_iff.2 (fun h_ => by obtain ⟨h2_, _, _⟩ := good_iff2.1 h_; omega)
           exact ⟨by rw [bool_of hg_], hb3⟩
          ·
           have l69 : ¬ (16 < ((n.ents.length : Nat) : Int)) := of_decide_eq_false c67
           refine w_skip ?_
           refine w_seq ?_
           refine wsr ?_
           refine rv (.int .i64 0) ?_
           refine rw_end ?_
           refine w_block ?_
           refine w_loop (fun m_ G W_ => ∃ (j : Nat), j + m_ = n.ops.length ∧ Below w.heap.size w W_ ∧ (Blk W_ g1 26 #[.int .i64 n.kind, .int .i64 n.fr, .int .i64 n.tw, .slice A3 n.nums.length c3, .slice A4 n.ops.length c4, .slice A5 n.ents.length c5]) ∧ ((n.ops.take j).all opOk = true) ∧ G = [(1, .pointer (some ⟨g1, 0, none⟩)), (5, .int .i64 ((j : Nat) : Int))]) n.ops.length [(1, .pointer (some ⟨g1, 0, none⟩)), (5, .int .i64 0)] ⟨0, by omega, hb3, hk4, (by simp), rfl⟩ ⟨rfl, rfl, trivial⟩ ?_
           rintro m_ G w_L70 ⟨j, hp71, hB_L70, hf72, hf73, rfl⟩
           have hs_w_L70 := hB_L70.size
           have hltb_ := hf72.lt
           have hJ_ := hf73
           refine w_seq ?_
           refine wsr ?_
           refine rv (.int .i64 ((j : Nat) : Int)) ?_
           refine ru (.pointer (some ⟨g1, 4, none⟩)) ?_
           refine rl hf72 4 (.slice A4 n.ops.length c4) ?_
           refine rs (.int .i64 ((n.ops.length : Nat) : Int)) ?_
           refine rs (.bool (decide (((j : Nat) : Int) < ((n.ops.length : Nat) : Int)))) ?_
           refine rw_end ?_
           refine w_weaken (G' := [(1, .pointer (some ⟨g1, 0, none⟩)), (5, .int .i64 ((j : Nat) : Int)), (123, .bool (decide (((j : Nat) : Int) < ((n.ops.length : Nat) : Int))))]) ⟨rfl, rfl, rfl, trivial⟩ ?_
           refine w_cond rfl rfl (fun c74 => ?_) (fun c74 => ?_)
           ·
            have l75 : (((j : Nat) : Int) < ((n.ops.length : Nat) : Int)) := of_decide_eq_true c74
            refine w_skip ?_
            refine w_seq ?_
            refine w_block ?_
            refine wsr ?_
            refine ru (.pointer (some ⟨g1, 4, none⟩)) ?_
            refine rl hf72 4 (.slice A4 n.ops.length c4) ?_
            refine rv (.int .i64 ((j : Nat) : Int)) ?_
            obtain ⟨ad76, hA77, hc78⟩ := flat_at (Kd.C_below hn4 hB_L70) (0, 0, 0, 0, 0) j (by first | omega | decide)
            subst hA77
            have he79 : w_L70.cell? (ad76.add (j * 5)) = some (.int .i64 ((n.ops.getD j (0, 0, 0, 0, 0)).1)) := cell_0 (hc78 0 _ rfl)
            have he80 : w_L70.cell? ⟨(ad76.add (j * 5)).block, (ad76.add (j * 5)).off + 1, none⟩ = some (.int .i64 ((n.ops.getD j (0, 0, 0, 0, 0)).2.1)) := cell_j (hc78 1 _ rfl)
            have he81 : w_L70.cell? ⟨(ad76.add (j * 5)).block, (ad76.add (j * 5)).off + 2, none⟩ = some (.int .i64 ((n.ops.getD j (0, 0, 0, 0, 0)).2.2.1)) := cell_j (hc78 2 _ rfl)
            have he82 : w_L70.cell? ⟨(ad76.add (j * 5)).block, (ad76.add (j * 5)).off + 3, none⟩ = some (.int .i64 ((n.ops.getD j (0, 0, 0, 0, 0)).2.2.2.1)) := cell_j (hc78 3 _ rfl)
            have he83 : w_L70.cell? ⟨(ad76.add (j * 5)).block, (ad76.add (j * 5)).off + 4, none⟩ = some (.int .i64 ((n.ops.getD j (0, 0, 0, 0, 0)).2.2.2.2)) := cell_j (hc78 4 _ rfl)
            refine rz (.pointer (some (ad76.add (j * 5)))) (run_as (run_at_k (P := Try.prog) (e := 73) (sz := 5) (by kernel_rfl) (by kernel_rfl) j (by first | omega | decide) _)) ?_
            refine ru (.pointer (some ⟨(ad76.add (j * 5)).block, (ad76.add (j * 5)).off + 1, none⟩)) ?_
            refine rz (.int .i64 ((n.ops.getD j (0, 0, 0, 0, 0)).2.1)) (by have e0_ := cellOn he80 (Below.refl _ _); simp [go_sem, sEv, sLook, nbeq, i64_w, -List.getD_eq_getElem?_getD, e0_]) ?_
            refine rs (.bool (((n.ops.getD j (0, 0, 0, 0, 0)).2.1) != 1)) ?_
            refine rv (.bool (((n.ops.getD j (0, 0, 0, 0, 0)).2.1) != 1)) ?_
            rcases bcase (((n.ops.getD j (0, 0, 0, 0, 0)).2.1) != 1) with c84 | c84
            ·
             have l85 : ((n.ops.getD j (0, 0, 0, 0, 0)).2.1) = 1 := by simpa using c84
             refine rok c84 ?_
             refine rok c84 ?_
             refine rok c84 ?_
             refine rok c84 ?_
             refine rok c84 ?_
             refine rok c84 ?_
             refine rok c84 ?_
             refine rp c84 (.bool false) ?_
             refine rw_end ?_
             refine w_weaken (G' := [(1, .pointer (some ⟨g1, 0, none⟩)), (5, .int .i64 ((j : Nat) : Int)), (141, .bool false)]) ⟨rfl, rfl, rfl, trivial⟩ ?_
             refine w_cond_f rfl rfl rfl ?_
             refine w_skip ?_
             refine w_blk ?_
             refine w_region ?_
             refine rv (.int .i64 ((j : Nat) : Int)) ?_
             refine rz (.int .i64 ((j + 1 : Nat) : Int)) (by simp [go_sem, sEv, sLook, nbeq, i64_w, -List.getD_eq_getElem?_getD]; exact wrap_id (by omega) (by omega)) ?_
             refine rv (.int .i64 ((j + 1 : Nat) : Int)) ?_
             refine rw_end ?_
             exact w_back (m_ - 1) [(1, .pointer (some ⟨g1, 0, none⟩)), (5, .int .i64 ((j + 1 : Nat) : Int))] (by omega) ⟨rfl, rfl, trivial⟩ ⟨(j + 1), by omega, hB_L70, hf72, (all_step (by omega) hJ_ (op_ok (by omega))), rfl⟩
            ·
             have l86 : ¬ ((n.ops.getD j (0, 0, 0, 0, 0)).2.1) = 1 := by simpa using c84
             refine rnk c84 ?_
             refine ru (.pointer (some ⟨g1, 4, none⟩)) ?_
             refine rnk c84 ?_
             refine rl hf72 4 (.slice (some ad76) n.ops.length c4) ?_
             refine rnk c84 ?_
             refine rv (.int .i64 ((j : Nat) : Int)) ?_
             refine rnk c84 ?_
             obtain ⟨ad87, hA88, hc89⟩ := flat_at (Kd.C_below hn4 hB_L70) (0, 0, 0, 0, 0) j (by first | omega | decide)
             obtain rfl := Option.some.inj hA88
             have he90 : w_L70.cell? (ad76.add (j * 5)) = some (.int .i64 ((n.ops.getD j (0, 0, 0, 0, 0)).1)) := cell_0 (hc89 0 _ rfl)
             have he91 : w_L70.cell? ⟨(ad76.add (j * 5)).block, (ad76.add (j * 5)).off + 1, none⟩ = some (.int .i64 ((n.ops.getD j (0, 0, 0, 0, 0)).2.1)) := cell_j (hc89 1 _ rfl)
             have he92 : w_L70.cell? ⟨(ad76.add (j * 5)).block, (ad76.add (j * 5)).off + 2, none⟩ = some (.int .i64 ((n.ops.getD j (0, 0, 0, 0, 0)).2.2.1)) := cell_j (hc89 2 _ rfl)
             have he93 : w_L70.cell? ⟨(ad76.add (j * 5)).block, (ad76.add (j * 5)).off + 3, none⟩ = some (.int .i64 ((n.ops.getD j (0, 0, 0, 0, 0)).2.2.2.1)) := cell_j (hc89 3 _ rfl)
             have he94 : w_L70.cell? ⟨(ad76.add (j * 5)).block, (ad76.add (j * 5)).off + 4, none⟩ = some (.int .i64 ((n.ops.getD j (0, 0, 0, 0, 0)).2.2.2.2)) := cell_j (hc89 4 _ rfl)
             refine rz (.pointer (some (ad76.add (j * 5)))) (run_as (run_at_k (P := Try.prog) (e := 73) (sz := 5) (by kernel_rfl) (by kernel_rfl) j (by first | omega | decide) _)) ?_
             refine rnk c84 ?_
             refine ru (.pointer (some ⟨(ad76.add (j * 5)).block, (ad76.add (j * 5)).off + 1, none⟩)) ?_
             refine rnk c84 ?_
             refine rz (.int .i64 ((n.ops.getD j (0, 0, 0, 0, 0)).2.1)) (by have e0_ := cellOn he91 (Below.refl _ _); simp [go_sem, sEv, sLook, nbeq, i64_w, -List.getD_eq_getElem?_getD, e0_]) ?_
             refine rnk c84 ?_
             refine rs (.bool (((n.ops.getD j (0, 0, 0, 0, 0)).2.1) != 2)) ?_
             refine rp c84 (.bool (((n.ops.getD j (0, 0, 0, 0, 0)).2.1) != 2)) ?_
             refine rw_end ?_
             refine w_weaken (G' := [(1, .pointer (some ⟨g1, 0, none⟩)), (5, .int .i64 ((j : Nat) : Int)), (141, .bool (((n.ops.getD j (0, 0, 0, 0, 0)).2.1) != 2))]) ⟨rfl, rfl, rfl, trivial⟩ ?_
             refine w_cond rfl rfl (fun c95 => ?_) (fun c95 => ?_)
             ·
              have l96 : ¬ ((n.ops.getD j (0, 0, 0, 0, 0)).2.1) = 2 := by simpa using c95
              refine wsr ?_
              refine rv (.bool false) ?_
              refine rw_end ?_
              refine w_ret (post_ret1 rfl rfl ?_)
              have hg_ : goodN n = false := Bool.eq_false_iff.2 (fun h_ => by have h2_ := (good_iff2.1 h_).2.2; rw [all_no (show j < n.ops.length by omega) (op_no (by omega) (by omega))] at h2_; cases h2_)
              exact ⟨by rw [bool_of hg_], hB_L70⟩
             ·
              have l97 : ((n.ops.getD j (0, 0, 0, 0, 0)).2.1) = 2 := by simpa using c95
              refine w_skip ?_
              refine w_blk ?_
              refine w_region ?_
              refine rv (.int .i64 ((j : Nat) : Int)) ?_
              refine rz (.int .i64 ((j + 1 : Nat) : Int)) (by simp [go_sem, sEv, sLook, nbeq, i64_w, -List.getD_eq_getElem?_getD]; exact wrap_id (by omega) (by omega)) ?_
              refine rv (.int .i64 ((j + 1 : Nat) : Int)) ?_
              refine rw_end ?_
              exact w_back (m_ - 1) [(1, .pointer (some ⟨g1, 0, none⟩)), (5, .int .i64 ((j + 1 : Nat) : Int))] (by omega) ⟨rfl, rfl, trivial⟩ ⟨(j + 1), by omega, hB_L70, hf72, (all_step (by omega) hJ_ (op_ok (by omega))), rfl⟩
           ·
            have l98 : ¬ (((j : Nat) : Int) < ((n.ops.length : Nat) : Int)) := of_decide_eq_false c74
            refine w_exit rfl ?_
            refine wsr ?_
            refine rv (.bool true) ?_
            refine rw_end ?_
            refine w_ret (post_ret1 rfl rfl ?_)
            have hg_ : goodN n = true := good_iff2.2 ⟨⟨by omega, by omega, by omega, by omega, by omega, by omega, by omega, by omega⟩, by simpa using cF, by have h_ := hJ_; rwa [List.take_of_length_le (by omega)] at h_⟩
            exact ⟨by rw [bool_of hg_], hB_L70⟩
         ·
          have l99 : (16 < ((n.ops.length : Nat) : Int)) := of_decide_eq_true c65
          refine rok c65 ?_
          refine rok c65 ?_
          refine rok c65 ?_
          refine rok c65 ?_
          refine rp c65 (.bool true) ?_
          refine rw_end ?_
          refine w_weaken (G' := [(1, .pointer (some ⟨g1, 0, none⟩)), (2, .bool false), (118, .bool true)]) ⟨rfl, rfl, rfl, trivial⟩ ?_
          refine w_cond_t rfl rfl rfl ?_
          refine wsr ?_
          refine rv (.bool false) ?_
          refine rw_end ?_
          refine w_ret (post_ret1 rfl rfl ?_)
          have hg_ : goodN n = false := Bool.eq_false_iff.2 (fun h_ => by obtain ⟨h2_, _, _⟩ := good_iff2.1 h_; omega)
          exact ⟨by rw [bool_of hg_], hb3⟩
        ·
         have l100 : ¬ n.kind = 8 := by simpa using c63
         refine rnk c63 ?_
         refine ru (.pointer (some ⟨g1, 5, none⟩)) ?_
         refine rnk c63 ?_
         refine rl hk4 5 (.slice A5 n.ents.length c5) ?_
         refine rnk c63 ?_
         refine rs (.int .i64 ((n.ents.length : Nat) : Int)) ?_
         refine rnk c63 ?_
         refine rs (.bool (decide (0 < ((n.ents.length : Nat) : Int)))) ?_
         refine rn false ?_
         refine rp c63 (.bool (decide (0 < ((n.ents.length : Nat) : Int)))) ?_
         refine rs (.bool (decide (0 < ((n.ents.length : Nat) : Int)))) ?_
         refine rv (.bool (decide (0 < ((n.ents.length : Nat) : Int)))) ?_
         rcases bcase (decide (0 < ((n.ents.length : Nat) : Int))) with c101 | c101
         ·
          have l102 : ¬ (0 < ((n.ents.length : Nat) : Int)) := of_decide_eq_false c101
          refine rnk c101 ?_
          refine ru (.pointer (some ⟨g1, 4, none⟩)) ?_
          refine rnk c101 ?_
          refine rl hk4 4 (.slice A4 n.ops.length c4) ?_
          refine rnk c101 ?_
          refine rs (.int .i64 ((n.ops.length : Nat) : Int)) ?_
          refine rnk c101 ?_
          refine rs (.bool (decide (16 < ((n.ops.length : Nat) : Int)))) ?_
          refine rp c101 (.bool (decide (16 < ((n.ops.length : Nat) : Int)))) ?_
          refine rv (.bool (decide (16 < ((n.ops.length : Nat) : Int)))) ?_
          rcases bcase (decide (16 < ((n.ops.length : Nat) : Int))) with c103 | c103
          ·
           have l104 : ¬ (16 < ((n.ops.length : Nat) : Int)) := of_decide_eq_false c103
           refine rnk c103 ?_
           refine ru (.pointer (some ⟨g1, 5, none⟩)) ?_
           refine rnk c103 ?_
           refine rl hk4 5 (.slice A5 n.ents.length c5) ?_
           refine rnk c103 ?_
           refine rs (.int .i64 ((n.ents.length : Nat) : Int)) ?_
           refine rnk c103 ?_
           refine rs (.bool (decide (16 < ((n.ents.length : Nat) : Int)))) ?_
           refine rp c103 (.bool (decide (16 < ((n.ents.length : Nat) : Int)))) ?_
           refine rw_end ?_
           refine w_weaken (G' := [(1, .pointer (some ⟨g1, 0, none⟩)), (2, .bool false), (118, .bool (decide (16 < ((n.ents.length : Nat) : Int))))]) ⟨rfl, rfl, rfl, trivial⟩ ?_
           refine w_cond rfl rfl (fun c105 => ?_) (fun c105 => ?_)
           ·
            have l106 : (16 < ((n.ents.length : Nat) : Int)) := of_decide_eq_true c105
            refine wsr ?_
            refine rv (.bool false) ?_
            refine rw_end ?_
            refine w_ret (post_ret1 rfl rfl ?_)
            have hg_ : goodN n = false := Bool.eq_false_iff.2 (fun h_ => by obtain ⟨h2_, _, _⟩ := good_iff2.1 h_; omega)
            exact ⟨by rw [bool_of hg_], hb3⟩
           ·
            have l107 : ¬ (16 < ((n.ents.length : Nat) : Int)) := of_decide_eq_false c105
            refine w_skip ?_
            refine w_seq ?_
            refine wsr ?_
            refine rv (.int .i64 0) ?_
            refine rw_end ?_
            refine w_block ?_
            refine w_loop (fun m_ G W_ => ∃ (j : Nat), j + m_ = n.ops.length ∧ Below w.heap.size w W_ ∧ (Blk W_ g1 26 #[.int .i64 n.kind, .int .i64 n.fr, .int .i64 n.tw, .slice A3 n.nums.length c3, .slice A4 n.ops.length c4, .slice A5 n.ents.length c5]) ∧ ((n.ops.take j).all opOk = true) ∧ G = [(1, .pointer (some ⟨g1, 0, none⟩)), (5, .int .i64 ((j : Nat) : Int))]) n.ops.length [(1, .pointer (some ⟨g1, 0, none⟩)), (5, .int .i64 0)] ⟨0, by omega, hb3, hk4, (by simp), rfl⟩ ⟨rfl, rfl, trivial⟩ ?_
            rintro m_ G w_L108 ⟨j, hp109, hB_L108, hf110, hf111, rfl⟩
            have hs_w_L108 := hB_L108.size
            have hltb_ := hf110.lt
            have hJ_ := hf111
            refine w_seq ?_
            refine wsr ?_
            refine rv (.int .i64 ((j : Nat) : Int)) ?_
            refine ru (.pointer (some ⟨g1, 4, none⟩)) ?_
            refine rl hf110 4 (.slice A4 n.ops.length c4) ?_
            refine rs (.int .i64 ((n.ops.length : Nat) : Int)) ?_
            refine rs (.bool (decide (((j : Nat) : Int) < ((n.ops.length : Nat) : Int)))) ?_
            refine rw_end ?_
            refine w_weaken (G' := [(1, .pointer (some ⟨g1, 0, none⟩)), (5, .int .i64 ((j : Nat) : Int)), (123, .bool (decide (((j : Nat) : Int) < ((n.ops.length : Nat) : Int))))]) ⟨rfl, rfl, rfl, trivial⟩ ?_
            refine w_cond rfl rfl (fun c112 => ?_) (fun c112 => ?_)
            ·
             have l113 : (((j : Nat) : Int) < ((n.ops.length : Nat) : Int)) := of_decide_eq_true c112
             refine w_skip ?_
             refine w_seq ?_
             refine w_block ?_
             refine wsr ?_
             refine ru (.pointer (some ⟨g1, 4, none⟩)) ?_
             refine rl hf110 4 (.slice A4 n.ops.length c4) ?_
             refine rv (.int .i64 ((j : Nat) : Int)) ?_
             obtain ⟨ad114, hA115, hc116⟩ := flat_at (Kd.C_below hn4 hB_L108) (0, 0, 0, 0, 0) j (by first | omega | decide)
             subst hA115
             have he117 : w_L108.cell? (ad114.add (j * 5)) = some (.int .i64 ((n.ops.getD j (0, 0, 0, 0, 0)).1)) := cell_0 (hc116 0 _ rfl)
             have he118 : w_L108.cell? ⟨(ad114.add (j * 5)).block, (ad114.add (j * 5)).off + 1, none⟩ = some (.int .i64 ((n.ops.getD j (0, 0, 0, 0, 0)).2.1)) := cell_j (hc116 1 _ rfl)
             have he119 : w_L108.cell? ⟨(ad114.add (j * 5)).block, (ad114.add (j * 5)).off + 2, none⟩ = some (.int .i64 ((n.ops.getD j (0, 0, 0, 0, 0)).2.2.1)) := cell_j (hc116 2 _ rfl)
             have he120 : w_L108.cell? ⟨(ad114.add (j * 5)).block, (ad114.add (j * 5)).off + 3, none⟩ = some (.int .i64 ((n.ops.getD j (0, 0, 0, 0, 0)).2.2.2.1)) := cell_j (hc116 3 _ rfl)
             have he121 : w_L108.cell? ⟨(ad114.add (j * 5)).block, (ad114.add (j * 5)).off + 4, none⟩ = some (.int .i64 ((n.ops.getD j (0, 0, 0, 0, 0)).2.2.2.2)) := cell_j (hc116 4 _ rfl)
             refine rz (.pointer (some (ad114.add (j * 5)))) (run_as (run_at_k (P := Try.prog) (e := 73) (sz := 5) (by kernel_rfl) (by kernel_rfl) j (by first | omega | decide) _)) ?_
             refine ru (.pointer (some ⟨(ad114.add (j * 5)).block, (ad114.add (j * 5)).off + 1, none⟩)) ?_
             refine rz (.int .i64 ((n.ops.getD j (0, 0, 0, 0, 0)).2.1)) (by have e0_ := cellOn he118 (Below.refl _ _); simp [go_sem, sEv, sLook, nbeq, i64_w, -List.getD_eq_getElem?_getD, e0_]) ?_
             refine rs (.bool (((n.ops.getD j (0, 0, 0, 0, 0)).2.1) != 1)) ?_
             refine rv (.bool (((n.ops.getD j (0, 0, 0, 0, 0)).2.1) != 1)) ?_
             rcases bcase (((n.ops.getD j (0, 0, 0, 0, 0)).2.1) != 1) with c122 | c122
             ·
              have l123 : ((n.ops.getD j (0, 0, 0, 0, 0)).2.1) = 1 := by simpa using c122
              refine rok c122 ?_
              refine rok c122 ?_
              refine rok c122 ?_
              refine rok c122 ?_
              refine rok c122 ?_
              refine rok c122 ?_
              refine rok c122 ?_
              refine rp c122 (.bool false) ?_
              refine rw_end ?_
              refine w_weaken (G' := [(1, .pointer (some ⟨g1, 0, none⟩)), (5, .int .i64 ((j : Nat) : Int)), (141, .bool false)]) ⟨rfl, rfl, rfl, trivial⟩ ?_
              refine w_cond_f rfl rfl rfl ?_
              refine w_skip ?_
              refine w_blk ?_
              refine w_region ?_
              refine rv (.int .i64 ((j : Nat) : Int)) ?_
              refine rz (.int .i64 ((j + 1 : Nat) : Int)) (by simp [go_sem, sEv, sLook, nbeq, i64_w, -List.getD_eq_getElem?_getD]; exact wrap_id (by omega) (by omega)) ?_
              refine rv (.int .i64 ((j + 1 : Nat) : Int)) ?_
              refine rw_end ?_
              exact w_back (m_ - 1) [(1, .pointer (some ⟨g1, 0, none⟩)), (5, .int .i64 ((j + 1 : Nat) : Int))] (by omega) ⟨rfl, rfl, trivial⟩ ⟨(j + 1), by omega, hB_L108, hf110, (all_step (by omega) hJ_ (op_ok (by omega))), rfl⟩
             ·
              have l124 : ¬ ((n.ops.getD j (0, 0, 0, 0, 0)).2.1) = 1 := by simpa using c122
              refine rnk c122 ?_
              refine ru (.pointer (some ⟨g1, 4, none⟩)) ?_
              refine rnk c122 ?_
              refine rl hf110 4 (.slice (some ad114) n.ops.length c4) ?_
              refine rnk c122 ?_
              refine rv (.int .i64 ((j : Nat) : Int)) ?_
              refine rnk c122 ?_
              obtain ⟨ad125, hA126, hc127⟩ := flat_at (Kd.C_below hn4 hB_L108) (0, 0, 0, 0, 0) j (by first | omega | decide)
              obtain rfl := Option.some.inj hA126
              have he128 : w_L108.cell? (ad114.add (j * 5)) = some (.int .i64 ((n.ops.getD j (0, 0, 0, 0, 0)).1)) := cell_0 (hc127 0 _ rfl)
              have he129 : w_L108.cell? ⟨(ad114.add (j * 5)).block, (ad114.add (j * 5)).off + 1, none⟩ = some (.int .i64 ((n.ops.getD j (0, 0, 0, 0, 0)).2.1)) := cell_j (hc127 1 _ rfl)
              have he130 : w_L108.cell? ⟨(ad114.add (j * 5)).block, (ad114.add (j * 5)).off + 2, none⟩ = some (.int .i64 ((n.ops.getD j (0, 0, 0, 0, 0)).2.2.1)) := cell_j (hc127 2 _ rfl)
              have he131 : w_L108.cell? ⟨(ad114.add (j * 5)).block, (ad114.add (j * 5)).off + 3, none⟩ = some (.int .i64 ((n.ops.getD j (0, 0, 0, 0, 0)).2.2.2.1)) := cell_j (hc127 3 _ rfl)
              have he132 : w_L108.cell? ⟨(ad114.add (j * 5)).block, (ad114.add (j * 5)).off + 4, none⟩ = some (.int .i64 ((n.ops.getD j (0, 0, 0, 0, 0)).2.2.2.2)) := cell_j (hc127 4 _ rfl)
              refine rz (.pointer (some (ad114.add (j * 5)))) (run_as (run_at_k (P := Try.prog) (e := 73) (sz := 5) (by kernel_rfl) (by kernel_rfl) j (by first | omega | decide) _)) ?_
              refine rnk c122 ?_
              refine ru (.pointer (some ⟨(ad114.add (j * 5)).block, (ad114.add (j * 5)).off + 1, none⟩)) ?_
              refine rnk c122 ?_
              refine rz (.int .i64 ((n.ops.getD j (0, 0, 0, 0, 0)).2.1)) (by have e0_ := cellOn he129 (Below.refl _ _); simp [go_sem, sEv, sLook, nbeq, i64_w, -List.getD_eq_getElem?_getD, e0_]) ?_
              refine rnk c122 ?_
              refine rs (.bool (((n.ops.getD j (0, 0, 0, 0, 0)).2.1) != 2)) ?_
              refine rp c122 (.bool (((n.ops.getD j (0, 0, 0, 0, 0)).2.1) != 2)) ?_
              refine rw_end ?_
              refine w_weaken (G' := [(1, .pointer (some ⟨g1, 0, none⟩)), (5, .int .i64 ((j : Nat) : Int)), (141, .bool (((n.ops.getD j (0, 0, 0, 0, 0)).2.1) != 2))]) ⟨rfl, rfl, rfl, trivial⟩ ?_
              refine w_cond rfl rfl (fun c133 => ?_) (fun c133 => ?_)
              ·
               have l134 : ¬ ((n.ops.getD j (0, 0, 0, 0, 0)).2.1) = 2 := by simpa using c133
               refine wsr ?_
               refine rv (.bool false) ?_
               refine rw_end ?_
               refine w_ret (post_ret1 rfl rfl ?_)
               have hg_ : goodN n = false := Bool.eq_false_iff.2 (fun h_ => by have h2_ := (good_iff2.1 h_).2.2; rw [all_no (show j < n.ops.length by omega) (op_no (by omega) (by omega))] at h2_; cases h2_)
               exact ⟨by rw [bool_of hg_], hB_L108⟩
              ·
               have l135 : ((n.ops.getD j (0, 0, 0, 0, 0)).2.1) = 2 := by simpa using c133
               refine w_skip ?_
               refine w_blk ?_
               refine w_region ?_
               refine rv (.int .i64 ((j : Nat) : Int)) ?_
               refine rz (.int .i64 ((j + 1 : Nat) : Int)) (by simp [go_sem, sEv, sLook, nbeq, i64_w, -List.getD_eq_getElem?_getD]; exact wrap_id (by omega) (by omega)) ?_
               refine rv (.int .i64 ((j + 1 : Nat) : Int)) ?_
               refine rw_end ?_
               exact w_back (m_ - 1) [(1, .pointer (some ⟨g1, 0, none⟩)), (5, .int .i64 ((j + 1 : Nat) : Int))] (by omega) ⟨rfl, rfl, trivial⟩ ⟨(j + 1), by omega, hB_L108, hf110, (all_step (by omega) hJ_ (op_ok (by omega))), rfl⟩
            ·
             have l136 : ¬ (((j : Nat) : Int) < ((n.ops.length : Nat) : Int)) := of_decide_eq_false c112
             refine w_exit rfl ?_
             refine wsr ?_
             refine rv (.bool true) ?_
             refine rw_end ?_
             refine w_ret (post_ret1 rfl rfl ?_)
             have hg_ : goodN n = true := good_iff2.2 ⟨⟨by omega, by omega, by omega, by omega, by omega, by omega, by omega, by omega⟩, by simpa using cF, by have h_ := hJ_; rwa [List.take_of_length_le (by omega)] at h_⟩
             exact ⟨by rw [bool_of hg_], hB_L108⟩
          ·
           have l137 : (16 < ((n.ops.length : Nat) : Int)) := of_decide_eq_true c103
           refine rok c103 ?_
           refine rok c103 ?_
           refine rok c103 ?_
           refine rok c103 ?_
           refine rp c103 (.bool true) ?_
           refine rw_end ?_
           refine w_weaken (G' := [(1, .pointer (some ⟨g1, 0, none⟩)), (2, .bool false), (118, .bool true)]) ⟨rfl, rfl, rfl, trivial⟩ ?_
           refine w_cond_t rfl rfl rfl ?_
           refine wsr ?_
           refine rv (.bool false) ?_
           refine rw_end ?_
           refine w_ret (post_ret1 rfl rfl ?_)
           have hg_ : goodN n = false := Bool.eq_false_iff.2 (fun h_ => by obtain ⟨h2_, _, _⟩ := good_iff2.1 h_; omega)
           exact ⟨by rw [bool_of hg_], hb3⟩
         ·
          have l138 : (0 < ((n.ents.length : Nat) : Int)) := of_decide_eq_true c101
          refine rok c101 ?_
          refine rok c101 ?_
          refine rok c101 ?_
          refine rok c101 ?_
          refine rp c101 (.bool true) ?_
          refine rv (.bool true) ?_
          refine ro true ?_
          refine ro true ?_
          refine ro true ?_
          refine ro true ?_
          refine rs (.bool true) ?_
          refine rw_end ?_
          refine w_weaken (G' := [(1, .pointer (some ⟨g1, 0, none⟩)), (2, .bool false), (118, .bool true)]) ⟨rfl, rfl, rfl, trivial⟩ ?_
          refine w_cond_t rfl rfl rfl ?_
          refine wsr ?_
          refine rv (.bool false) ?_
          refine rw_end ?_
          refine w_ret (post_ret1 rfl rfl ?_)
          have hg_ : goodN n = false := Bool.eq_false_iff.2 (fun h_ => by obtain ⟨h2_, _, _⟩ := good_iff2.1 h_; omega)
          exact ⟨by rw [bool_of hg_], hb3⟩
       ·
        have l139 : ¬ n.kind = 7 := by simpa using c61
        refine rnk c61 ?_
        refine ru (.pointer (some ⟨g1, 4, none⟩)) ?_
        refine rnk c61 ?_
        refine rl hk4 4 (.slice A4 n.ops.length c4) ?_
        refine rnk c61 ?_
        refine rs (.int .i64 ((n.ops.length : Nat) : Int)) ?_
        refine rnk c61 ?_
        refine rs (.bool (decide (0 < ((n.ops.length : Nat) : Int)))) ?_
        refine rp c61 (.bool (decide (0 < ((n.ops.length : Nat) : Int)))) ?_
        refine rv (.bool (decide (0 < ((n.ops.length : Nat) : Int)))) ?_
        rcases bcase (decide (0 < ((n.ops.length : Nat) : Int))) with c140 | c140
        ·
         have l141 : ¬ (0 < ((n.ops.length : Nat) : Int)) := of_decide_eq_false c140
         refine rnk c140 ?_
         refine ru (.pointer (some ⟨g1, 0, none⟩)) ?_
         refine rnk c140 ?_
         refine rl hk4 0 (.int .i64 n.kind) ?_
         refine rnk c140 ?_
         refine rs (.bool (n.kind != 8)) ?_
         refine rnk c140 ?_
         refine rv (.bool (n.kind != 8)) ?_
         rcases bcase (n.kind != 8) with c142 | c142
         ·
          have l143 : n.kind = 8 := by simpa using c142
          refine rok c142 ?_
          refine rok c142 ?_
          refine rok c142 ?_
          refine rok c142 ?_
          refine rnk c140 ?_
          refine rp c142 (.bool false) ?_
          refine rp c140 (.bool false) ?_
          refine rv (.bool false) ?_
          refine rn false ?_
          refine ru (.pointer (some ⟨g1, 4, none⟩)) ?_
          refine rn false ?_
          refine rl hk4 4 (.slice A4 n.ops.length c4) ?_
          refine rn false ?_
          refine rs (.int .i64 ((n.ops.length : Nat) : Int)) ?_
          refine rn false ?_
          refine rs (.bool (decide (16 < ((n.ops.length : Nat) : Int)))) ?_
          refine rs (.bool (decide (16 < ((n.ops.length : Nat) : Int)))) ?_
          refine rv (.bool (decide (16 < ((n.ops.length : Nat) : Int)))) ?_
          rcases bcase (decide (16 < ((n.ops.length : Nat) : Int))) with c144 | c144
          ·
           have l145 : ¬ (16 < ((n.ops.length : Nat) : Int)) := of_decide_eq_false c144
           refine rnk c144 ?_
           refine ru (.pointer (some ⟨g1, 5, none⟩)) ?_
           refine rnk c144 ?_
           refine rl hk4 5 (.slice A5 n.ents.length c5) ?_
           refine rnk c144 ?_
           refine rs (.int .i64 ((n.ents.length : Nat) : Int)) ?_
           refine rnk c144 ?_
           refine rs (.bool (decide (16 < ((n.ents.length : Nat) : Int)))) ?_
           refine rp c144 (.bool (decide (16 < ((n.ents.length : Nat) : Int)))) ?_
           refine rw_end ?_
           refine w_weaken (G' := [(1, .pointer (some ⟨g1, 0, none⟩)), (2, .bool false), (118, .bool (decide (16 < ((n.ents.length : Nat) : Int))))]) ⟨rfl, rfl, rfl, trivial⟩ ?_
           refine w_cond rfl rfl (fun c146 => ?_) (fun c146 => ?_)
           ·
            have l147 : (16 < ((n.ents.length : Nat) : Int)) := of_decide_eq_true c146
            refine wsr ?_
            refine rv (.bool false) ?_
            refine rw_end ?_
            refine w_ret (post_ret1 rfl rfl ?_)
            have hg_ : goodN n = false := Bool.eq_false_iff.2 (fun h_ => by obtain ⟨h2_, _, _⟩ := good_iff2.1 h_; omega)
            exact ⟨by rw [bool_of hg_], hb3⟩
           ·
            have l148 : ¬ (16 < ((n.ents.length : Nat) : Int)) := of_decide_eq_false c146
            refine w_skip ?_
            refine w_seq ?_
            refine wsr ?_
            refine rv (.int .i64 0) ?_
            refine rw_end ?_
            refine w_block ?_
            refine w_loop (fun m_ G W_ => ∃ (j : Nat), j + m_ = n.ops.length ∧ Below w.heap.size w W_ ∧ (Blk W_ g1 26 #[.int .i64 n.kind, .int .i64 n.fr, .int .i64 n.tw, .slice A3 n.nums.length c3, .slice A4 n.ops.length c4, .slice A5 n.ents.length c5]) ∧ ((n.ops.take j).all opOk = true) ∧ G = [(1, .pointer (some ⟨g1, 0, none⟩)), (5, .int .i64 ((j : Nat) : Int))]) n.ops.length [(1, .pointer (some ⟨g1, 0, none⟩)), (5, .int .i64 0)] ⟨0, by omega, hb3, hk4, (by simp), rfl⟩ ⟨rfl, rfl, trivial⟩ ?_
            rintro m_ G w_L149 ⟨j, hp150, hB_L149, hf151, hf152, rfl⟩
            have hs_w_L149 := hB_L149.size
            have hltb_ := hf151.lt
            have hJ_ := hf152
            refine w_seq ?_
            refine wsr ?_
            refine rv (.int .i64 ((j : Nat) : Int)) ?_
            refine ru (.pointer (some ⟨g1, 4, none⟩)) ?_
            refine rl hf151 4 (.slice A4 n.ops.length c4) ?_
            refine rs (.int .i64 ((n.ops.length : Nat) : Int)) ?_
            refine rs (.bool (decide (((j : Nat) : Int) < ((n.ops.length : Nat) : Int)))) ?_
            refine rw_end ?_
            refine w_weaken (G' := [(1, .pointer (some ⟨g1, 0, none⟩)), (5, .int .i64 ((j : Nat) : Int)), (123, .bool (decide (((j : Nat) : Int) < ((n.ops.length : Nat) : Int))))]) ⟨rfl, rfl, rfl, trivial⟩ ?_
            refine w_cond rfl rfl (fun c153 => ?_) (fun c153 => ?_)
            ·
             have l154 : (((j : Nat) : Int) < ((n.ops.length : Nat) : Int)) := of_decide_eq_true c153
             refine w_skip ?_
             refine w_seq ?_
             refine w_block ?_
             refine wsr ?_
             refine ru (.pointer (some ⟨g1, 4, none⟩)) ?_
             refine rl hf151 4 (.slice A4 n.ops.length c4) ?_
             refine rv (.int .i64 ((j : Nat) : Int)) ?_
             obtain ⟨ad155, hA156, hc157⟩ := flat_at (Kd.C_below hn4 hB_L149) (0, 0, 0, 0, 0) j (by first | omega | decide)
             subst hA156
             have he158 : w_L149.cell? (ad155.add (j * 5)) = some (.int .i64 ((n.ops.getD j (0, 0, 0, 0, 0)).1)) := cell_0 (hc157 0 _ rfl)
             have he159 : w_L149.cell? ⟨(ad155.add (j * 5)).block, (ad155.add (j * 5)).off + 1, none⟩ = some (.int .i64 ((n.ops.getD j (0, 0, 0, 0, 0)).2.1)) := cell_j (hc157 1 _ rfl)
             have he160 : w_L149.cell? ⟨(ad155.add (j * 5)).block, (ad155.add (j * 5)).off + 2, none⟩ = some (.int .i64 ((n.ops.getD j (0, 0, 0, 0, 0)).2.2.1)) := cell_j (hc157 2 _ rfl)
             have he161 : w_L149.cell? ⟨(ad155.add (j * 5)).block, (ad155.add (j * 5)).off + 3, none⟩ = some (.int .i64 ((n.ops.getD j (0, 0, 0, 0, 0)).2.2.2.1)) := cell_j (hc157 3 _ rfl)
             have he162 : w_L149.cell? ⟨(ad155.add (j * 5)).block, (ad155.add (j * 5)).off + 4, none⟩ = some (.int .i64 ((n.ops.getD j (0, 0, 0, 0, 0)).2.2.2.2)) := cell_j (hc157 4 _ rfl)
             refine rz (.pointer (some (ad155.add (j * 5)))) (run_as (run_at_k (P := Try.prog) (e := 73) (sz := 5) (by kernel_rfl) (by kernel_rfl) j (by first | omega | decide) _)) ?_
             refine ru (.pointer (some ⟨(ad155.add (j * 5)).block, (ad155.add (j * 5)).off + 1, none⟩)) ?_
             refine rz (.int .i64 ((n.ops.getD j (0, 0, 0, 0, 0)).2.1)) (by have e0_ := cellOn he159 (Below.refl _ _); simp [go_sem, sEv, sLook, nbeq, i64_w, -List.getD_eq_getElem?_getD, e0_]) ?_
             refine rs (.bool (((n.ops.getD j (0, 0, 0, 0, 0)).2.1) != 1)) ?_
             refine rv (.bool (((n.ops.getD j (0, 0, 0, 0, 0)).2.1) != 1)) ?_
             rcases bcase (((n.ops.getD j (0, 0, 0, 0, 0)).2.1) != 1) with c163 | c163
             ·
              have l164 : ((n.ops.getD j (0, 0, 0, 0, 0)).2.1) = 1 := by simpa using c163
              refine rok c163 ?_
              refine rok c163 ?_
              refine rok c163 ?_
              refine rok c163 ?_
              refine rok c163 ?_
              refine rok c163 ?_
              refine rok c163 ?_
              refine rp c163 (.bool false) ?_
              refine rw_end ?_
              refine w_weaken (G' := [(1, .pointer (some ⟨g1, 0, none⟩)), (5, .int .i64 ((j : Nat) : Int)), (141, .bool false)]) ⟨rfl, rfl, rfl, trivial⟩ ?_
              refine w_cond_f rfl rfl rfl ?_
              refine w_skip ?_
              refine w_blk ?_
              refine w_region ?_
              refine rv (.int .i64 ((j : Nat) : Int)) ?_
              refine rz (.int .i64 ((j + 1 : Nat) : Int)) (by simp [go_sem, sEv, sLook, nbeq, i64_w, -List.getD_eq_getElem?_getD]; exact wrap_id (by omega) (by omega)) ?_
              refine rv (.int .i64 ((j + 1 : Nat) : Int)) ?_
              refine rw_end ?_
              exact w_back (m_ - 1) [(1, .pointer (some ⟨g1, 0, none⟩)), (5, .int .i64 ((j + 1 : Nat) : Int))] (by omega) ⟨rfl, rfl, trivial⟩ ⟨(j + 1), by omega, hB_L149, hf151, (all_step (by omega) hJ_ (op_ok (by omega))), rfl⟩
             ·
              have l165 : ¬ ((n.ops.getD j (0, 0, 0, 0, 0)).2.1) = 1 := by simpa using c163
              refine rnk c163 ?_
              refine ru (.pointer (some ⟨g1, 4, none⟩)) ?_
              refine rnk c163 ?_
              refine rl hf151 4 (.slice (some ad155) n.ops.length c4) ?_
              refine rnk c163 ?_
              refine rv (.int .i64 ((j : Nat) : Int)) ?_
              refine rnk c163 ?_
              obtain ⟨ad166, hA167, hc168⟩ := flat_at (Kd.C_below hn4 hB_L149) (0, 0, 0, 0, 0) j (by first | omega | decide)
              obtain rfl := Option.some.inj hA167
              have he169 : w_L149.cell? (ad155.add (j * 5)) = some (.int .i64 ((n.ops.getD j (0, 0, 0, 0, 0)).1)) := cell_0 (hc168 0 _ rfl)
              have he170 : w_L149.cell? ⟨(ad155.add (j * 5)).block, (ad155.add (j * 5)).off + 1, none⟩ = some (.int .i64 ((n.ops.getD j (0, 0, 0, 0, 0)).2.1)) := cell_j (hc168 1 _ rfl)
              have he171 : w_L149.cell? ⟨(ad155.add (j * 5)).block, (ad155.add (j * 5)).off + 2, none⟩ = some (.int .i64 ((n.ops.getD j (0, 0, 0, 0, 0)).2.2.1)) := cell_j (hc168 2 _ rfl)
              have he172 : w_L149.cell? ⟨(ad155.add (j * 5)).block, (ad155.add (j * 5)).off + 3, none⟩ = some (.int .i64 ((n.ops.getD j (0, 0, 0, 0, 0)).2.2.2.1)) := cell_j (hc168 3 _ rfl)
              have he173 : w_L149.cell? ⟨(ad155.add (j * 5)).block, (ad155.add (j * 5)).off + 4, none⟩ = some (.int .i64 ((n.ops.getD j (0, 0, 0, 0, 0)).2.2.2.2)) := cell_j (hc168 4 _ rfl)
              refine rz (.pointer (some (ad155.add (j * 5)))) (run_as (run_at_k (P := Try.prog) (e := 73) (sz := 5) (by kernel_rfl) (by kernel_rfl) j (by first | omega | decide) _)) ?_
              refine rnk c163 ?_
              refine ru (.pointer (some ⟨(ad155.add (j * 5)).block, (ad155.add (j * 5)).off + 1, none⟩)) ?_
              refine rnk c163 ?_
              refine rz (.int .i64 ((n.ops.getD j (0, 0, 0, 0, 0)).2.1)) (by have e0_ := cellOn he170 (Below.refl _ _); simp [go_sem, sEv, sLook, nbeq, i64_w, -List.getD_eq_getElem?_getD, e0_]) ?_
              refine rnk c163 ?_
              refine rs (.bool (((n.ops.getD j (0, 0, 0, 0, 0)).2.1) != 2)) ?_
              refine rp c163 (.bool (((n.ops.getD j (0, 0, 0, 0, 0)).2.1) != 2)) ?_
              refine rw_end ?_
              refine w_weaken (G' := [(1, .pointer (some ⟨g1, 0, none⟩)), (5, .int .i64 ((j : Nat) : Int)), (141, .bool (((n.ops.getD j (0, 0, 0, 0, 0)).2.1) != 2))]) ⟨rfl, rfl, rfl, trivial⟩ ?_
              refine w_cond rfl rfl (fun c174 => ?_) (fun c174 => ?_)
              ·
               have l175 : ¬ ((n.ops.getD j (0, 0, 0, 0, 0)).2.1) = 2 := by simpa using c174
               refine wsr ?_
               refine rv (.bool false) ?_
               refine rw_end ?_
               refine w_ret (post_ret1 rfl rfl ?_)
               have hg_ : goodN n = false := Bool.eq_false_iff.2 (fun h_ => by have h2_ := (good_iff2.1 h_).2.2; rw [all_no (show j < n.ops.length by omega) (op_no (by omega) (by omega))] at h2_; cases h2_)
               exact ⟨by rw [bool_of hg_], hB_L149⟩
              ·
               have l176 : ((n.ops.getD j (0, 0, 0, 0, 0)).2.1) = 2 := by simpa using c174
               refine w_skip ?_
               refine w_blk ?_
               refine w_region ?_
               refine rv (.int .i64 ((j : Nat) : Int)) ?_
               refine rz (.int .i64 ((j + 1 : Nat) : Int)) (by simp [go_sem, sEv, sLook, nbeq, i64_w, -List.getD_eq_getElem?_getD]; exact wrap_id (by omega) (by omega)) ?_
               refine rv (.int .i64 ((j + 1 : Nat) : Int)) ?_
               refine rw_end ?_
               exact w_back (m_ - 1) [(1, .pointer (some ⟨g1, 0, none⟩)), (5, .int .i64 ((j + 1 : Nat) : Int))] (by omega) ⟨rfl, rfl, trivial⟩ ⟨(j + 1), by omega, hB_L149, hf151, (all_step (by omega) hJ_ (op_ok (by omega))), rfl⟩
            ·
             have l177 : ¬ (((j : Nat) : Int) < ((n.ops.length : Nat) : Int)) := of_decide_eq_false c153
             refine w_exit rfl ?_
             refine wsr ?_
             refine rv (.bool true) ?_
             refine rw_end ?_
             refine w_ret (post_ret1 rfl rfl ?_)
             have hg_ : goodN n = true := good_iff2.2 ⟨⟨by omega, by omega, by omega, by omega, by omega, by omega, by omega, by omega⟩, by simpa using cF, by have h_ := hJ_; rwa [List.take_of_length_le (by omega)] at h_⟩
             exact ⟨by rw [bool_of hg_], hB_L149⟩
          ·
           have l178 : (16 < ((n.ops.length : Nat) : Int)) := of_decide_eq_true c144
           refine rok c144 ?_
           refine rok c144 ?_
           refine rok c144 ?_
           refine rok c144 ?_
           refine rp c144 (.bool true) ?_
           refine rw_end ?_
           refine w_weaken (G' := [(1, .pointer (some ⟨g1, 0, none⟩)), (2, .bool false), (118, .bool true)]) ⟨rfl, rfl, rfl, trivial⟩ ?_
           refine w_cond_t rfl rfl rfl ?_
           refine wsr ?_
           refine rv (.bool false) ?_
           refine rw_end ?_
           refine w_ret (post_ret1 rfl rfl ?_)
           have hg_ : goodN n = false := Bool.eq_false_iff.2 (fun h_ => by obtain ⟨h2_, _, _⟩ := good_iff2.1 h_; omega)
           exact ⟨by rw [bool_of hg_], hb3⟩
         ·
          have l179 : ¬ n.kind = 8 := by simpa using c142
          refine rnk c142 ?_
          refine ru (.pointer (some ⟨g1, 5, none⟩)) ?_
          refine rnk c142 ?_
          refine rl hk4 5 (.slice A5 n.ents.length c5) ?_
          refine rnk c142 ?_
          refine rs (.int .i64 ((n.ents.length : Nat) : Int)) ?_
          refine rnk c142 ?_
          refine rs (.bool (decide (0 < ((n.ents.length : Nat) : Int)))) ?_
          refine rnk c140 ?_
          refine rp c142 (.bool (decide (0 < ((n.ents.length : Nat) : Int)))) ?_
          refine rp c140 (.bool (decide (0 < ((n.ents.length : Nat) : Int)))) ?_
          refine rv (.bool (decide (0 < ((n.ents.length : Nat) : Int)))) ?_
          rcases bcase (decide (0 < ((n.ents.length : Nat) : Int))) with c180 | c180
          ·
           have l181 : ¬ (0 < ((n.ents.length : Nat) : Int)) := of_decide_eq_false c180
           refine rnk c180 ?_
           refine ru (.pointer (some ⟨g1, 4, none⟩)) ?_
           refine rnk c180 ?_
           refine rl hk4 4 (.slice A4 n.ops.length c4) ?_
           refine rnk c180 ?_
           refine rs (.int .i64 ((n.ops.length : Nat) : Int)) ?_
           refine rnk c180 ?_
           refine rs (.bool (decide (16 < ((n.ops.length : Nat) : Int)))) ?_
           refine rp c180 (.bool (decide (16 < ((n.ops.length : Nat) : Int)))) ?_
           refine rv (.bool (decide (16 < ((n.ops.length : Nat) : Int)))) ?_
           rcases bcase (decide (16 < ((n.ops.length : Nat) : Int))) with c182 | c182
           ·
            have l183 : ¬ (16 < ((n.ops.length : Nat) : Int)) := of_decide_eq_false c182
            refine rnk c182 ?_
            refine ru (.pointer (some ⟨g1, 5, none⟩)) ?_
            refine rnk c182 ?_
            refine rl hk4 5 (.slice A5 n.ents.length c5) ?_
            refine rnk c182 ?_
            refine rs (.int .i64 ((n.ents.length : Nat) : Int)) ?_
            refine rnk c182 ?_
            refine rs (.bool (decide (16 < ((n.ents.length : Nat) : Int)))) ?_
            refine rp c182 (.bool (decide (16 < ((n.ents.length : Nat) : Int)))) ?_
            refine rw_end ?_
            refine w_weaken (G' := [(1, .pointer (some ⟨g1, 0, none⟩)), (2, .bool false), (118, .bool (decide (16 < ((n.ents.length : Nat) : Int))))]) ⟨rfl, rfl, rfl, trivial⟩ ?_
            refine w_cond rfl rfl (fun c184 => ?_) (fun c184 => ?_)
            ·
             have l185 : (16 < ((n.ents.length : Nat) : Int)) := of_decide_eq_true c184
             refine wsr ?_
             refine rv (.bool false) ?_
             refine rw_end ?_
             refine w_ret (post_ret1 rfl rfl ?_)
             have hg_ : goodN n = false := Bool.eq_false_iff.2 (fun h_ => by obtain ⟨h2_, _, _⟩ := good_iff2.1 h_; omega)
             exact ⟨by rw [bool_of hg_], hb3⟩
            ·
             have l186 : ¬ (16 < ((n.ents.length : Nat) : Int)) := of_decide_eq_false c184
             refine w_skip ?_
             refine w_seq ?_
             refine wsr ?_
             refine rv (.int .i64 0) ?_
             refine rw_end ?_
             refine w_block ?_
             refine w_loop (fun m_ G W_ => ∃ (j : Nat), j + m_ = n.ops.length ∧ Below w.heap.size w W_ ∧ (Blk W_ g1 26 #[.int .i64 n.kind, .int .i64 n.fr, .int .i64 n.tw, .slice A3 n.nums.length c3, .slice A4 n.ops.length c4, .slice A5 n.ents.length c5]) ∧ ((n.ops.take j).all opOk = true) ∧ G = [(1, .pointer (some ⟨g1, 0, none⟩)), (5, .int .i64 ((j : Nat) : Int))]) n.ops.length [(1, .pointer (some ⟨g1, 0, none⟩)), (5, .int .i64 0)] ⟨0, by omega, hb3, hk4, (by simp), rfl⟩ ⟨rfl, rfl, trivial⟩ ?_
             rintro m_ G w_L187 ⟨j, hp188, hB_L187, hf189, hf190, rfl⟩
             have hs_w_L187 := hB_L187.size
             have hltb_ := hf189.lt
             have hJ_ := hf190
             refine w_seq ?_
             refine wsr ?_
             refine rv (.int .i64 ((j : Nat) : Int)) ?_
             refine ru (.pointer (some ⟨g1, 4, none⟩)) ?_
             refine rl hf189 4 (.slice A4 n.ops.length c4) ?_
             refine rs (.int .i64 ((n.ops.length : Nat) : Int)) ?_
             refine rs (.bool (decide (((j : Nat) : Int) < ((n.ops.length : Nat) : Int)))) ?_
             refine rw_end ?_
             refine w_weaken (G' := [(1, .pointer (some ⟨g1, 0, none⟩)), (5, .int .i64 ((j : Nat) : Int)), (123, .bool (decide (((j : Nat) : Int) < ((n.ops.length : Nat) : Int))))]) ⟨rfl, rfl, rfl, trivial⟩ ?_
             refine w_cond rfl rfl (fun c191 => ?_) (fun c191 => ?_)
             ·
              have l192 : (((j : Nat) : Int) < ((n.ops.length : Nat) : Int)) := of_decide_eq_true c191
              refine w_skip ?_
              refine w_seq ?_
              refine w_block ?_
              refine wsr ?_
              refine ru (.pointer (some ⟨g1, 4, none⟩)) ?_
              refine rl hf189 4 (.slice A4 n.ops.length c4) ?_
              refine rv (.int .i64 ((j : Nat) : Int)) ?_
              obtain ⟨ad193, hA194, hc195⟩ := flat_at (Kd.C_below hn4 hB_L187) (0, 0, 0, 0, 0) j (by first | omega | decide)
              subst hA194
              have he196 : w_L187.cell? (ad193.add (j * 5)) = some (.int .i64 ((n.ops.getD j (0, 0, 0, 0, 0)).1)) := cell_0 (hc195 0 _ rfl)
              have he197 : w_L187.cell? ⟨(ad193.add (j * 5)).block, (ad193.add (j * 5)).off + 1, none⟩ = some (.int .i64 ((n.ops.getD j (0, 0, 0, 0, 0)).2.1)) := cell_j (hc195 1 _ rfl)
              have he198 : w_L187.cell? ⟨(ad193.add (j * 5)).block, (ad193.add (j * 5)).off + 2, none⟩ = some (.int .i64 ((n.ops.getD j (0, 0, 0, 0, 0)).2.2.1)) := cell_j (hc195 2 _ rfl)
              have he199 : w_L187.cell? ⟨(ad193.add (j * 5)).block, (ad193.add (j * 5)).off + 3, none⟩ = some (.int .i64 ((n.ops.getD j (0, 0, 0, 0, 0)).2.2.2.1)) := cell_j (hc195 3 _ rfl)
              have he200 : w_L187.cell? ⟨(ad193.add (j * 5)).block, (ad193.add (j * 5)).off + 4, none⟩ = some (.int .i64 ((n.ops.getD j (0, 0, 0, 0, 0)).2.2.2.2)) := cell_j (hc195 4 _ rfl)
              refine rz (.pointer (some (ad193.add (j * 5)))) (run_as (run_at_k (P := Try.prog) (e := 73) (sz := 5) (by kernel_rfl) (by kernel_rfl) j (by first | omega | decide) _)) ?_
              refine ru (.pointer (some ⟨(ad193.add (j * 5)).block, (ad193.add (j * 5)).off + 1, none⟩)) ?_
              refine rz (.int .i64 ((n.ops.getD j (0, 0, 0, 0, 0)).2.1)) (by have e0_ := cellOn he197 (Below.refl _ _); simp [go_sem, sEv, sLook, nbeq, i64_w, -List.getD_eq_getElem?_getD, e0_]) ?_
              refine rs (.bool (((n.ops.getD j (0, 0, 0, 0, 0)).2.1) != 1)) ?_
              refine rv (.bool (((n.ops.getD j (0, 0, 0, 0, 0)).2.1) != 1)) ?_
              rcases bcase (((n.ops.getD j (0, 0, 0, 0, 0)).2.1) != 1) with c201 | c201
              ·
               have l202 : ((n.ops.getD j (0, 0, 0, 0, 0)).2.1) = 1 := by simpa using c201
               refine rok c201 ?_
               refine rok c201 ?_
               refine rok c201 ?_
               refine rok c201 ?_
               refine rok c201 ?_
               refine rok c201 ?_
               refine rok c201 ?_
               refine rp c201 (.bool false) ?_
               refine rw_end ?_
               refine w_weaken (G' := [(1, .pointer (some ⟨g1, 0, none⟩)), (5, .int .i64 ((j : Nat) : Int)), (141, .bool false)]) ⟨rfl, rfl, rfl, trivial⟩ ?_
               refine w_cond_f rfl rfl rfl ?_
               refine w_skip ?_
               refine w_blk ?_
               refine w_region ?_
               refine rv (.int .i64 ((j : Nat) : Int)) ?_
               refine rz (.int .i64 ((j + 1 : Nat) : Int)) (by simp [go_sem, sEv, sLook, nbeq, i64_w, -List.getD_eq_getElem?_getD]; exact wrap_id (by omega) (by omega)) ?_
               refine rv (.int .i64 ((j + 1 : Nat) : Int)) ?_
               refine rw_end ?_
               exact w_back (m_ - 1) [(1, .pointer (some ⟨g1, 0, none⟩)), (5, .int .i64 ((j + 1 : Nat) : Int))] (by omega) ⟨rfl, rfl, trivial⟩ ⟨(j + 1), by omega, hB_L187, hf189, (all_step (by omega) hJ_ (op_ok (by omega))), rfl⟩
              ·
               have l203 : ¬ ((n.ops.getD j (0, 0, 0, 0, 0)).2.1) = 1 := by simpa using c201
               refine rnk c201 ?_
               refine ru (.pointer (some ⟨g1, 4, none⟩)) ?_
               refine rnk c201 ?_
               refine rl hf189 4 (.slice (some ad193) n.ops.length c4) ?_
               refine rnk c201 ?_
               refine rv (.int .i64 ((j : Nat) : Int)) ?_
               refine rnk c201 ?_
               obtain ⟨ad204, hA205, hc206⟩ := flat_at (Kd.C_below hn4 hB_L187) (0, 0, 0, 0, 0) j (by first | omega | decide)
               obtain rfl := Option.some.inj hA205
               have he207 : w_L187.cell? (ad193.add (j * 5)) = some (.int .i64 ((n.ops.getD j (0, 0, 0, 0, 0)).1)) := cell_0 (hc206 0 _ rfl)
               have he208 : w_L187.cell? ⟨(ad193.add (j * 5)).block, (ad193.add (j * 5)).off + 1, none⟩ = some (.int .i64 ((n.ops.getD j (0, 0, 0, 0, 0)).2.1)) := cell_j (hc206 1 _ rfl)
               have he209 : w_L187.cell? ⟨(ad193.add (j * 5)).block, (ad193.add (j * 5)).off + 2, none⟩ = some (.int .i64 ((n.ops.getD j (0, 0, 0, 0, 0)).2.2.1)) := cell_j (hc206 2 _ rfl)
               have he210 : w_L187.cell? ⟨(ad193.add (j * 5)).block, (ad193.add (j * 5)).off + 3, none⟩ = some (.int .i64 ((n.ops.getD j (0, 0, 0, 0, 0)).2.2.2.1)) := cell_j (hc206 3 _ rfl)
               have he211 : w_L187.cell? ⟨(ad193.add (j * 5)).block, (ad193.add (j * 5)).off + 4, none⟩ = some (.int .i64 ((n.ops.getD j (0, 0, 0, 0, 0)).2.2.2.2)) := cell_j (hc206 4 _ rfl)
               refine rz (.pointer (some (ad193.add (j * 5)))) (run_as (run_at_k (P := Try.prog) (e := 73) (sz := 5) (by kernel_rfl) (by kernel_rfl) j (by first | omega | decide) _)) ?_
               refine rnk c201 ?_
               refine ru (.pointer (some ⟨(ad193.add (j * 5)).block, (ad193.add (j * 5)).off + 1, none⟩)) ?_
               refine rnk c201 ?_
               refine rz (.int .i64 ((n.ops.getD j (0, 0, 0, 0, 0)).2.1)) (by have e0_ := cellOn he208 (Below.refl _ _); simp [go_sem, sEv, sLook, nbeq, i64_w, -List.getD_eq_getElem?_getD, e0_]) ?_
               refine rnk c201 ?_
               refine rs (.bool (((n.ops.getD j (0, 0, 0, 0, 0)).2.1) != 2)) ?_
               refine rp c201 (.bool (((n.ops.getD j (0, 0, 0, 0, 0)).2.1) != 2)) ?_
               refine rw_end ?_
               refine w_weaken (G' := [(1, .pointer (some ⟨g1, 0, none⟩)), (5, .int .i64 ((j : Nat) : Int)), (141, .bool (((n.ops.getD j (0, 0, 0, 0, 0)).2.1) != 2))]) ⟨rfl, rfl, rfl, trivial⟩ ?_
               refine w_cond rfl rfl (fun c212 => ?_) (fun c212 => ?_)
               ·
                have l213 : ¬ ((n.ops.getD j (0, 0, 0, 0, 0)).2.1) = 2 := by simpa using c212
                refine wsr ?_
                refine rv (.bool false) ?_
                refine rw_end ?_
                refine w_ret (post_ret1 rfl rfl ?_)
                have hg_ : goodN n = false := Bool.eq_false_iff.2 (fun h_ => by have h2_ := (good_iff2.1 h_).2.2; rw [all_no (show j < n.ops.length by omega) (op_no (by omega) (by omega))] at h2_; cases h2_)
                exact ⟨by rw [bool_of hg_], hB_L187⟩
               ·
                have l214 : ((n.ops.getD j (0, 0, 0, 0, 0)).2.1) = 2 := by simpa using c212
                refine w_skip ?_
                refine w_blk ?_
                refine w_region ?_
                refine rv (.int .i64 ((j : Nat) : Int)) ?_
                refine rz (.int .i64 ((j + 1 : Nat) : Int)) (by simp [go_sem, sEv, sLook, nbeq, i64_w, -List.getD_eq_getElem?_getD]; exact wrap_id (by omega) (by omega)) ?_
                refine rv (.int .i64 ((j + 1 : Nat) : Int)) ?_
                refine rw_end ?_
                exact w_back (m_ - 1) [(1, .pointer (some ⟨g1, 0, none⟩)), (5, .int .i64 ((j + 1 : Nat) : Int))] (by omega) ⟨rfl, rfl, trivial⟩ ⟨(j + 1), by omega, hB_L187, hf189, (all_step (by omega) hJ_ (op_ok (by omega))), rfl⟩
             ·
              have l215 : ¬ (((j : Nat) : Int) < ((n.ops.length : Nat) : Int)) := of_decide_eq_false c191
              refine w_exit rfl ?_
              refine wsr ?_
              refine rv (.bool true) ?_
              refine rw_end ?_
              refine w_ret (post_ret1 rfl rfl ?_)
              have hg_ : goodN n = true := good_iff2.2 ⟨⟨by omega, by omega, by omega, by omega, by omega, by omega, by omega, by omega⟩, by simpa using cF, by have h_ := hJ_; rwa [List.take_of_length_le (by omega)] at h_⟩
              exact ⟨by rw [bool_of hg_], hB_L187⟩
           ·
            have l216 : (16 < ((n.ops.length : Nat) : Int)) := of_decide_eq_true c182
            refine rok c182 ?_
            refine rok c182 ?_
            refine rok c182 ?_
            refine rok c182 ?_
            refine rp c182 (.bool true) ?_
            refine rw_end ?_
            refine w_weaken (G' := [(1, .pointer (some ⟨g1, 0, none⟩)), (2, .bool false), (118, .bool true)]) ⟨rfl, rfl, rfl, trivial⟩ ?_
            refine w_cond_t rfl rfl rfl ?_
            refine wsr ?_
            refine rv (.bool false) ?_
            refine rw_end ?_
            refine w_ret (post_ret1 rfl rfl ?_)
            have hg_ : goodN n = false := Bool.eq_false_iff.2 (fun h_ => by obtain ⟨h2_, _, _⟩ := good_iff2.1 h_; omega)
            exact ⟨by rw [bool_of hg_], hb3⟩
          ·
           have l217 : (0 < ((n.ents.length : Nat) : Int)) := of_decide_eq_true c180
           refine rok c180 ?_
           refine rok c180 ?_
           refine rok c180 ?_
           refine rok c180 ?_
           refine rp c180 (.bool true) ?_
           refine rv (.bool true) ?_
           refine ro true ?_
           refine ro true ?_
           refine ro true ?_
           refine ro true ?_
           refine rs (.bool true) ?_
           refine rw_end ?_
           refine w_weaken (G' := [(1, .pointer (some ⟨g1, 0, none⟩)), (2, .bool false), (118, .bool true)]) ⟨rfl, rfl, rfl, trivial⟩ ?_
           refine w_cond_t rfl rfl rfl ?_
           refine wsr ?_
           refine rv (.bool false) ?_
           refine rw_end ?_
           refine w_ret (post_ret1 rfl rfl ?_)
           have hg_ : goodN n = false := Bool.eq_false_iff.2 (fun h_ => by obtain ⟨h2_, _, _⟩ := good_iff2.1 h_; omega)
           exact ⟨by rw [bool_of hg_], hb3⟩
        ·
         have l218 : (0 < ((n.ops.length : Nat) : Int)) := of_decide_eq_true c140
         refine rok c140 ?_
         refine rok c140 ?_
         refine rok c140 ?_
         refine rok c140 ?_
         refine rw_offu rfl rfl rfl rfl rfl ?_
         refine rw_offu rfl rfl rfl rfl rfl ?_
         refine rw_offu rfl rfl rfl rfl rfl ?_
         refine rw_offu rfl rfl rfl rfl rfl ?_
         refine rok c140 ?_
         refine rp c140 (.bool true) ?_
         refine rv (.bool true) ?_
         refine ro true ?_
         refine ro true ?_
         refine ro true ?_
         refine ro true ?_
         refine rs (.bool true) ?_
         refine rv (.bool true) ?_
         refine ro true ?_
         refine ro true ?_
         refine ro true ?_
         refine ro true ?_
         refine rs (.bool true) ?_
         refine rw_end ?_
         refine w_weaken (G' := [(1, .pointer (some ⟨g1, 0, none⟩)), (2, .bool false), (118, .bool true)]) ⟨rfl, rfl, rfl, trivial⟩ ?_
         refine w_cond_t rfl rfl rfl ?_
         refine wsr ?_
         refine rv (.bool false) ?_
         refine rw_end ?_
         refine w_ret (post_ret1 rfl rfl ?_)
         have hg_ : goodN n = false := Bool.eq_false_iff.2 (fun h_ => by obtain ⟨h2_, _, _⟩ := good_iff2.1 h_; omega)
         exact ⟨by rw [bool_of hg_], hb3⟩
   ·
    have l219 : (n.tw < 0) := of_decide_eq_true c11
    refine rok c11 ?_
    refine rok c11 ?_
    refine rok c11 ?_
    refine rp c11 (.bool true) ?_
    refine rw_end ?_
    refine w_weaken (G' := [(1, .pointer (some ⟨g1, 0, none⟩)), (2, .bool false), (23, .bool true)]) ⟨rfl, rfl, rfl, trivial⟩ ?_
    refine w_cond_t rfl rfl rfl ?_
    refine wsr ?_
    refine rv (.bool false) ?_
    refine rw_end ?_
    refine w_ret (post_ret1 rfl rfl ?_)
    have hg_ : goodN n = false := Bool.eq_false_iff.2 (fun h_ => by obtain ⟨h2_, _, _⟩ := good_iff2.1 h_; omega)
    exact ⟨by rw [bool_of hg_], hb3⟩
  ·
   have l220 : (999 < n.fr) := of_decide_eq_true c9
   refine rok c9 ?_
   refine rok c9 ?_
   refine rok c9 ?_
   refine rp c9 (.bool true) ?_
   refine rv (.bool true) ?_
   refine ro true ?_
   refine ro true ?_
   refine ro true ?_
   refine rs (.bool true) ?_
   refine rw_end ?_
   refine w_weaken (G' := [(1, .pointer (some ⟨g1, 0, none⟩)), (2, .bool false), (23, .bool true)]) ⟨rfl, rfl, rfl, trivial⟩ ?_
   refine w_cond_t rfl rfl rfl ?_
   refine wsr ?_
   refine rv (.bool false) ?_
   refine rw_end ?_
   refine w_ret (post_ret1 rfl rfl ?_)
   have hg_ : goodN n = false := Bool.eq_false_iff.2 (fun h_ => by obtain ⟨h2_, _, _⟩ := good_iff2.1 h_; omega)
   exact ⟨by rw [bool_of hg_], hb3⟩
 ·
  have l221 : (n.fr < 0) := of_decide_eq_true c7
  refine rok c7 ?_
  refine rok c7 ?_
  refine rok c7 ?_
  refine rp c7 (.bool true) ?_
  refine rv (.bool true) ?_
  refine ro true ?_
  refine ro true ?_
  refine ro true ?_
  refine rs (.bool true) ?_
  refine rv (.bool true) ?_
  refine ro true ?_
  refine ro true ?_
  refine ro true ?_
  refine rs (.bool true) ?_
  refine rw_end ?_
  refine w_weaken (G' := [(1, .pointer (some ⟨g1, 0, none⟩)), (2, .bool false), (23, .bool true)]) ⟨rfl, rfl, rfl, trivial⟩ ?_
  refine w_cond_t rfl rfl rfl ?_
  refine wsr ?_
  refine rv (.bool false) ?_
  refine rw_end ?_
  refine w_ret (post_ret1 rfl rfl ?_)
  have hg_ : goodN n = false := Bool.eq_false_iff.2 (fun h_ => by obtain ⟨h2_, _, _⟩ := good_iff2.1 h_; omega)
  exact ⟨by rw [bool_of hg_], hb3⟩
end Go.Proofs.Ytbbhdohjhipalaa.Ce
end
section
namespace Go.Proofs.Ytbbhdohjhipalaa.Ce
open Go.RowKit Go.Proofs.YtbbhdohjhipalaaW.PrintWords Go.Proofs.YtbbhdohjhipalaaW.PrintLast Go.Proofs.YtbbhdohjhipalaaW.PrintMore
open Go.Proofs.Ytbbhdohjhipalaa.Flow
set_option linter.unusedVariables false
set_option linter.unusedSimpArgs false
set_option maxHeartbeats 4000000 in
theorem reflist_calls (w : World) (n : NT) (A3 : Option Addr) (c3 : Nat) (A4 : Option Addr) (c4 : Nat) (A5 : Option Addr) (c5 : Nat) (hn3 : (Kd.int .i64).C w A3 n.nums.length n.nums) (hc3 : n.nums.length ≤ c3) (hn4 : kOp.C w A4 n.ops.length n.ops) (hc4 : n.ops.length ≤ c4) (hn5 : kEntry.C w A5 n.ents.length n.ents) (hc5 : n.ents.length ≤ c5) (hk3 : n.nums.length ≤ 1000) (hk4 : n.ops.length ≤ 1000) (hk5 : n.ents.length ≤ 1000) :
  Calls Try.prog 32 #[.agg #[.int .i64 n.kind, .int .i64 n.fr, .int .i64 n.tw, .slice A3 n.nums.length c3, .slice A4 n.ops.length c4, .slice A5 n.ents.length c5]] w fun e w' => ∃ A' c', e = .returned (.slice A' (listN n).length c') ∧ OwnK (Kd.int .i64) 3 w' w.heap.size w.heap.size A' (listN n).length c' (listN n) ∧ Below w.heap.size w w' := by
 have hko_ : ∀ j, (opsL (n.ops.take j)).length ≤ 5000 := fun j => by rw [opsL_len, List.length_take]; omega
 have hke_ : ∀ j, (entsL (n.ents.take j)).length ≤ 142000 := fun j => by have q_ := entsL_len (n.ents.take j); rw [List.length_take] at q_; omega
 refine calls_flow Try.func32 rfl 92 rfl (Nat.le_of_ble_eq_true rfl) [(0, .agg #[.int .i64 n.kind, .int .i64 n.fr, .int .i64 n.tw, .slice A3 n.nums.length c3, .slice A4 n.ops.length c4, .slice A5 n.ents.length c5])] ?_ ?_
 ·
  intro t v h; exact args_look rfl t v h
 refine wsr ?_
 refine rw_new (cs := #[.int .i64 n.kind, .int .i64 n.fr, .int .i64 n.tw, .slice A3 n.nums.length c3, .slice A4 n.ops.length c4, .slice A5 n.ents.length c5]) (t := 26) (fun g => .pointer (some ⟨g, 0, none⟩)) rfl rfl rfl rfl (by simp [go_sem, sEv, sLook, nbeq, i64_w, -List.getD_eq_getElem?_getD]) ?_
 intro g1 w2 hg6 hz5 hb3 hk4
 have hs_w2 := hb3.size
 refine rv (.slice none 0 0) ?_
 refine rw_end ?_
 refine wsr ?_
 refine ru (.pointer (some ⟨g1, 0, none⟩)) ?_
 refine rl hk4 0 (.int .i64 n.kind) ?_
 refine ru (.pointer (some ⟨g1, 1, none⟩)) ?_
 refine rl hk4 1 (.int .i64 n.fr) ?_
 refine ru (.pointer (some ⟨g1, 2, none⟩)) ?_
 refine rl hk4 2 (.int .i64 n.tw) ?_
 refine ru (.pointer (some ⟨g1, 3, none⟩)) ?_
 refine rl hk4 3 (.slice A3 n.nums.length c3) ?_
 refine rs (.int .i64 ((n.nums.length : Nat) : Int)) ?_
 refine rw_new (cs := #[.int .i64 n.kind, .int .i64 n.fr, .int .i64 n.tw, .int .i64 ((n.nums.length : Nat) : Int)]) (t := 3) (fun g => .slice (some ⟨g, 0, none⟩) 4 4) rfl rfl rfl rfl (by kernel_rfl) ?_
 intro g7 w8 hg12 hz11 hb9 hk10
 have hs_w8 := hb9.size
 have hk10r : OwnK (Kd.int .i64) 3 w8 w.heap.size g7 (some ⟨g7, 0, none⟩) 4 4 ([n.kind, n.fr, n.tw, ((n.nums.length : Nat) : Int)] : List Int) := scal_own w.heap.size hk10 (by omega) rfl rfl (by simp)
 refine rv (.slice (some ⟨g7, 0, none⟩) 4 4) ?_
 refine rw_end ?_
 refine w_weaken (G' := [(1, .pointer (some ⟨g1, 0, none⟩)), (2, .slice none 0 0), (3, .slice (some ⟨g7, 0, none⟩) 4 4)]) ⟨rfl, rfl, rfl, trivial⟩ ?_
 refine wsr ?_
 refine rv (.slice (some ⟨g7, 0, none⟩) 4 4) ?_
 refine ru (.pointer (some ⟨g1, 3, none⟩)) ?_
 refine rl (hk4.on hb9) 3 (.slice A3 n.nums.length c3) ?_
 have oA19 : OwnK (Kd.int .i64) 3 w8 w.heap.size g7 (some ⟨g7, 0, none⟩) 4 4 ([n.kind, n.fr, n.tw, ((n.nums.length : Nat) : Int)] : List Int) := hk10r
 refine rw_append_kd (d := (Kd.int .i64)) w.heap.size rfl rfl rfl (.tmp 17) (.tmp 19) rfl rfl 22 3 (.int .i64 0) 8 rfl (by kernel_rfl) (by kernel_rfl) rfl (show 0 < 1 by decide) (by decide) (fun _ _ h => h) (b := g7) rfl rfl (by omega) oA19 (Kd.C_below hn3 (chain hb3 hb9)) (chain hb3 hb9) (by omega) (by have q1_ := hko_ n.ops.length; have q2_ := hke_ n.ents.length; simp only [List.take_length] at q1_ q2_; simp only [List.length_append, List.length_cons, List.length_nil]; first | omega | (have q3_ := hko_ j; omega) | (have q4_ := hke_ i; have q5_ := nums_len (n.ents.getD i EL.zero).c; have q6_ := pr_len (n.ents.getD i EL.zero).c.h 65; omega)) ?_
 intro A13 c14 w15 hO16 hB17 hG18
 have hs_w15 := hB17.size
 have hgs_w15 := hG18.size
 have hk20 := OwnK.blk_grown (hk4.on hb9) oA19 (.inr (by decide)) hG18
 refine rv (.slice A13 ((([n.kind, n.fr, n.tw, ((n.nums.length : Nat) : Int)] : List Int) ++ n.nums).length) c14) ?_
 refine rw_end ?_
 refine w_weaken (G' := [(1, .pointer (some ⟨g1, 0, none⟩)), (2, .slice none 0 0), (3, .slice A13 ((([n.kind, n.fr, n.tw, ((n.nums.length : Nat) : Int)] : List Int) ++ n.nums).length) c14)]) ⟨rfl, rfl, rfl, trivial⟩ ?_
 refine wsr ?_
 refine rv (.slice A13 ((([n.kind, n.fr, n.tw, ((n.nums.length : Nat) : Int)] : List Int) ++ n.nums).length) c14) ?_
 refine ru (.pointer (some ⟨g1, 4, none⟩)) ?_
 refine rl hk20 4 (.slice A4 n.ops.length c4) ?_
 refine rs (.int .i64 ((n.ops.length : Nat) : Int)) ?_
 refine rw_new (cs := #[.int .i64 ((n.ops.length : Nat) : Int)]) (t := 3) (fun g => .slice (some ⟨g, 0, none⟩) 1 1) rfl rfl rfl rfl (by kernel_rfl) ?_
 intro g21 w22 hg26 hz25 hb23 hk24
 have hs_w22 := hb23.size
 have hk24r : OwnK (Kd.int .i64) 3 w22 w.heap.size g21 (some ⟨g21, 0, none⟩) 1 1 ([((n.ops.length : Nat) : Int)] : List Int) := scal_own w.heap.size hk24 (by omega) rfl rfl (by simp)
 have oA33 : OwnK (Kd.int .i64) 3 w22 w.heap.size g7 A13 ((([n.kind, n.fr, n.tw, ((n.nums.length : Nat) : Int)] : List Int) ++ n.nums).length) c14 (([n.kind, n.fr, n.tw, ((n.nums.length : Nat) : Int)] : List Int) ++ n.nums) := (OwnK.on (d := (Kd.int .i64)) hO16 hb23)
 refine rw_append_kd (d := (Kd.int .i64)) w.heap.size rfl rfl rfl (.tmp 21) (.tmp 25) rfl rfl 22 3 (.int .i64 0) 8 rfl (by kernel_rfl) (by kernel_rfl) rfl (show 0 < 1 by decide) (by decide) (fun _ _ h => h) (b := g7) rfl rfl (by omega) oA33 (OwnK.Cn (d := (Kd.int .i64)) hk24r) (chain hB17 hb23) (by omega) (by have q1_ := hko_ n.ops.length; have q2_ := hke_ n.ents.length; simp only [List.take_length] at q1_ q2_; simp only [List.length_append, List.length_cons, List.length_nil]; first | omega | (have q3_ := hko_ j; omega) | (have q4_ := hke_ i; have q5_ := nums_len (n.ents.getD i EL.zero).c; have q6_ := pr_len (n.ents.getD i EL.zero).c.h 65; omega)) ?_
 intro A27 c28 w29 hO30 hB31 hG32
 have hs_w29 := hB31.size
 have hgs_w29 := hG32.size
 have hk35 := OwnK.blk_grown (hk20.on hb23) oA33 (.inr (by decide)) hG32
 refine rv (.slice A27 (((([n.kind, n.fr, n.tw, ((n.nums.length : Nat) : Int)] : List Int) ++ n.nums) ++ ([((n.ops.length : Nat) : Int)] : List Int)).length) c28) ?_
 refine rw_end ?_
 refine w_weaken (G' := [(1, .pointer (some ⟨g1, 0, none⟩)), (2, .slice none 0 0), (3, .slice A27 (((([n.kind, n.fr, n.tw, ((n.nums.length : Nat) : Int)] : List Int) ++ n.nums) ++ ([((n.ops.length : Nat) : Int)] : List Int)).length) c28)]) ⟨rfl, rfl, rfl, trivial⟩ ?_
 refine w_seq ?_
 refine wsr ?_
 refine rv (.int .i64 0) ?_
 refine rw_end ?_
 refine w_block ?_
 have e36 : ((([n.kind, n.fr, n.tw, ((n.nums.length : Nat) : Int)] : List Int) ++ n.nums) ++ ([((n.ops.length : Nat) : Int)] : List Int)) = ((([n.kind, n.fr, n.tw, (n.nums.length : Int)] ++ n.nums) ++ [(n.ops.length : Int)]) ++ opsL (n.ops.take 0)) := by (unfold opsL; simp)
 have hO37 : OwnK (Kd.int .i64) 3 w29 w.heap.size g7 A27 ((([n.kind, n.fr, n.tw, (n.nums.length : Int)] ++ n.nums) ++ [(n.ops.length : Int)]) ++ opsL (n.ops.take 0)).length c28 ((([n.kind, n.fr, n.tw, (n.nums.length : Int)] ++ n.nums) ++ [(n.ops.length : Int)]) ++ opsL (n.ops.take 0)) := by rw [← e36]; exact OwnK.full hO30
 have en38 : ((([n.kind, n.fr, n.tw, ((n.nums.length : Nat) : Int)] : List Int) ++ n.nums) ++ ([((n.ops.length : Nat) : Int)] : List Int)).length = ((([n.kind, n.fr, n.tw, (n.nums.length : Int)] ++ n.nums) ++ [(n.ops.length : Int)]) ++ opsL (n.ops.take 0)).length := by rw [← e36] <;> exact OwnK.len (d := (Kd.int .i64)) hO30
 refine w_loop (fun m_ G W_ => ∃ (j : Nat) (A3_ : Option Addr) (c3_ : Nat), j + m_ = n.ops.length ∧ Below w.heap.size w W_ ∧ OwnK (Kd.int .i64) 3 W_ w.heap.size w.heap.size A3_ ((([n.kind, n.fr, n.tw, (n.nums.length : Int)] ++ n.nums) ++ [(n.ops.length : Int)]) ++ opsL (n.ops.take j)).length c3_ ((([n.kind, n.fr, n.tw, (n.nums.length : Int)] ++ n.nums) ++ [(n.ops.length : Int)]) ++ opsL (n.ops.take j)) ∧ (Blk W_ g1 26 #[.int .i64 n.kind, .int .i64 n.fr, .int .i64 n.tw, .slice A3 n.nums.length c3, .slice A4 n.ops.length c4, .slice A5 n.ents.length c5]) ∧ G = [(1, .pointer (some ⟨g1, 0, none⟩)), (3, .slice A3_ (((([n.kind, n.fr, n.tw, (n.nums.length : Int)] ++ n.nums) ++ [(n.ops.length : Int)]) ++ opsL (n.ops.take j)).length) c3_), (4, .int .i64 ((j : Nat) : Int))]) n.ops.length [(1, .pointer (some ⟨g1, 0, none⟩)), (3, .slice A27 (((([n.kind, n.fr, n.tw, (n.nums.length : Int)] ++ n.nums) ++ [(n.ops.length : Int)]) ++ opsL (n.ops.take 0)).length) c28), (4, .int .i64 0)] ⟨0, A27, c28, by omega, hB31, (OwnK.mono (d := (Kd.int .i64)) hO37 (by omega)), hk35, rfl⟩ ⟨rfl, (by first | rfl | (rw [← en38]; rfl)), rfl, trivial⟩ ?_
 rintro m_ G w_L39 ⟨j, A3_, c3_, hp40, hB_L39, hO3_, hf41, rfl⟩
 have hs_w_L39 := hB_L39.size
 have hltb_ := hf41.lt
 refine w_seq ?_
 refine wsr ?_
 refine rv (.int .i64 ((j : Nat) : Int)) ?_
 refine ru (.pointer (some ⟨g1, 4, none⟩)) ?_
 refine rl hf41 4 (.slice A4 n.ops.length c4) ?_
 refine rs (.int .i64 ((n.ops.length : Nat) : Int)) ?_
 refine rs (.bool (decide (((j : Nat) : Int) < ((n.ops.length : Nat) : Int)))) ?_
 refine rw_end ?_
 refine w_weaken (G' := [(1, .pointer (some ⟨g1, 0, none⟩)), (3, .slice A3_ (((([n.kind, n.fr, n.tw, (n.nums.length : Int)] ++ n.nums) ++ [(n.ops.length : Int)]) ++ opsL (n.ops.take j)).length) c3_), (4, .int .i64 ((j : Nat) : Int)), (31, .bool (decide (((j : Nat) : Int) < ((n.ops.length : Nat) : Int))))]) ⟨rfl, rfl, rfl, rfl, trivial⟩ ?_
 refine w_cond rfl rfl (fun cJ => ?_) (fun cJ => ?_)
 ·
  have l42 : (((j : Nat) : Int) < ((n.ops.length : Nat) : Int)) := of_decide_eq_true cJ
  refine w_skip ?_
  refine w_seq ?_
  refine w_block ?_
  refine wsr ?_
  refine ru (.pointer (some ⟨g1, 4, none⟩)) ?_
  refine rl hf41 4 (.slice A4 n.ops.length c4) ?_
  refine rv (.int .i64 ((j : Nat) : Int)) ?_
  obtain ⟨ad43, hA44, hc45⟩ := flat_at (Kd.C_below hn4 hB_L39) (0, 0, 0, 0, 0) j (by first | omega | decide)
  subst hA44
  have he46 : w_L39.cell? (ad43.add (j * 5)) = some (.int .i64 ((n.ops.getD j (0, 0, 0, 0, 0)).1)) := cell_0 (hc45 0 _ rfl)
  have he47 : w_L39.cell? ⟨(ad43.add (j * 5)).block, (ad43.add (j * 5)).off + 1, none⟩ = some (.int .i64 ((n.ops.getD j (0, 0, 0, 0, 0)).2.1)) := cell_j (hc45 1 _ rfl)
  have he48 : w_L39.cell? ⟨(ad43.add (j * 5)).block, (ad43.add (j * 5)).off + 2, none⟩ = some (.int .i64 ((n.ops.getD j (0, 0, 0, 0, 0)).2.2.1)) := cell_j (hc45 2 _ rfl)
  have he49 : w_L39.cell? ⟨(ad43.add (j * 5)).block, (ad43.add (j * 5)).off + 3, none⟩ = some (.int .i64 ((n.ops.getD j (0, 0, 0, 0, 0)).2.2.2.1)) := cell_j (hc45 3 _ rfl)
  have he50 : w_L39.cell? ⟨(ad43.add (j * 5)).block, (ad43.add (j * 5)).off + 4, none⟩ = some (.int .i64 ((n.ops.getD j (0, 0, 0, 0, 0)).2.2.2.2)) := cell_j (hc45 4 _ rfl)
  refine rz (.pointer (some (ad43.add (j * 5)))) (run_as (run_at_k (P := Try.prog) (e := 73) (sz := 5) (by kernel_rfl) (by kernel_rfl) j (by first | omega | decide) _)) ?_
  refine rz (.agg #[.int .i64 ((n.ops.getD j (0, 0, 0, 0, 0)).1), .int .i64 ((n.ops.getD j (0, 0, 0, 0, 0)).2.1), .int .i64 ((n.ops.getD j (0, 0, 0, 0, 0)).2.2.1), .int .i64 ((n.ops.getD j (0, 0, 0, 0, 0)).2.2.2.1), .int .i64 ((n.ops.getD j (0, 0, 0, 0, 0)).2.2.2.2)]) (by have e0_ := cellOn he46 (Below.refl _ _); have e1_ := cellOn he47 (Below.refl _ _); have e2_ := cellOn he48 (Below.refl _ _); have e3_ := cellOn he49 (Below.refl _ _); have e4_ := cellOn he50 (Below.refl _ _); simp [go_sem, sEv, sLook, nbeq, i64_w, -List.getD_eq_getElem?_getD, e0_, e1_, e2_, e3_, e4_, Try.underlying73]) ?_
  refine rw_new (cs := #[.int .i64 0, .int .i64 0, .int .i64 0, .int .i64 0, .int .i64 0]) (t := 73) (fun g => .pointer (some ⟨g, 0, none⟩)) rfl rfl rfl rfl (by kernel_rfl) ?_
  intro g51 w52 hg56 hz55 hb53 hk54
  have hs_w52 := hb53.size
  have hb60 := hk54
  refine rw_store (g := g51) (i := 0) (l := [.int .i64 ((n.ops.getD j (0, 0, 0, 0, 0)).1), .int .i64 ((n.ops.getD j (0, 0, 0, 0, 0)).2.1), .int .i64 ((n.ops.getD j (0, 0, 0, 0, 0)).2.2.1), .int .i64 ((n.ops.getD j (0, 0, 0, 0, 0)).2.2.2.1), .int .i64 ((n.ops.getD j (0, 0, 0, 0, 0)).2.2.2.2)]) (cs' := #[.int .i64 ((n.ops.getD j (0, 0, 0, 0, 0)).1), .int .i64 ((n.ops.getD j (0, 0, 0, 0, 0)).2.1), .int .i64 ((n.ops.getD j (0, 0, 0, 0, 0)).2.2.1), .int .i64 ((n.ops.getD j (0, 0, 0, 0, 0)).2.2.2.1), .int .i64 ((n.ops.getD j (0, 0, 0, 0, 0)).2.2.2.2)]) rfl rfl rfl hb60 rfl (by have e0_ := hb60.cellv (i := 0) (v := (.int .i64 0 : Value)) rfl; have f0_ := hb60.frozen 0; have e1_ := hb60.cellv (i := 1) (v := (.int .i64 0 : Value)) rfl; have f1_ := hb60.frozen 1; have e2_ := hb60.cellv (i := 2) (v := (.int .i64 0 : Value)) rfl; have f2_ := hb60.frozen 2; have e3_ := hb60.cellv (i := 3) (v := (.int .i64 0 : Value)) rfl; have f3_ := hb60.frozen 3; have e4_ := hb60.cellv (i := 4) (v := (.int .i64 0 : Value)) rfl; have f4_ := hb60.frozen 4; simp [go_sem, sEv, sLook, nbeq, i64_w, -List.getD_eq_getElem?_getD, putCells, e0_, f0_, e1_, f1_, e2_, f2_, e3_, f3_, e4_, f4_, Try.underlying73]) ?_
  intro w57 hk58 hk59
  have hs_w57 := hk58.size
  refine rw_end ?_
  refine w_weaken (G' := [(1, .pointer (some ⟨g1, 0, none⟩)), (3, .slice A3_ (((([n.kind, n.fr, n.tw, (n.nums.length : Int)] ++ n.nums) ++ [(n.ops.length : Int)]) ++ opsL (n.ops.take j)).length) c3_), (4, .int .i64 ((j : Nat) : Int)), (5, .pointer (some ⟨g51, 0, none⟩))]) ⟨rfl, rfl, rfl, rfl, trivial⟩ ?_
  refine w_region ?_
  refine rv (.slice A3_ (((([n.kind, n.fr, n.tw, (n.nums.length : Int)] ++ n.nums) ++ [(n.ops.length : Int)]) ++ opsL (n.ops.take j)).length) c3_) ?_
  refine ru (.pointer (some ⟨g51, 0, none⟩)) ?_
  refine rl hk59 0 (.int .i64 ((n.ops.getD j (0, 0, 0, 0, 0)).1)) ?_
  refine ru (.pointer (some ⟨g51, 1, none⟩)) ?_
  refine rl hk59 1 (.int .i64 ((n.ops.getD j (0, 0, 0, 0, 0)).2.1)) ?_
  refine ru (.pointer (some ⟨g51, 2, none⟩)) ?_
  refine rl hk59 2 (.int .i64 ((n.ops.getD j (0, 0, 0, 0, 0)).2.2.1)) ?_
  refine ru (.pointer (some ⟨g51, 3, none⟩)) ?_
  refine rl hk59 3 (.int .i64 ((n.ops.getD j (0, 0, 0, 0, 0)).2.2.2.1)) ?_
  refine ru (.pointer (some ⟨g51, 4, none⟩)) ?_
  refine rl hk59 4 (.int .i64 ((n.ops.getD j (0, 0, 0, 0, 0)).2.2.2.2)) ?_
  refine rw_new (cs := #[.int .i64 ((n.ops.getD j (0, 0, 0, 0, 0)).1), .int .i64 ((n.ops.getD j (0, 0, 0, 0, 0)).2.1), .int .i64 ((n.ops.getD j (0, 0, 0, 0, 0)).2.2.1), .int .i64 ((n.ops.getD j (0, 0, 0, 0, 0)).2.2.2.1), .int .i64 ((n.ops.getD j (0, 0, 0, 0, 0)).2.2.2.2)]) (t := 3) (fun g => .slice (some ⟨g, 0, none⟩) 5 5) rfl rfl rfl rfl (by kernel_rfl) ?_
  intro g61 w62 hg66 hz65 hb63 hk64
  have hs_w62 := hb63.size
  have hk64r : OwnK (Kd.int .i64) 3 w62 w.heap.size g61 (some ⟨g61, 0, none⟩) 5 5 ([(n.ops.getD j (0, 0, 0, 0, 0)).1, (n.ops.getD j (0, 0, 0, 0, 0)).2.1, (n.ops.getD j (0, 0, 0, 0, 0)).2.2.1, (n.ops.getD j (0, 0, 0, 0, 0)).2.2.2.1, (n.ops.getD j (0, 0, 0, 0, 0)).2.2.2.2] : List Int) := scal_own w.heap.size hk64 (by omega) rfl rfl (by simp)
  have oA73 : OwnK (Kd.int .i64) 3 w62 w.heap.size w.heap.size A3_ (((([n.kind, n.fr, n.tw, (n.nums.length : Int)] ++ n.nums) ++ [(n.ops.length : Int)]) ++ opsL (n.ops.take j)).length) c3_ ((([n.kind, n.fr, n.tw, (n.nums.length : Int)] ++ n.nums) ++ [(n.ops.length : Int)]) ++ opsL (n.ops.take j)) := (OwnK.on (d := (Kd.int .i64)) (own_keep (d := (Kd.int .i64)) (OwnK.on (d := (Kd.int .i64)) hO3_ hb53) hk54 (by decide) hk58) hb63)
  refine rw_append_kd (d := (Kd.int .i64)) w.heap.size rfl rfl rfl (.tmp 39) (.tmp 50) rfl rfl 22 3 (.int .i64 0) 8 rfl (by kernel_rfl) (by kernel_rfl) rfl (show 0 < 1 by decide) (by decide) (fun _ _ h => h) (b := w.heap.size) rfl rfl (by omega) oA73 (OwnK.Cn (d := (Kd.int .i64)) hk64r) (chain (hk58.below (by omega) (chain hB_L39 hb53)) hb63) (by omega) (by have q1_ := hko_ n.ops.length; have q2_ := hke_ n.ents.length; simp only [List.take_length] at q1_ q2_; simp only [List.length_append, List.length_cons, List.length_nil]; first | omega | (have q3_ := hko_ j; omega) | (have q4_ := hke_ i; have q5_ := nums_len (n.ents.getD i EL.zero).c; have q6_ := pr_len (n.ents.getD i EL.zero).c.h 65; omega)) ?_
  intro A67 c68 w69 hO70 hB71 hG72
  have hs_w69 := hB71.size
  have hgs_w69 := hG72.size
  have hk75 := OwnK.blk_grown (((hf41.on hb53).keep hk58 (by omega)).on hb63) oA73 (.inr (by decide)) hG72
  have hk76 := OwnK.blk_grown (hk59.on hb63) oA73 (.inr (by decide)) hG72
  refine rv (.slice A67 ((((([n.kind, n.fr, n.tw, (n.nums.length : Int)] ++ n.nums) ++ [(n.ops.length : Int)]) ++ opsL (n.ops.take j)) ++ ([(n.ops.getD j (0, 0, 0, 0, 0)).1, (n.ops.getD j (0, 0, 0, 0, 0)).2.1, (n.ops.getD j (0, 0, 0, 0, 0)).2.2.1, (n.ops.getD j (0, 0, 0, 0, 0)).2.2.2.1, (n.ops.getD j (0, 0, 0, 0, 0)).2.2.2.2] : List Int)).length) c68) ?_
  refine rw_end ?_
  refine w_weaken (G' := [(1, .pointer (some ⟨g1, 0, none⟩)), (3, .slice A67 ((((([n.kind, n.fr, n.tw, (n.nums.length : Int)] ++ n.nums) ++ [(n.ops.length : Int)]) ++ opsL (n.ops.take j)) ++ ([(n.ops.getD j (0, 0, 0, 0, 0)).1, (n.ops.getD j (0, 0, 0, 0, 0)).2.1, (n.ops.getD j (0, 0, 0, 0, 0)).2.2.1, (n.ops.getD j (0, 0, 0, 0, 0)).2.2.2.1, (n.ops.getD j (0, 0, 0, 0, 0)).2.2.2.2] : List Int)).length) c68), (4, .int .i64 ((j : Nat) : Int))]) ⟨rfl, rfl, rfl, trivial⟩ ?_
  refine w_blk ?_
  refine w_region ?_
  refine rv (.int .i64 ((j : Nat) : Int)) ?_
  refine rz (.int .i64 ((j + 1 : Nat) : Int)) (by simp [go_sem, sEv, sLook, nbeq, i64_w, -List.getD_eq_getElem?_getD]; exact wrap_id (by omega) (by omega)) ?_
  refine rv (.int .i64 ((j + 1 : Nat) : Int)) ?_
  refine rw_end ?_
  have e77 : (((([n.kind, n.fr, n.tw, (n.nums.length : Int)] ++ n.nums) ++ [(n.ops.length : Int)]) ++ opsL (n.ops.take j)) ++ ([(n.ops.getD j (0, 0, 0, 0, 0)).1, (n.ops.getD j (0, 0, 0, 0, 0)).2.1, (n.ops.getD j (0, 0, 0, 0, 0)).2.2.1, (n.ops.getD j (0, 0, 0, 0, 0)).2.2.2.1, (n.ops.getD j (0, 0, 0, 0, 0)).2.2.2.2] : List Int)) = ((([n.kind, n.fr, n.tw, (n.nums.length : Int)] ++ n.nums) ++ [(n.ops.length : Int)]) ++ opsL (n.ops.take (j + 1))) := by (unfold opsL; rw [flat_snoc opL n.ops j (0, 0, 0, 0, 0) (by omega)]; simp only [List.append_assoc]; rfl)
  have hO78 : OwnK (Kd.int .i64) 3 w69 w.heap.size w.heap.size A67 ((([n.kind, n.fr, n.tw, (n.nums.length : Int)] ++ n.nums) ++ [(n.ops.length : Int)]) ++ opsL (n.ops.take (j + 1))).length c68 ((([n.kind, n.fr, n.tw, (n.nums.length : Int)] ++ n.nums) ++ [(n.ops.length : Int)]) ++ opsL (n.ops.take (j + 1))) := by rw [← e77]; exact OwnK.full hO70
  have en79 : (((([n.kind, n.fr, n.tw, (n.nums.length : Int)] ++ n.nums) ++ [(n.ops.length : Int)]) ++ opsL (n.ops.take j)) ++ ([(n.ops.getD j (0, 0, 0, 0, 0)).1, (n.ops.getD j (0, 0, 0, 0, 0)).2.1, (n.ops.getD j (0, 0, 0, 0, 0)).2.2.1, (n.ops.getD j (0, 0, 0, 0, 0)).2.2.2.1, (n.ops.getD j (0, 0, 0, 0, 0)).2.2.2.2] : List Int)).length = ((([n.kind, n.fr, n.tw, (n.nums.length : Int)] ++ n.nums) ++ [(n.ops.length : Int)]) ++ opsL (n.ops.take (j + 1))).length := by rw [← e77] <;> exact OwnK.len (d := (Kd.int .i64)) hO70
  exact w_back (m_ - 1) [(1, .pointer (some ⟨g1, 0, none⟩)), (3, .slice A67 (((([n.kind, n.fr, n.tw, (n.nums.length : Int)] ++ n.nums) ++ [(n.ops.length : Int)]) ++ opsL (n.ops.take (j + 1))).length) c68), (4, .int .i64 ((j + 1 : Nat) : Int))] (by omega) ⟨rfl, (by first | rfl | (rw [← en79]; rfl)), rfl, trivial⟩ ⟨(j + 1), A67, c68, by omega, hB71, (OwnK.mono (d := (Kd.int .i64)) hO78 (by omega)), hk75, rfl⟩
 ·
  have l80 : ¬ (((j : Nat) : Int) < ((n.ops.length : Nat) : Int)) := of_decide_eq_false cJ
  refine w_exit rfl ?_
  refine wsr ?_
  refine rv (.slice A3_ (((([n.kind, n.fr, n.tw, (n.nums.length : Int)] ++ n.nums) ++ [(n.ops.length : Int)]) ++ opsL (n.ops.take j)).length) c3_) ?_
  refine ru (.pointer (some ⟨g1, 5, none⟩)) ?_
  refine rl hf41 5 (.slice A5 n.ents.length c5) ?_
  refine rs (.int .i64 ((n.ents.length : Nat) : Int)) ?_
  refine rw_new (cs := #[.int .i64 ((n.ents.length : Nat) : Int)]) (t := 3) (fun g => .slice (some ⟨g, 0, none⟩) 1 1) rfl rfl rfl rfl (by kernel_rfl) ?_
  intro g81 w82 hg86 hz85 hb83 hk84
  have hs_w82 := hb83.size
  have hk84r : OwnK (Kd.int .i64) 3 w82 w.heap.size g81 (some ⟨g81, 0, none⟩) 1 1 ([((n.ents.length : Nat) : Int)] : List Int) := scal_own w.heap.size hk84 (by omega) rfl rfl (by simp)
  have oA93 : OwnK (Kd.int .i64) 3 w82 w.heap.size w.heap.size A3_ (((([n.kind, n.fr, n.tw, (n.nums.length : Int)] ++ n.nums) ++ [(n.ops.length : Int)]) ++ opsL (n.ops.take j)).length) c3_ ((([n.kind, n.fr, n.tw, (n.nums.length : Int)] ++ n.nums) ++ [(n.ops.length : Int)]) ++ opsL (n.ops.take j)) := (OwnK.on (d := (Kd.int .i64)) hO3_ hb83)
  refine rw_append_kd (d := (Kd.int .i64)) w.heap.size rfl rfl rfl (.tmp 52) (.tmp 56) rfl rfl 22 3 (.int .i64 0) 8 rfl (by kernel_rfl) (by kernel_rfl) rfl (show 0 < 1 by decide) (by decide) (fun _ _ h => h) (b := w.heap.size) rfl rfl (by omega) oA93 (OwnK.Cn (d := (Kd.int .i64)) hk84r) (chain hB_L39 hb83) (by omega) (by have q1_ := hko_ n.ops.length; have q2_ := hke_ n.ents.length; simp only [List.take_length] at q1_ q2_; simp only [List.length_append, List.length_cons, List.length_nil]; first | omega | (have q3_ := hko_ j; omega) | (have q4_ := hke_ i; have q5_ := nums_len (n.ents.getD i EL.zero).c; have q6_ := pr_len (n.ents.getD i EL.zero).c.h 65; omega)) ?_
  intro A87 c88 w89 hO90 hB91 hG92
  have hs_w89 := hB91.size
  have hgs_w89 := hG92.size
  have hk95 := OwnK.blk_grown (hf41.on hb83) oA93 (.inr (by decide)) hG92
  refine rv (.slice A87 ((((([n.kind, n.fr, n.tw, (n.nums.length : Int)] ++ n.nums) ++ [(n.ops.length : Int)]) ++ opsL (n.ops.take j)) ++ ([((n.ents.length : Nat) : Int)] : List Int)).length) c88) ?_
  refine rw_end ?_
  refine w_weaken (G' := [(1, .pointer (some ⟨g1, 0, none⟩)), (3, .slice A87 ((((([n.kind, n.fr, n.tw, (n.nums.length : Int)] ++ n.nums) ++ [(n.ops.length : Int)]) ++ opsL (n.ops.take j)) ++ ([((n.ents.length : Nat) : Int)] : List Int)).length) c88)]) ⟨rfl, rfl, trivial⟩ ?_
  refine w_seq ?_
  refine wsr ?_
  refine rv (.int .i64 0) ?_
  refine rw_end ?_
  refine w_block ?_
  have e96 : (((([n.kind, n.fr, n.tw, (n.nums.length : Int)] ++ n.nums) ++ [(n.ops.length : Int)]) ++ opsL (n.ops.take j)) ++ ([((n.ents.length : Nat) : Int)] : List Int)) = ((((([n.kind, n.fr, n.tw, (n.nums.length : Int)] ++ n.nums) ++ [(n.ops.length : Int)]) ++ opsL n.ops) ++ [(n.ents.length : Int)]) ++ entsL (n.ents.take 0)) := by (unfold entsL; rw [List.take_of_length_le (by omega)]; simp)
  have hO97 : OwnK (Kd.int .i64) 3 w89 w.heap.size w.heap.size A87 ((((([n.kind, n.fr, n.tw, (n.nums.length : Int)] ++ n.nums) ++ [(n.ops.length : Int)]) ++ opsL n.ops) ++ [(n.ents.length : Int)]) ++ entsL (n.ents.take 0)).length c88 ((((([n.kind, n.fr, n.tw, (n.nums.length : Int)] ++ n.nums) ++ [(n.ops.length : Int)]) ++ opsL n.ops) ++ [(n.ents.length : Int)]) ++ entsL (n.ents.take 0)) := by rw [← e96]; exact OwnK.full hO90
  have en98 : (((([n.kind, n.fr, n.tw, (n.nums.length : Int)] ++ n.nums) ++ [(n.ops.length : Int)]) ++ opsL (n.ops.take j)) ++ ([((n.ents.length : Nat) : Int)] : List Int)).length = ((((([n.kind, n.fr, n.tw, (n.nums.length : Int)] ++ n.nums) ++ [(n.ops.length : Int)]) ++ opsL n.ops) ++ [(n.ents.length : Int)]) ++ entsL (n.ents.take 0)).length := by rw [← e96] <;> exact OwnK.len (d := (Kd.int .i64)) hO90
  refine w_loop (fun m_ G W_ => ∃ (i : Nat) (A3_ : Option Addr) (c3_ : Nat), i + m_ = n.ents.length ∧ Below w.heap.size w W_ ∧ OwnK (Kd.int .i64) 3 W_ w.heap.size w.heap.size A3_ ((((([n.kind, n.fr, n.tw, (n.nums.length : Int)] ++ n.nums) ++ [(n.ops.length : Int)]) ++ opsL n.ops) ++ [(n.ents.length : Int)]) ++ entsL (n.ents.take i)).length c3_ ((((([n.kind, n.fr, n.tw, (n.nums.length : Int)] ++ n.nums) ++ [(n.ops.length : Int)]) ++ opsL n.ops) ++ [(n.ents.length : Int)]) ++ entsL (n.ents.take i)) ∧ (Blk W_ g1 26 #[.int .i64 n.kind, .int .i64 n.fr, .int .i64 n.tw, .slice A3 n.nums.length c3, .slice A4 n.ops.length c4, .slice A5 n.ents.length c5]) ∧ G = [(1, .pointer (some ⟨g1, 0, none⟩)), (3, .slice A3_ (((((([n.kind, n.fr, n.tw, (n.nums.length : Int)] ++ n.nums) ++ [(n.ops.length : Int)]) ++ opsL n.ops) ++ [(n.ents.length : Int)]) ++ entsL (n.ents.take i)).length) c3_), (6, .int .i64 ((i : Nat) : Int))]) n.ents.length [(1, .pointer (some ⟨g1, 0, none⟩)), (3, .slice A87 (((((([n.kind, n.fr, n.tw, (n.nums.length : Int)] ++ n.nums) ++ [(n.ops.length : Int)]) ++ opsL n.ops) ++ [(n.ents.length : Int)]) ++ entsL (n.ents.take 0)).length) c88), (6, .int .i64 0)] ⟨0, A87, c88, by omega, hB91, (OwnK.mono (d := (Kd.int .i64)) hO97 (by omega)), hk95, rfl⟩ ⟨rfl, (by first | rfl | (rw [← en98]; rfl)), rfl, trivial⟩ ?_
  rintro m_ G w_L99 ⟨i, A3_, c3_, hp100, hB_L99, hO3_, hf101, rfl⟩
  have hs_w_L99 := hB_L99.size
  have hltb_ := hf101.lt
  refine w_seq ?_
  refine wsr ?_
  refine rv (.int .i64 ((i : Nat) : Int)) ?_
  refine ru (.pointer (some ⟨g1, 5, none⟩)) ?_
  refine rl hf101 5 (.slice A5 n.ents.length c5) ?_
  refine rs (.int .i64 ((n.ents.length : Nat) : Int)) ?_
  refine rs (.bool (decide (((i : Nat) : Int) < ((n.ents.length : Nat) : Int)))) ?_
  refine rw_end ?_
  refine w_weaken (G' := [(1, .pointer (some ⟨g1, 0, none⟩)), (3, .slice A3_ (((((([n.kind, n.fr, n.tw, (n.nums.length : Int)] ++ n.nums) ++ [(n.ops.length : Int)]) ++ opsL n.ops) ++ [(n.ents.length : Int)]) ++ entsL (n.ents.take i)).length) c3_), (6, .int .i64 ((i : Nat) : Int)), (62, .bool (decide (((i : Nat) : Int) < ((n.ents.length : Nat) : Int))))]) ⟨rfl, rfl, rfl, rfl, trivial⟩ ?_
  refine w_cond rfl rfl (fun cI => ?_) (fun cI => ?_)
  ·
   have l102 : (((i : Nat) : Int) < ((n.ents.length : Nat) : Int)) := of_decide_eq_true cI
   refine w_skip ?_
   refine w_seq ?_
   refine w_block ?_
   refine w_seq ?_
   obtain ⟨ad103, hA104, hc105⟩ := flat_at (Kd.C_below hn5 hB_L99) EL.zero i (by first | omega | decide)
   subst hA104
   obtain ⟨ad106, hA107, hc108⟩ := flat_at (Kd.C_below hn5 hB_L99) EL.zero i (by first | omega | decide)
   obtain rfl := Option.some.inj hA107
   refine w_drawk (M := [0, 0, 2, 0, 14, 30, 62, 126, 0, 256, 0, 1792, 3840, 7936, 16128, 32766, 65535, 131071]) (ss := [Is (.slice A3_ (((((([n.kind, n.fr, n.tw, (n.nums.length : Int)] ++ n.nums) ++ [(n.ops.length : Int)]) ++ opsL n.ops) ++ [(n.ents.length : Int)]) ++ entsL (n.ents.take i)).length) c3_), Is (.pointer (some ⟨g1, 5, none⟩)), Is (.slice (some ad103) n.ents.length c5), Is (.int .i64 ((i : Nat) : Int)), Is (.pointer (some (ad103.add (i * 76)))), Is (.pointer (some (ad103.add (i * 76)))), Is (.pointer (some (ad103.add (i * 76)))), Is (.int .i64 ((n.ents.getD i EL.zero).win)), Is (.pointer (some ⟨g1, 5, none⟩)), Is (.slice (some ad103) n.ents.length c5), Is (.int .i64 ((i : Nat) : Int)), Is (.pointer (some (ad103.add (i * 76)))), Is (.pointer (some (ad103.add (i * 76)))), Is (.pointer (some ⟨(ad103.add (i * 76)).block, (ad103.add (i * 76)).off + 1, none⟩)), Is (.int .i64 ((n.ents.getD i EL.zero).key)), SlcSpec w_L99.heap.size 3 #[.int .i64 ((n.ents.getD i EL.zero).win), .int .i64 ((n.ents.getD i EL.zero).key)] 2]) 16 rfl (by decide +kernel) ?_
   refine tr (.slice A3_ (((((([n.kind, n.fr, n.tw, (n.nums.length : Int)] ++ n.nums) ++ [(n.ops.length : Int)]) ++ opsL n.ops) ++ [(n.ents.length : Int)]) ++ entsL (n.ents.take i)).length) c3_) ?_
   refine t_is (.pointer (some ⟨g1, 5, none⟩)) rfl rfl rfl rfl (fun W_ hW_ F_ => by simp [go_sem, sEv, sLook, nbeq, i64_w, -List.getD_eq_getElem?_getD, Try.underlying26]) ?_
   refine t_is (.slice (some ad103) n.ents.length c5) rfl rfl rfl rfl (fun W_ hW_ F_ => by have eb_ := (hf101.on (below_of_drew hW_)); have e0_ := eb_.cellv (i := 5) (v := (.slice (some ad103) n.ents.length c5 : Value)) rfl; simp [go_sem, sEv, sLook, nbeq, i64_w, -List.getD_eq_getElem?_getD, e0_, Try.underlying24]) ?_
   refine tr (.int .i64 ((i : Nat) : Int)) ?_
   refine t_is (.pointer (some (ad103.add (i * 76)))) rfl rfl rfl rfl (fun W_ hW_ F_ => (run_as (run_at_k (P := Try.prog) (e := 83) (sz := 76) (by kernel_rfl) (by kernel_rfl) i (by first | omega | decide) _))) ?_
   refine t_is (.pointer (some (ad103.add (i * 76)))) rfl rfl rfl rfl (fun W_ hW_ F_ => by simp [go_sem, sEv, sLook, nbeq, i64_w, -List.getD_eq_getElem?_getD, Try.underlying83]) ?_
   refine t_is (.pointer (some (ad103.add (i * 76)))) rfl rfl rfl rfl (fun W_ hW_ F_ => by simp [go_sem, sEv, sLook, nbeq, i64_w, -List.getD_eq_getElem?_getD, Try.underlying55]) ?_
   refine t_is (.int .i64 ((n.ents.getD i EL.zero).win)) rfl rfl rfl rfl (fun W_ hW_ F_ => (by have e0_ := cellOn (cell_0 (hc105 0 _ rfl)) (chain (Below.refl _ _) (below_of_drew hW_)); simp [go_sem, sEv, sLook, nbeq, i64_w, -List.getD_eq_getElem?_getD, e0_])) ?_
   refine t_is (.pointer (some ⟨g1, 5, none⟩)) rfl rfl rfl rfl (fun W_ hW_ F_ => by simp [go_sem, sEv, sLook, nbeq, i64_w, -List.getD_eq_getElem?_getD, Try.underlying26]) ?_
   refine t_is (.slice (some ad103) n.ents.length c5) rfl rfl rfl rfl (fun W_ hW_ F_ => by have eb_ := (hf101.on (below_of_drew hW_)); have e0_ := eb_.cellv (i := 5) (v := (.slice (some ad103) n.ents.length c5 : Value)) rfl; simp [go_sem, sEv, sLook, nbeq, i64_w, -List.getD_eq_getElem?_getD, e0_, Try.underlying24]) ?_
   refine tr (.int .i64 ((i : Nat) : Int)) ?_
   refine t_is (.pointer (some (ad103.add (i * 76)))) rfl rfl rfl rfl (fun W_ hW_ F_ => (run_as (run_at_k (P := Try.prog) (e := 83) (sz := 76) (by kernel_rfl) (by kernel_rfl) i (by first | omega | decide) _))) ?_
   refine t_is (.pointer (some (ad103.add (i * 76)))) rfl rfl rfl rfl (fun W_ hW_ F_ => by simp [go_sem, sEv, sLook, nbeq, i64_w, -List.getD_eq_getElem?_getD, Try.underlying83]) ?_
   refine t_is (.pointer (some ⟨(ad103.add (i * 76)).block, (ad103.add (i * 76)).off + 1, none⟩)) rfl rfl rfl rfl (fun W_ hW_ F_ => by simp [go_sem, sEv, sLook, nbeq, i64_w, -List.getD_eq_getElem?_getD, Try.underlying55]) ?_
   refine t_is (.int .i64 ((n.ents.getD i EL.zero).key)) rfl rfl rfl rfl (fun W_ hW_ F_ => (by have e0_ := cellOn (cell_j (hc108 1 _ rfl)) (chain (Below.refl _ _) (below_of_drew hW_)); simp [go_sem, sEv, sLook, nbeq, i64_w, -List.getD_eq_getElem?_getD, e0_])) ?_
   refine t_val (SlcSpec w_L99.heap.size 3 #[.int .i64 ((n.ents.getD i EL.zero).win), .int .i64 ((n.ents.getD i EL.zero).key)] 2) rfl rfl rfl rfl (fun W_ hW_ F_ => slc_gives _ _ _ _ (below_of_drew hW_).size (by kernel_rfl)) ?_
   rintro _ ⟨g109, rfl⟩
   refine t_tail ?_
   intro w112 hb113_ F114
   have hb113 := below_of_drew hb113_
   have hs_w112 := hb113.size
   obtain ⟨hge111, hk110⟩ := slc_fact (F114 15 _ _ rfl)
   have hlt_g109 := hk110.lt
   clear F114
   have hk110r : OwnK (Kd.int .i64) 3 w112 w.heap.size g109 (some ⟨g109, 0, none⟩) 2 2 ([(n.ents.getD i EL.zero).win, (n.ents.getD i EL.zero).key] : List Int) := scal_own w.heap.size hk110 (by omega) rfl rfl (by simp)
   have oA121 : OwnK (Kd.int .i64) 3 w112 w.heap.size w.heap.size A3_ (((((([n.kind, n.fr, n.tw, (n.nums.length : Int)] ++ n.nums) ++ [(n.ops.length : Int)]) ++ opsL n.ops) ++ [(n.ents.length : Int)]) ++ entsL (n.ents.take i)).length) c3_ ((((([n.kind, n.fr, n.tw, (n.nums.length : Int)] ++ n.nums) ++ [(n.ops.length : Int)]) ++ opsL n.ops) ++ [(n.ents.length : Int)]) ++ entsL (n.ents.take i)) := (OwnK.on (d := (Kd.int .i64)) hO3_ hb113)
   refine rw_append_kd (d := (Kd.int .i64)) w.heap.size rfl rfl rfl (.tmp 65) (.tmp 80) rfl rfl 22 3 (.int .i64 0) 8 rfl (by kernel_rfl) (by kernel_rfl) rfl (show 0 < 1 by decide) (by decide) (fun _ _ h => h) (b := w.heap.size) rfl rfl (by omega) oA121 (OwnK.Cn (d := (Kd.int .i64)) hk110r) (chain hB_L99 hb113) (by omega) (by have q1_ := hko_ n.ops.length; have q2_ := hke_ n.ents.length; simp only [List.take_length] at q1_ q2_; simp only [List.length_append, List.length_cons, List.length_nil]; first | omega | (have q3_ := hko_ j; omega) | (have q4_ := hke_ i; have q5_ := nums_len (n.ents.getD i EL.zero).c; have q6_ := pr_len (n.ents.getD i EL.zero).c.h 65; omega)) ?_
   intro A115 c116 w117 hO118 hB119 hG120
   have hs_w117 := hB119.size
   have hgs_w117 := hG120.size
   have hk123 := OwnK.blk_grown (hf101.on hb113) oA121 (.inr (by decide)) hG120
   refine rv (.slice A115 ((((((([n.kind, n.fr, n.tw, (n.nums.length : Int)] ++ n.nums) ++ [(n.ops.length : Int)]) ++ opsL n.ops) ++ [(n.ents.length : Int)]) ++ entsL (n.ents.take i)) ++ ([(n.ents.getD i EL.zero).win, (n.ents.getD i EL.zero).key] : List Int)).length) c116) ?_
   refine rw_end ?_
   refine w_weaken (G' := [(1, .pointer (some ⟨g1, 0, none⟩)), (3, .slice A115 ((((((([n.kind, n.fr, n.tw, (n.nums.length : Int)] ++ n.nums) ++ [(n.ops.length : Int)]) ++ opsL n.ops) ++ [(n.ents.length : Int)]) ++ entsL (n.ents.take i)) ++ ([(n.ents.getD i EL.zero).win, (n.ents.getD i EL.zero).key] : List Int)).length) c116), (6, .int .i64 ((i : Nat) : Int))]) ⟨rfl, rfl, rfl, trivial⟩ ?_
   refine w_region ?_
   refine rv (.slice A115 ((((((([n.kind, n.fr, n.tw, (n.nums.length : Int)] ++ n.nums) ++ [(n.ops.length : Int)]) ++ opsL n.ops) ++ [(n.ents.length : Int)]) ++ entsL (n.ents.take i)) ++ ([(n.ents.getD i EL.zero).win, (n.ents.getD i EL.zero).key] : List Int)).length) c116) ?_
   refine ru (.pointer (some ⟨g1, 5, none⟩)) ?_
   refine rl hk123 5 (.slice (some ad103) n.ents.length c5) ?_
   refine rv (.int .i64 ((i : Nat) : Int)) ?_
   obtain ⟨ad124, hA125, hc126⟩ := flat_at (Kd.C_below hn5 hB119) EL.zero i (by first | omega | decide)
   obtain rfl := Option.some.inj hA125
   refine rz (.pointer (some (ad103.add (i * 76)))) (run_as (run_at_k (P := Try.prog) (e := 83) (sz := 76) (by kernel_rfl) (by kernel_rfl) i (by first | omega | decide) _)) ?_
   refine ru (.pointer (some ⟨(ad103.add (i * 76)).block, (ad103.add (i * 76)).off + 2, none⟩)) ?_
   refine rz (.agg (carr ((n.ents.getD i EL.zero).c))) (run_as (load_eelc (x := (n.ents.getD i EL.zero)) (fun j u hj => cellOn (hc126 j u hj) (Below.refl _ _)))) ?_
   refine rw_call rfl rfl rfl rfl (f := 54) (args := #[.agg (carr ((n.ents.getD i EL.zero).c))]) (by simp [go_sem, sEv, sLook, nbeq, i64_w, -List.getD_eq_getElem?_getD]) ((rnums_calls w117 ((n.ents.getD i EL.zero).c))) ?_
   rintro e_ w129 ⟨A127, c128, rfl, hO130, hB131⟩
   refine ⟨_, rfl, ?_⟩
   have hs_w129 := hB131.size
   have hL132 : OwnK (Kd.int .i64) 3 w129 w.heap.size w117.heap.size A127 (numsC ((n.ents.getD i EL.zero).c)).length c128 (numsC ((n.ents.getD i EL.zero).c)) := OwnK.lower hO130 (by omega)
   have oA139 : OwnK (Kd.int .i64) 3 w129 w.heap.size w.heap.size A115 ((((((([n.kind, n.fr, n.tw, (n.nums.length : Int)] ++ n.nums) ++ [(n.ops.length : Int)]) ++ opsL n.ops) ++ [(n.ents.length : Int)]) ++ entsL (n.ents.take i)) ++ ([(n.ents.getD i EL.zero).win, (n.ents.getD i EL.zero).key] : List Int)).length) c116 (((((([n.kind, n.fr, n.tw, (n.nums.length : Int)] ++ n.nums) ++ [(n.ops.length : Int)]) ++ opsL n.ops) ++ [(n.ents.length : Int)]) ++ entsL (n.ents.take i)) ++ ([(n.ents.getD i EL.zero).win, (n.ents.getD i EL.zero).key] : List Int)) := (OwnK.on (d := (Kd.int .i64)) hO118 hB131)
   refine rw_append_kd (d := (Kd.int .i64)) w.heap.size rfl rfl rfl (.tmp 82) (.tmp 89) rfl rfl 22 3 (.int .i64 0) 8 rfl (by kernel_rfl) (by kernel_rfl) rfl (show 0 < 1 by decide) (by decide) (fun _ _ h => h) (b := w.heap.size) rfl rfl (by omega) oA139 (OwnK.Cn (d := (Kd.int .i64)) hL132) (chain hB119 hB131) (by omega) (by have q1_ := hko_ n.ops.length; have q2_ := hke_ n.ents.length; simp only [List.take_length] at q1_ q2_; simp only [List.length_append, List.length_cons, List.length_nil]; first | omega | (have q3_ := hko_ j; omega) | (have q4_ := hke_ i; have q5_ := nums_len (n.ents.getD i EL.zero).c; have q6_ := pr_len (n.ents.getD i EL.zero).c.h 65; omega)) ?_
   intro A133 c134 w135 hO136 hB137 hG138
   have hs_w135 := hB137.size
   have hgs_w135 := hG138.size
   have hk141 := OwnK.blk_grown (hk123.on hB131) oA139 (.inr (by decide)) hG138
   refine rv (.slice A133 (((((((([n.kind, n.fr, n.tw, (n.nums.length : Int)] ++ n.nums) ++ [(n.ops.length : Int)]) ++ opsL n.ops) ++ [(n.ents.length : Int)]) ++ entsL (n.ents.take i)) ++ ([(n.ents.getD i EL.zero).win, (n.ents.getD i EL.zero).key] : List Int)) ++ (numsC ((n.ents.getD i EL.zero).c))).length) c134) ?_
   refine rw_end ?_
   refine w_weaken (G' := [(1, .pointer (some ⟨g1, 0, none⟩)), (3, .slice A133 (((((((([n.kind, n.fr, n.tw, (n.nums.length : Int)] ++ n.nums) ++ [(n.ops.length : Int)]) ++ opsL n.ops) ++ [(n.ents.length : Int)]) ++ entsL (n.ents.take i)) ++ ([(n.ents.getD i EL.zero).win, (n.ents.getD i EL.zero).key] : List Int)) ++ (numsC ((n.ents.getD i EL.zero).c))).length) c134), (6, .int .i64 ((i : Nat) : Int))]) ⟨rfl, rfl, rfl, trivial⟩ ?_
   refine w_blk ?_
   refine w_region ?_
   refine rv (.int .i64 ((i : Nat) : Int)) ?_
   refine rz (.int .i64 ((i + 1 : Nat) : Int)) (by simp [go_sem, sEv, sLook, nbeq, i64_w, -List.getD_eq_getElem?_getD]; exact wrap_id (by omega) (by omega)) ?_
   refine rv (.int .i64 ((i + 1 : Nat) : Int)) ?_
   refine rw_end ?_
   have e142 : ((((((([n.kind, n.fr, n.tw, (n.nums.length : Int)] ++ n.nums) ++ [(n.ops.length : Int)]) ++ opsL n.ops) ++ [(n.ents.length : Int)]) ++ entsL (n.ents.take i)) ++ ([(n.ents.getD i EL.zero).win, (n.ents.getD i EL.zero).key] : List Int)) ++ (numsC ((n.ents.getD i EL.zero).c))) = ((((([n.kind, n.fr, n.tw, (n.nums.length : Int)] ++ n.nums) ++ [(n.ops.length : Int)]) ++ opsL n.ops) ++ [(n.ents.length : Int)]) ++ entsL (n.ents.take (i + 1))) := by (unfold entsL; rw [flat_snoc entL n.ents i EL.zero (by omega)]; unfold entL; simp only [List.append_assoc])
   have hO143 : OwnK (Kd.int .i64) 3 w135 w.heap.size w.heap.size A133 ((((([n.kind, n.fr, n.tw, (n.nums.length : Int)] ++ n.nums) ++ [(n.ops.length : Int)]) ++ opsL n.ops) ++ [(n.ents.length : Int)]) ++ entsL (n.ents.take (i + 1))).length c134 ((((([n.kind, n.fr, n.tw, (n.nums.length : Int)] ++ n.nums) ++ [(n.ops.length : Int)]) ++ opsL n.ops) ++ [(n.ents.length : Int)]) ++ entsL (n.ents.take (i + 1))) := by rw [← e142]; exact OwnK.full hO136
   have en144 : ((((((([n.kind, n.fr, n.tw, (n.nums.length : Int)] ++ n.nums) ++ [(n.ops.length : Int)]) ++ opsL n.ops) ++ [(n.ents.length : Int)]) ++ entsL (n.ents.take i)) ++ ([(n.ents.getD i EL.zero).win, (n.ents.getD i EL.zero).key] : List Int)) ++ (numsC ((n.ents.getD i EL.zero).c))).length = ((((([n.kind, n.fr, n.tw, (n.nums.length : Int)] ++ n.nums) ++ [(n.ops.length : Int)]) ++ opsL n.ops) ++ [(n.ents.length : Int)]) ++ entsL (n.ents.take (i + 1))).length := by rw [← e142] <;> exact OwnK.len (d := (Kd.int .i64)) hO136
   exact w_back (m_ - 1) [(1, .pointer (some ⟨g1, 0, none⟩)), (3, .slice A133 (((((([n.kind, n.fr, n.tw, (n.nums.length : Int)] ++ n.nums) ++ [(n.ops.length : Int)]) ++ opsL n.ops) ++ [(n.ents.length : Int)]) ++ entsL (n.ents.take (i + 1))).length) c134), (6, .int .i64 ((i + 1 : Nat) : Int))] (by omega) ⟨rfl, (by first | rfl | (rw [← en144]; rfl)), rfl, trivial⟩ ⟨(i + 1), A133, c134, by omega, hB137, (OwnK.mono (d := (Kd.int .i64)) hO143 (by omega)), hk141, rfl⟩
  ·
   have l145 : ¬ (((i : Nat) : Int) < ((n.ents.length : Nat) : Int)) := of_decide_eq_false cI
   refine w_exit rfl ?_
   refine wsr ?_
   refine rv (.slice A3_ (((((([n.kind, n.fr, n.tw, (n.nums.length : Int)] ++ n.nums) ++ [(n.ops.length : Int)]) ++ opsL n.ops) ++ [(n.ents.length : Int)]) ++ entsL (n.ents.take i)).length) c3_) ?_
   refine rv (.slice A3_ (((((([n.kind, n.fr, n.tw, (n.nums.length : Int)] ++ n.nums) ++ [(n.ops.length : Int)]) ++ opsL n.ops) ++ [(n.ents.length : Int)]) ++ entsL (n.ents.take i)).length) c3_) ?_
   refine rw_end ?_
   refine w_ret (post_ret1 rfl rfl ?_)
   have eX_ : ((((([n.kind, n.fr, n.tw, (n.nums.length : Int)] ++ n.nums) ++ [(n.ops.length : Int)]) ++ opsL n.ops) ++ [(n.ents.length : Int)]) ++ entsL (n.ents.take i)) = listN n := by rw [List.take_of_length_le (by omega)]; unfold listN; rfl
   have hf_ := hO3_
   rw [eX_] at hf_
   rw [eX_]
   exact ⟨_, _, rfl, OwnK.mono (d := (Kd.int .i64)) hf_ (by omega), hB_L99⟩
end Go.Proofs.Ytbbhdohjhipalaa.Ce
end
section
namespace Go.Proofs.Ytbbhdohjhipalaa.Ce
open Go.RowKit Go.Proofs.YtbbhdohjhipalaaW.PrintWords Go.Proofs.YtbbhdohjhipalaaW.PrintLast Go.Proofs.YtbbhdohjhipalaaW.PrintMore
open Go.Proofs.Ytbbhdohjhipalaa.Flow
open Go.Proofs.Ytbbhdohjhipalaa.PNoteReads
set_option linter.unusedVariables false
set_option linter.unusedSimpArgs false
def EN (n : NT) : Int := if goodN n = true then errN (PB (listN n)) else 2
theorem en_no {n : NT} (h : goodN n = false) : EB n = [] ∧ EN n = 2 := ⟨(eb_no h).1, by unfold EN; rw [h]; rfl⟩
theorem en_yes {n : NT} (h : goodN n = true) : EB n = frameB (PB (listN n)) ∧ EN n = errN (PB (listN n)) := ⟨(eb_yes h).1, by unfold EN; rw [h]; rfl⟩
theorem listN_good {n : NT} (h : goodN n = true) : (listN n).length ≤ 2500 := by
  obtain ⟨z1, z2, z3⟩ := good_sz h
  unfold listN
  have h1 := opsL_len n.ops
  have h2 := entsL_len n.ents
  simp only [List.length_append, List.length_cons, List.length_nil]
  omega
theorem rput0 (w : World) (DA : Option Addr) (dc : Nat) (ys : List Int) (hC1 : (Kd.int .i64).C w DA ys.length ys) (hc1 : ys.length ≤ dc) (hy : ∀ y ∈ ys, I64 y) (hl : ys.length ≤ 1000000) : Calls Try.prog 31 #[.slice none 0 0, .slice DA ys.length dc] w fun e w' => ∃ A' c', e = .returned (.slice A' (PB ys).length c') ∧ OwnK (Kd.int .u8) 5 w' w.heap.size w.heap.size A' (PB ys).length c' (PB ys) ∧ Below w.heap.size w w' := by
  refine (refput_calls w none 0 [] DA dc ys ⟨rfl, by simp, fun h => absurd h (by decide)⟩ (Nat.le_refl _) hC1 hc1 hy hl (by simp)).mono ?_
  rintro e w' ⟨A', n', c', rfl, h1, h2⟩
  have e1 := OwnK.len (d := Kd.int .u8) h1
  rw [List.nil_append] at h1 e1
  subst e1
  exact ⟨A', c', rfl, h1, h2⟩
theorem rwrap1 (w : World) (A0 : Option Addr) (c0 : Nat) (b : List Int) (hC : (Kd.int .u8).C w A0 b.length b) (hc : b.length ≤ c0) (hb : Bytes b) (hl : b.length ≤ 1000000) : Calls Try.prog 30 #[.slice A0 b.length c0] w fun e w' => ∃ A' c', e = .returned (.tuple #[.slice A' (frameB b).length c', .int .i64 (errN b)]) ∧ OwnK (Kd.int .u8) 5 w' w.heap.size w.heap.size A' (frameB b).length c' (frameB b) ∧ Below w.heap.size w w' := by
  refine (refwrap_calls w A0 c0 b hC hc hb hl).mono ?_
  rintro e w' ⟨A', n', c', rfl, h1, h2⟩
  have e1 := OwnK.len (d := Kd.int .u8) h1
  subst e1
  exact ⟨A', c', rfl, h1, h2⟩
set_option maxHeartbeats 4000000 in
theorem renc_calls (w : World) (n : NT) (A3 : Option Addr) (c3 : Nat) (A4 : Option Addr) (c4 : Nat) (A5 : Option Addr) (c5 : Nat) (hn3 : (Kd.int .i64).C w A3 n.nums.length n.nums) (hc3 : n.nums.length ≤ c3) (hn4 : kOp.C w A4 n.ops.length n.ops) (hc4 : n.ops.length ≤ c4) (hn5 : kEntry.C w A5 n.ents.length n.ents) (hc5 : n.ents.length ≤ c5) (hk3 : n.nums.length ≤ 140737488355328) (hk4 : n.ops.length ≤ 140737488355328) (hk5 : n.ents.length ≤ 140737488355328) (hI : ∀ y ∈ listN n, I64 y) :
  Calls Try.prog 13 #[.agg #[.int .i64 n.kind, .int .i64 n.fr, .int .i64 n.tw, .slice A3 n.nums.length c3, .slice A4 n.ops.length c4, .slice A5 n.ents.length c5]] w fun e w' => ∃ A' c', e = .returned (.tuple #[.slice A' (EB n).length c', .int .i64 (EN n)]) ∧ OwnK (Kd.int .u8) 5 w' w.heap.size w.heap.size A' (EB n).length c' (EB n) ∧ Below w.heap.size w w' := by
 refine calls_flow Try.func13 rfl 13 rfl (Nat.le_of_ble_eq_true rfl) [(0, .agg #[.int .i64 n.kind, .int .i64 n.fr, .int .i64 n.tw, .slice A3 n.nums.length c3, .slice A4 n.ops.length c4, .slice A5 n.ents.length c5])] ?_ ?_
 ·
  intro t v h; exact args_look rfl t v h
 refine wsr ?_
 refine rw_new (cs := #[.int .i64 n.kind, .int .i64 n.fr, .int .i64 n.tw, .slice A3 n.nums.length c3, .slice A4 n.ops.length c4, .slice A5 n.ents.length c5]) (t := 26) (fun g => .pointer (some ⟨g, 0, none⟩)) rfl rfl rfl rfl (by simp [go_sem, sEv, sLook, nbeq, i64_w, -List.getD_eq_getElem?_getD]) ?_
 intro g1 w2 hg6 hz5 hb3 hk4
 have hs_w2 := hb3.size
 refine rv (.slice none 0 0) ?_
 refine rv (.int .i64 0) ?_
 refine rw_end ?_
 refine w_seq ?_
 refine wsr ?_
 refine rz (.agg #[.int .i64 n.kind, .int .i64 n.fr, .int .i64 n.tw, .slice A3 n.nums.length c3, .slice A4 n.ops.length c4, .slice A5 n.ents.length c5]) (by have eb_ := hk4; have e0_ := eb_.cellv (i := 0) (v := (.int .i64 n.kind : Value)) rfl; have e1_ := eb_.cellv (i := 1) (v := (.int .i64 n.fr : Value)) rfl; have e2_ := eb_.cellv (i := 2) (v := (.int .i64 n.tw : Value)) rfl; have e3_ := eb_.cellv (i := 3) (v := (.slice A3 n.nums.length c3 : Value)) rfl; have e4_ := eb_.cellv (i := 4) (v := (.slice A4 n.ops.length c4 : Value)) rfl; have e5_ := eb_.cellv (i := 5) (v := (.slice A5 n.ents.length c5 : Value)) rfl; simp [go_sem, sEv, sLook, nbeq, i64_w, -List.getD_eq_getElem?_getD, e0_, e1_, e2_, e3_, e4_, e5_, Try.underlying26]) ?_
 refine rw_call rfl rfl rfl rfl (f := 16) (args := #[.agg #[.int .i64 n.kind, .int .i64 n.fr, .int .i64 n.tw, .slice A3 n.nums.length c3, .slice A4 n.ops.length c4, .slice A5 n.ents.length c5]]) (by simp [go_sem, sEv, sLook, nbeq, i64_w, -List.getD_eq_getElem?_getD]) (good_calls w2 n A3 c3 A4 c4 A5 c5 (Kd.C_below hn3 hb3) hc3 (Kd.C_below hn4 hb3) hc4 (Kd.C_below hn5 hb3) hc5 (by omega) (by omega) (by omega)) ?_
 rintro e_ w7 ⟨rfl, hb8⟩
 refine ⟨_, rfl, ?_⟩
 have hs_w7 := hb8.size
 refine rs (.bool (!(goodN n))) ?_
 refine rw_end ?_
 refine w_cond rfl rfl (fun cG => ?_) (fun cG => ?_)
 ·
  refine wsr ?_
  refine rv (.slice none 0 0) ?_
  refine rv (.int .i64 2) ?_
  refine rw_end ?_
  refine w_ret (post_ret2 rfl rfl rfl ?_)
  rw [(en_no (by simpa using cG)).1, (en_no (by simpa using cG)).2]
  exact ⟨_, _, rfl, OwnK.nil _ _ _ _ _, (chain hb3 hb8)⟩
 ·
  refine w_skip ?_
  refine wsr ?_
  refine rz (.agg #[.int .i64 n.kind, .int .i64 n.fr, .int .i64 n.tw, .slice A3 n.nums.length c3, .slice A4 n.ops.length c4, .slice A5 n.ents.length c5]) (by have eb_ := (hk4.on hb8); have e0_ := eb_.cellv (i := 0) (v := (.int .i64 n.kind : Value)) rfl; have e1_ := eb_.cellv (i := 1) (v := (.int .i64 n.fr : Value)) rfl; have e2_ := eb_.cellv (i := 2) (v := (.int .i64 n.tw : Value)) rfl; have e3_ := eb_.cellv (i := 3) (v := (.slice A3 n.nums.length c3 : Value)) rfl; have e4_ := eb_.cellv (i := 4) (v := (.slice A4 n.ops.length c4 : Value)) rfl; have e5_ := eb_.cellv (i := 5) (v := (.slice A5 n.ents.length c5 : Value)) rfl; simp [go_sem, sEv, sLook, nbeq, i64_w, -List.getD_eq_getElem?_getD, e0_, e1_, e2_, e3_, e4_, e5_, Try.underlying26]) ?_
  have hz_ := good_sz (by simpa using cG)
  have hll_ := listN_good (by simpa using cG)
  refine rw_call rfl rfl rfl rfl (f := 32) (args := #[.agg #[.int .i64 n.kind, .int .i64 n.fr, .int .i64 n.tw, .slice A3 n.nums.length c3, .slice A4 n.ops.length c4, .slice A5 n.ents.length c5]]) (by simp [go_sem, sEv, sLook, nbeq, i64_w, -List.getD_eq_getElem?_getD]) (reflist_calls w7 n A3 c3 A4 c4 A5 c5 (Kd.C_below hn3 (chain hb3 hb8)) hc3 (Kd.C_below hn4 (chain hb3 hb8)) hc4 (Kd.C_below hn5 (chain hb3 hb8)) hc5 (by omega) (by omega) (by omega)) ?_
  rintro e_ w9 ⟨A11, c12, rfl, hO130, hb10⟩
  refine ⟨_, rfl, ?_⟩
  have hs_w9 := hb10.size
  have hO13 := OwnK.lower (base' := w.heap.size) (d := (Kd.int .i64)) hO130 (by omega)
  refine rw_call rfl rfl rfl rfl (f := 31) (args := #[.slice none 0 0, .slice A11 ((listN n).length) c12]) (by simp [go_sem, sEv, sLook, nbeq, i64_w, -List.getD_eq_getElem?_getD]) (rput0 w9 A11 c12 (listN n) (OwnK.C (d := (Kd.int .i64)) hO13) (by have q_ := OwnK.cap (d := (Kd.int .i64)) hO13; omega) hI (by omega)) ?_
  rintro e_ w14 ⟨A16, c17, rfl, hO180, hb15⟩
  refine ⟨_, rfl, ?_⟩
  have hs_w14 := hb15.size
  have hO18 := OwnK.lower (base' := w.heap.size) (d := (Kd.int .u8)) hO180 (by omega)
  have hpl_ := PB_len (listN n) hI
  refine rw_call rfl rfl rfl rfl (f := 30) (args := #[.slice A16 ((PB (listN n)).length) c17]) (by simp [go_sem, sEv, sLook, nbeq, i64_w, -List.getD_eq_getElem?_getD]) (rwrap1 w14 A16 c17 (PB (listN n)) (OwnK.C (d := (Kd.int .u8)) hO18) (by have q_ := OwnK.cap (d := (Kd.int .u8)) hO18; omega) (PB_bytes _ hI) (by omega)) ?_
  rintro e_ w19 ⟨A21, c22, rfl, hO230, hb20⟩
  refine ⟨_, rfl, ?_⟩
  have hs_w19 := hb20.size
  have hO23 := OwnK.lower (base' := w.heap.size) (d := (Kd.int .u8)) hO230 (by omega)
  refine rs (.slice A21 ((frameB (PB (listN n))).length) c22) ?_
  refine rs (.int .i64 (errN (PB (listN n)))) ?_
  refine rv (.slice A21 ((frameB (PB (listN n))).length) c22) ?_
  refine rv (.int .i64 (errN (PB (listN n)))) ?_
  refine rw_end ?_
  refine w_weaken (G' := [(2, .slice A21 ((frameB (PB (listN n))).length) c22), (3, .int .i64 (errN (PB (listN n))))]) ⟨rfl, rfl, trivial⟩ ?_
  refine w_ret (post_ret2 rfl rfl rfl ?_)
  rw [(en_yes (by simpa using cG)).1, (en_yes (by simpa using cG)).2]
  exact ⟨_, _, rfl, OwnK.mono (d := (Kd.int .u8)) hO23 (by omega), (chain (chain (chain (chain hb3 hb8) hb10) hb15) hb20)⟩
end Go.Proofs.Ytbbhdohjhipalaa.Ce
end
section
namespace Go.Proofs.Ytbbhdohjhipalaa.Ce
open Go.RowKit Go.Proofs.YtbbhdohjhipalaaW.PrintWords Go.Proofs.YtbbhdohjhipalaaW.PrintLast Go.Proofs.YtbbhdohjhipalaaW.PrintMore
open Go.Proofs.Ytbbhdohjhipalaa.Flow
set_option linter.unusedVariables false
set_option linter.unusedSimpArgs false
def SpPre (B m k : Nat) (xs : List Value) : Flow.Spec where
  s v w := ∃ g cs, v = .slice (some ⟨g, 0, none⟩) k m ∧ B ≤ g ∧ w.heap[g]? = some (.cells cs 3 (0, 0)) ∧ cs.size = m ∧ cs.toList.take k = xs
  pl v := ∃ g, v = .slice (some ⟨g, 0, none⟩) k m ∧ B ≤ g
  stab := fun v w w' hb ⟨g, cs, h1, h2, h3, h4, h5⟩ => ⟨g, cs, h1, h2, (hb.block g (Array.getElem?_eq_some_iff.1 h3).1).trans h3, h4, h5⟩
  imp := fun v w ⟨g, cs, h1, h2, _⟩ => ⟨g, h1, h2⟩
  inh := ⟨.slice (some ⟨B, 0, none⟩) k m, B, rfl, Nat.le_refl _⟩
def WrAt (B m p : Nat) (ys : List Value) (w w' : World) : Prop := ∃ g cs, B ≤ g ∧ w.heap[g]? = some (.cells cs 3 (0, 0)) ∧ cs.size = m ∧ w'.heap[g]? = some (.cells (cs.toList.take p ++ ys ++ cs.toList.drop (p + ys.length)).toArray 3 (0, 0)) ∧ ∀ q, q ≠ g → q < w.heap.size → w'.heap[q]? = w.heap[q]?
theorem pre_stab {B m k p : Nat} {xs ys : List Value} {v : Value} {w w' : World} (h : (SpPre B m k xs).s v w) (hw : WrAt B m p ys w w') (hm : p + ys.length ≤ m) (hx : k ≤ p) : (SpPre B m k xs).s v w' := by
  obtain ⟨g, cs, h1, h2, h3, h4, h5⟩ := h
  obtain ⟨g2, cs2, k1, k2, k3, k4, k5⟩ := hw
  by_cases e : g = g2
  · subst e
    rw [h3] at k2
    injection k2 with k2
    injection k2 with k2
    subst k2
    refine ⟨g, _, h1, h2, k4, ?_, ?_⟩
    · have : cs.toList.length = m := by simpa using h4
      simp only [List.size_toArray, List.length_append, List.length_take, List.length_drop]
      omega
    · have : cs.toList.length = m := by simpa using h4
      show (cs.toList.take p ++ ys ++ cs.toList.drop (p + ys.length)).take k = xs
      rw [List.append_assoc, List.take_append_of_le_length (by rw [List.length_take]; omega), List.take_take, Nat.min_eq_left hx]
      exact h5
  · exact ⟨g, cs, h1, h2, (k5 g e (Array.getElem?_eq_some_iff.1 h3).1).trans h3, h4, h5⟩
theorem lit_stab {B m p : Nat} {x : Value} {ys : List Value} {v : Value} {w w' : World} (h : (SlcSpec B 3 #[x] 1).s v w) (hw : WrAt B m p ys w w') (hm : m = 1 → p = 0 ∧ (ys = [] ∨ ys = [x])) : (SlcSpec B 3 #[x] 1).s v w' := by
  obtain ⟨g, h1, h2, h3⟩ := h
  have h3 : w.heap[g]? = some (.cells #[x] 3 (0, 0)) := h3
  obtain ⟨g2, cs2, k1, k2, k3, k4, k5⟩ := hw
  refine ⟨g, h1, h2, ?_⟩
  show w'.heap[g]? = some (.cells #[x] 3 (0, 0))
  by_cases e : g = g2
  · subst e
    rw [h3] at k2
    injection k2 with k2
    injection k2 with k2
    subst k2
    obtain ⟨rfl, e | e⟩ := hm (by rw [← k3]; rfl)
    · subst e
      exact k4
    · subst e
      exact k4
  · exact (k5 g e (Array.getElem?_eq_some_iff.1 h3).1).trans h3
theorem mk_gives {P : Program} {o : Oper} {G : Env} {w : World} (B m : Nat) (cs : Array Value) (hB : B ≤ w.heap.size) (hcs : cs.size = m)
    (hrun : (execOp (sEv G) o).run P w = .ok (.value (.slice (some ⟨w.heap.size, 0, none⟩) 0 m)) (w.alloc (.cells cs 3))) :
    ∃ v w', (execOp (sEv G) o).run P w = .ok (.value v) w' ∧ (SpPre B m 0 []).s v w' ∧ Below w.heap.size w w' :=
  ⟨_, _, hrun, ⟨w.heap.size, cs, rfl, hB, Blk.alloc_new _ _ _, hcs, by simp⟩, below_alloc (Below.refl _ _) _⟩
theorem app_pre {o : Oper} {G : Env} {w : World} {s x : Operand} {v : Value} (B m k j k2 : Nat) (xs news : List Value) {A : Option Addr} {c : Nat} (ho : o.op = .call { callee := .builtin .append, args := #[s, x], argTypes := #[22, 22] })
    (hs : sEv G s = v) (hv : (SpPre B m k xs).s v w) (hx : sEv G x = .slice A j c) (hj : news.length = j) (hk2 : k + j = k2) (hn : 0 < j → ∃ a, A = some a ∧ ∀ j u, news[j]? = some u → w.cell? (a.add j) = some u) (h1 : ∀ u ∈ news, u.oneCell' = true) (hroom : k2 ≤ m) :
    ∃ v' w', (execOp (sEv G) o).run Try.prog w = .ok (.value v') w' ∧ (SpPre B m k2 (xs ++ news)).s v' w' ∧ Kept w w' (fun q => B ≤ q) ∧ QT w w' ∧ WrAt B m k news w w' := by
  obtain ⟨g, cs, rfl, h2, h3, h4, h5⟩ := hv
  have hl : cs.toList.length = m := by simpa using h4
  subst hk2
  subst hj
  obtain ⟨i, hi, hi1⟩ := Option.map_eq_some_iff.1 (show (Try.prog.info? 3).map (fun i => i.size) = some 1 by kernel_rfl)
  have hrun : (Builtin.append_ #[22, 22] o.type #[.slice (some ⟨g, 0, none⟩) k m, .slice A news.length c]).run Try.prog w = .ok (.slice (some ⟨g, 0, none⟩) (k + news.length) m) (w.setRow g (cs.toList.take k ++ news ++ cs.toList.drop (k + news.length)).toArray) := by
    rcases Nat.eq_zero_or_pos news.length with h0 | h0
    · have e := List.length_eq_zero_iff.1 h0
      subst e
      have e2 : (cs.toList.take k ++ ([] : List Value) ++ cs.toList.drop (k + ([] : List Value).length)).toArray = cs := by simp
      rw [e2, setRow_self w g cs 3 (0, 0) h3]
      have hsr : Src Try.prog i.size 22 (.slice A 0 c) 0 [] w := by
        cases A with
        | none => exact Src.ofNil (e' := 3) w (by kernel_rfl) c
        | some a => exact Src.ofSlice (e' := 3) w (by kernel_rfl) a 0 c [] (by simp) (fun j v hj => by simp at hj) (fun u hu => by cases hu)
      exact run_append_nothing (P := Try.prog) w 22 22 o.type 3 i (by kernel_rfl) hi (some ⟨g, 0, none⟩) k m (by omega) (.slice A 0 c) hsr
    · obtain ⟨a, rfl, ha⟩ := hn h0
      have h9 := run_append_room (P := Try.prog) w 22 o.type 3 i (by kernel_rfl) hi g k m cs h3 a news.length c news (by rw [hi1]; omega) ha h1 hroom (by rw [hi1]; simp only [Array.length_toList] at hl; omega)
      rw [hi1, Nat.mul_one] at h9
      exact h9
  have hxl : xs.length = k := by rw [← h5, List.length_take]; omega
  refine ⟨.slice (some ⟨g, 0, none⟩) (k + news.length) m, _, ?_, ⟨g, _, rfl, h2, setRow_heap w g cs _ 3 _ h3, ?_, ?_⟩, ⟨by simp [World.setRow], fun q hq hn => ?_⟩, ⟨rfl, rfl, rfl⟩, ⟨g, cs, h2, h3, h4, setRow_heap w g cs _ 3 _ h3, fun q hq _ => setRow_other w g q _ hq⟩⟩
  · unfold execOp
    simp only [ho, resolve, invoke, builtin, Sem.run_bind, Sem.run_pure, Result.andThen_ok, List.map_toArray, List.map_cons, List.map_nil, hs, hx, hrun]
  · simp only [List.size_toArray, List.length_append, List.length_take, List.length_drop]
    omega
  · show (cs.toList.take k ++ news ++ cs.toList.drop (k + news.length)).take (k + news.length) = xs ++ news
    rw [h5, List.take_left' (by rw [List.length_append, hxl])]
  · exact setRow_other w g q _ (fun e => hn (by rw [e]; exact h2))
theorem app_go {o : Oper} {G : Env} {w0 W : World} {S : Flow.Spec} {B m k : Nat} {news : List Value} (h : ∃ v' w', (execOp (sEv G) o).run Try.prog W = .ok (.value v') w' ∧ S.s v' w' ∧ Kept W w' (fun q => B ≤ q) ∧ QT W w' ∧ WrAt B m k news W w') (h0 : Below w0.heap.size w0 W) (hB : w0.heap.size ≤ B) :
    ∃ v' w', (execOp (sEv G) o).run Try.prog W = .ok (.value v') w' ∧ S.s v' w' ∧ Kept W w' (fun q => B ≤ q) ∧ Below w0.heap.size w0 w' ∧ QT W w' ∧ WrAt B m k news W w' := by
  obtain ⟨v', w', h1, h2, h3, h4, h5⟩ := h
  exact ⟨v', w', h1, h2, h3, below_k h0 h3 h4 (fun q hq => Nat.le_trans hB hq), h4, h5⟩
theorem make_big {w : World} (c : Nat) (hb : c * 8 ≤ 281474976710656) : (Instr.makeSlice 22 (.int .i64 0) (.int .i64 ((c : Nat) : Int))).run Try.prog w = .ok (.slice (some ⟨w.heap.size, 0, none⟩) 0 c) (w.alloc (.cells (madeCells #[.int .i64 0] c) 3)) := by
  obtain ⟨i, hi, hz⟩ := Option.map_eq_some_iff.1 (show (Try.prog.info? 3).map (fun i => (i.zero, i.size, i.bytes)) = some (some (.int .i64 0), 1, 8) by kernel_rfl)
  simp only [Prod.mk.injEq] at hz
  obtain ⟨h0, h1, h2⟩ := hz
  have h := run_make (P := Try.prog) w 22 3 i (.int .i64 0) (by kernel_rfl) hi h0 .i64 .i64 0 (c : Int) (by omega) (by omega) (by rw [h2]; omega) (by omega)
  simp only [Int.toNat_natCast, h1, Nat.mul_one] at h
  exact h
theorem made_sz (c : Nat) : (madeCells #[Value.int .i64 0] c).size = c := by
  rw [← Array.length_toList, toList_madeCells_one]
  simp
theorem ints_cells {w : World} {A : Option Addr} {n : Nat} {xs : List Int} (h : (Kd.int .i64).C w A n xs) (hp : 0 < n) : ∃ ad, A = some ad ∧ ∀ j v, (xs.map (Value.int .i64))[j]? = some v → w.cell? (ad.add j) = some v := by
  obtain ⟨ad, rfl, hc⟩ := h.2.2 hp
  refine ⟨ad, rfl, fun j v hj => ?_⟩
  rw [List.getElem?_map] at hj
  cases hx : xs[j]? with
  | none => rw [hx] at hj; cases hj
  | some x =>
    rw [hx] at hj
    obtain ⟨c, _, hr, h2⟩ := hc j x hx
    have e1 : c = [Value.int .i64 x] := hr
    subst e1
    have h3 := h2 0 _ rfl
    have e2 : j * (Kd.int .i64).sz + 0 = j := by show j * 1 + 0 = j; omega
    rw [e2] at h3
    rw [h3]
    simpa using hj
theorem pre_blk {B m : Nat} {xs : List Int} {g : Nat} {w : World} (h : (SpPre B m m (xs.map (Value.int .i64))).s (.slice (some ⟨g, 0, none⟩) m m) w) : B ≤ g ∧ Blk w g 3 (xs.map (Value.int .i64)).toArray := by
  obtain ⟨g2, cs, h1, h2, h3, h4, h5⟩ := h
  injection h1 with h1
  injection h1 with h1
  injection h1 with h1
  subst h1
  refine ⟨h2, ?_⟩
  show w.heap[g]? = some (.cells (xs.map (Value.int .i64)).toArray 3 (0, 0))
  rw [← h5, List.take_of_length_le (by simp; omega), Array.toArray_toList]
  exact h3
end Go.Proofs.Ytbbhdohjhipalaa.Ce
end
section
namespace Go.Proofs.Ytbbhdohjhipalaa.Ce
open Go.RowKit Go.Proofs.YtbbhdohjhipalaaW.PrintWords Go.Proofs.YtbbhdohjhipalaaW.PrintLast Go.Proofs.YtbbhdohjhipalaaW.PrintMore
open Go.Proofs.Ytbbhdohjhipalaa.Flow
set_option linter.unusedVariables false
set_option linter.unusedSimpArgs false
set_option maxHeartbeats 4000000 in
theorem copied_calls (w : World) (n : NT) (A3 : Option Addr) (c3 : Nat) (A4 : Option Addr) (c4 : Nat) (A5 : Option Addr) (c5 : Nat) (hn3 : (Kd.int .i64).C w A3 n.nums.length n.nums) (hc3 : n.nums.length ≤ c3) (hn4 : kOp.C w A4 n.ops.length n.ops) (hc4 : n.ops.length ≤ c4) (hn5 : kEntry.C w A5 n.ents.length n.ents) (hc5 : n.ents.length ≤ c5) (hk3 : n.nums.length * 8 ≤ 140737488351232) (hk4 : n.ops.length * 40 ≤ 140737488351232) (hk5 : n.ents.length * 608 ≤ 140737488351232) :
    Calls Try.prog 11 #[.agg #[.int .i64 n.kind, .int .i64 n.fr, .int .i64 n.tw, .slice A3 n.nums.length c3, .slice A4 n.ops.length c4, .slice A5 n.ents.length c5]] w fun e w' => ∃ A3' c3' A4' c4' A5' c5', e = .returned (.agg #[.int .i64 n.kind, .int .i64 n.fr, .int .i64 n.tw, .slice A3' n.nums.length c3', .slice A4' n.ops.length c4', .slice A5' n.ents.length c5']) ∧ OwnK (Kd.int .i64) 3 w' w.heap.size w.heap.size A3' (n.nums.length + 1) c3' (n.nums ++ [(-77)]) ∧ OwnK kOp 73 w' w.heap.size w.heap.size A4' n.ops.length c4' n.ops ∧ OwnK kEntry 83 w' w.heap.size w.heap.size A5' n.ents.length c5' n.ents ∧ Below w.heap.size w w' := by
  refine calls_flow Try.func11 rfl 29 rfl (Nat.le_of_ble_eq_true rfl) [(0, .agg #[.int .i64 n.kind, .int .i64 n.fr, .int .i64 n.tw, .slice A3 n.nums.length c3, .slice A4 n.ops.length c4, .slice A5 n.ents.length c5])] ?_ ?_
  · intro t v h; exact args_look rfl t v h
  refine wsr ?_
  refine rw_new (cs := #[.int .i64 n.kind, .int .i64 n.fr, .int .i64 n.tw, .slice A3 n.nums.length c3, .slice A4 n.ops.length c4, .slice A5 n.ents.length c5]) (t := 26) (fun g => .pointer (some ⟨g, 0, none⟩)) rfl rfl rfl rfl (by simp [go_sem, sEv, sLook, nbeq, i64_w, -List.getD_eq_getElem?_getD]) ?_
  intro g1 w2 hg6 hz5 hb3 hk4
  have hs_w2 := hb3.size
  refine rw_new (cs := #[.int .i64 0, .int .i64 0, .int .i64 0, .slice none 0 0, .slice none 0 0, .slice none 0 0]) (t := 26) (fun g => .pointer (some ⟨g, 0, none⟩)) rfl rfl rfl rfl (by kernel_rfl) ?_
  intro g7 w8 hg12 hz11 hb9 hk10
  have hs_w8 := hb9.size
  refine rw_end ?_
  refine w_seq ?_
  have hb13 := (hk4.on hb9)
  have hb14 := hk10
  have hc3_ := (Kd.C_below hn3 (chain hb3 hb9))
  have hnl_ : (n.nums.map (Value.int .i64)).length = n.nums.length := List.length_map _
  have hST_ := R.two_st (M := [0, 1, 3, 7, 15, 0, 32, 127, 0, 511, 0, 1024, 3072, 8191, 16383, 32767]) (p := 7) (q := 9) (x := ⟨(fun q_ => w8.heap.size ≤ q_), (fun W_ => Below w.heap.size w W_), (fun W_ => Below w.heap.size w W_), (WrAt w8.heap.size (n.nums.length + 1) 0 (n.nums.map (Value.int .i64)))⟩) (y := ⟨(fun q_ => w8.heap.size ≤ q_), (fun W_ => Below w.heap.size w W_), (fun W_ => Below w.heap.size w W_), (WrAt w8.heap.size (n.nums.length + 1) n.nums.length [(Value.int .i64 (-77))])⟩) (ss := [Is (.pointer (some ⟨g1, 3, none⟩)), Is (.slice A3 n.nums.length c3), Is (.int .i64 ((n.nums.length : Nat) : Int)), Is (.int .i64 (((n.nums.length + 1 : Nat) : Nat) : Int)), (SpPre w8.heap.size (n.nums.length + 1) 0 []), Is (.pointer (some ⟨g1, 3, none⟩)), Is (.slice A3 n.nums.length c3), (SpPre w8.heap.size (n.nums.length + 1) n.nums.length (n.nums.map (Value.int .i64))), (SlcSpec w8.heap.size 3 #[(Value.int .i64 (-77))] 1), (SpPre w8.heap.size (n.nums.length + 1) (n.nums.length + 1) ((n.nums.map (Value.int .i64)) ++ [(Value.int .i64 (-77))])), Is (.pointer (some ⟨g1, 3, none⟩)), Is (.slice A3 n.nums.length c3), Is (.int .i64 ((n.nums.length : Nat) : Int))])
    (fun k_ s_ hk_ hm_ hs_ v_ X_ Y_ hK_ hR_ h_ => by
      match k_, hs_ with
      | 0, hs_ => have e_ := Option.some.inj hs_; subst e_; exact h_
      | 1, hs_ => have e_ := Option.some.inj hs_; subst e_; exact h_
      | 2, hs_ => have e_ := Option.some.inj hs_; subst e_; exact h_
      | 3, hs_ => have e_ := Option.some.inj hs_; subst e_; exact h_
      | 4, hs_ => have e_ := Option.some.inj hs_; subst e_; exact pre_stab h_ hR_ (by rw [hnl_]; omega) (by omega)
      | 5, hs_ => have e_ := Option.some.inj hs_; subst e_; exact h_
      | 6, hs_ => have e_ := Option.some.inj hs_; subst e_; exact h_
      | 7, _ => exact absurd rfl hk_
      | 8, hs_ => have e_ := Option.some.inj hs_; subst e_; exact lit_stab h_ hR_ (fun e_ => ⟨rfl, .inl (by rw [List.map_eq_nil_iff]; exact List.length_eq_zero_iff.1 (by omega))⟩)
      | 9, _ => exact absurd hm_ (by decide)
      | 10, hs_ => have e_ := Option.some.inj hs_; subst e_; exact h_
      | 11, hs_ => have e_ := Option.some.inj hs_; subst e_; exact h_
      | 12, hs_ => have e_ := Option.some.inj hs_; subst e_; exact h_
      | q_ + 13, hs_ => simp at hs_)
    (fun k_ s_ hk_ hm_ hs_ v_ X_ Y_ hK_ hR_ h_ => by
      match k_, hs_ with
      | 0, hs_ => have e_ := Option.some.inj hs_; subst e_; exact h_
      | 1, hs_ => have e_ := Option.some.inj hs_; subst e_; exact h_
      | 2, hs_ => have e_ := Option.some.inj hs_; subst e_; exact h_
      | 3, hs_ => have e_ := Option.some.inj hs_; subst e_; exact h_
      | 4, hs_ => have e_ := Option.some.inj hs_; subst e_; exact pre_stab h_ hR_ (by simp) (by omega)
      | 5, hs_ => have e_ := Option.some.inj hs_; subst e_; exact h_
      | 6, hs_ => have e_ := Option.some.inj hs_; subst e_; exact h_
      | 7, hs_ => have e_ := Option.some.inj hs_; subst e_; exact pre_stab h_ hR_ (by simp) (by omega)
      | 8, hs_ => have e_ := Option.some.inj hs_; subst e_; exact lit_stab h_ hR_ (fun e_ => ⟨by omega, .inr rfl⟩)
      | 9, _ => exact absurd rfl hk_
      | 10, hs_ => have e_ := Option.some.inj hs_; subst e_; exact h_
      | 11, hs_ => have e_ := Option.some.inj hs_; subst e_; exact h_
      | 12, hs_ => have e_ := Option.some.inj hs_; subst e_; exact h_
      | q_ + 13, hs_ => simp at hs_)
  have hFF_ := R.two_ff (p := 7) (q := 9) (x := ⟨(fun q_ => w8.heap.size ≤ q_), (fun W_ => Below w.heap.size w W_), (fun W_ => Below w.heap.size w W_), (WrAt w8.heap.size (n.nums.length + 1) 0 (n.nums.map (Value.int .i64)))⟩) (y := ⟨(fun q_ => w8.heap.size ≤ q_), (fun W_ => Below w.heap.size w W_), (fun W_ => Below w.heap.size w W_), (WrAt w8.heap.size (n.nums.length + 1) n.nums.length [(Value.int .i64 (-77))])⟩) (fun X_ Y_ hk_ hq_ => ⟨fun h_ => below_k h_ hk_ hq_ (fun q_ e_ => by have e2_ : w8.heap.size ≤ q_ := e_; omega), fun h_ => below_k h_ hk_ hq_ (fun q_ e_ => by have e2_ : w8.heap.size ≤ q_ := e_; omega)⟩) (fun X_ Y_ hk_ hq_ => ⟨fun h_ => below_k h_ hk_ hq_ (fun q_ e_ => by have e2_ : w8.heap.size ≤ q_ := e_; omega), fun h_ => below_k h_ hk_ hq_ (fun q_ e_ => by have e2_ : w8.heap.size ≤ q_ := e_; omega)⟩)
  have hF_ := R.two_cases (p := 7) (q := 9) (x := ⟨(fun q_ => w8.heap.size ≤ q_), (fun W_ => Below w.heap.size w W_), (fun W_ => Below w.heap.size w W_), (WrAt w8.heap.size (n.nums.length + 1) 0 (n.nums.map (Value.int .i64)))⟩) (y := ⟨(fun q_ => w8.heap.size ≤ q_), (fun W_ => Below w.heap.size w W_), (fun W_ => Below w.heap.size w W_), (WrAt w8.heap.size (n.nums.length + 1) n.nums.length [(Value.int .i64 (-77))])⟩) (P := fun _ z => ∀ X_ Y_, Below X_.heap.size X_ Y_ → (z.F0 X_ → z.F0 Y_) ∧ (z.F1 X_ → z.F1 Y_)) (fun X_ Y_ hb_ => ⟨fun h_ => chain h_ hb_, fun h_ => chain h_ hb_⟩) (fun X_ Y_ hb_ => ⟨fun h_ => chain h_ hb_, fun h_ => chain h_ hb_⟩)
  have hI_ := R.two_cases (p := 7) (q := 9) (x := ⟨(fun q_ => w8.heap.size ≤ q_), (fun W_ => Below w.heap.size w W_), (fun W_ => Below w.heap.size w W_), (WrAt w8.heap.size (n.nums.length + 1) 0 (n.nums.map (Value.int .i64)))⟩) (y := ⟨(fun q_ => w8.heap.size ≤ q_), (fun W_ => Below w.heap.size w W_), (fun W_ => Below w.heap.size w W_), (WrAt w8.heap.size (n.nums.length + 1) n.nums.length [(Value.int .i64 (-77))])⟩) (P := fun _ z => z.F0 w8.drew) (chain (chain hb3 hb9) (below_drew _)) (chain (chain hb3 hb9) (below_drew _))
  refine R.w_drawo (M := [0, 1, 3, 7, 15, 0, 32, 127, 0, 511, 0, 1024, 3072, 8191, 16383, 32767]) (ss := [Is (.pointer (some ⟨g1, 3, none⟩)), Is (.slice A3 n.nums.length c3), Is (.int .i64 ((n.nums.length : Nat) : Int)), Is (.int .i64 (((n.nums.length + 1 : Nat) : Nat) : Int)), (SpPre w8.heap.size (n.nums.length + 1) 0 []), Is (.pointer (some ⟨g1, 3, none⟩)), Is (.slice A3 n.nums.length c3), (SpPre w8.heap.size (n.nums.length + 1) n.nums.length (n.nums.map (Value.int .i64))), (SlcSpec w8.heap.size 3 #[(Value.int .i64 (-77))] 1), (SpPre w8.heap.size (n.nums.length + 1) (n.nums.length + 1) ((n.nums.map (Value.int .i64)) ++ [(Value.int .i64 (-77))])), Is (.pointer (some ⟨g1, 3, none⟩)), Is (.slice A3 n.nums.length c3), Is (.int .i64 ((n.nums.length : Nat) : Int))]) (R.two 7 9 ⟨(fun q_ => w8.heap.size ≤ q_), (fun W_ => Below w.heap.size w W_), (fun W_ => Below w.heap.size w W_), (WrAt w8.heap.size (n.nums.length + 1) 0 (n.nums.map (Value.int .i64)))⟩ ⟨(fun q_ => w8.heap.size ≤ q_), (fun W_ => Below w.heap.size w W_), (fun W_ => Below w.heap.size w W_), (WrAt w8.heap.size (n.nums.length + 1) n.nums.length [(Value.int .i64 (-77))])⟩) 13 rfl (by decide +kernel) (R.two_cases (P := fun j _ => j < 13) (by decide) (by decide)) hST_ hF_ hFF_ hI_ ?_
  refine R.v_is (by kernel_rfl) (.pointer (some ⟨g1, 3, none⟩)) rfl rfl rfl rfl (fun W_ hW_ h1_ F_ => by simp [go_sem, sEv, sLook, nbeq, i64_w, -List.getD_eq_getElem?_getD, Try.underlying26]) ?_
  refine R.v_is (by kernel_rfl) (.slice A3 n.nums.length c3) rfl rfl rfl rfl (fun W_ hW_ h1_ F_ => by have eb_ := Blk.kept hb13 (drew_kept hW_) (fun hs_ => (R.mu_two hs_).elim (fun e_ => by have e2_ : w8.heap.size ≤ g1 := e_; omega) (fun e_ => by have e2_ : w8.heap.size ≤ g1 := e_; omega)); have e0_ := eb_.cellv (i := 3) (v := (.slice A3 n.nums.length c3 : Value)) rfl; simp [go_sem, sEv, sLook, nbeq, i64_w, -List.getD_eq_getElem?_getD, e0_, Try.underlying22]) ?_
  refine R.v_is (by kernel_rfl) (.int .i64 ((n.nums.length : Nat) : Int)) rfl rfl rfl rfl (fun W_ hW_ h1_ F_ => by simp [go_sem, sEv, sLook, nbeq, i64_w, -List.getD_eq_getElem?_getD]) ?_
  refine R.v_is (by kernel_rfl) (.int .i64 (((n.nums.length + 1 : Nat) : Nat) : Int)) rfl rfl rfl rfl (fun W_ hW_ h1_ F_ => by simp [go_sem, sEv, sLook, nbeq, i64_w, -List.getD_eq_getElem?_getD]; exact wrap_id (by omega) (by omega)) ?_
  refine R.v_val (by kernel_rfl) (SpPre w8.heap.size (n.nums.length + 1) 0 []) rfl rfl rfl rfl (fun W_ hW_ h1_ F_ => mk_gives _ _ _ (drew_kept hW_).1 (made_sz _) (run_as (make_big (n.nums.length + 1) (by omega)))) ?_
  rintro _ ⟨g15, rfl, hga_⟩
  refine R.v_is (by kernel_rfl) (.pointer (some ⟨g1, 3, none⟩)) rfl rfl rfl rfl (fun W_ hW_ h1_ F_ => by simp [go_sem, sEv, sLook, nbeq, i64_w, -List.getD_eq_getElem?_getD, Try.underlying26]) ?_
  refine R.v_is (by kernel_rfl) (.slice A3 n.nums.length c3) rfl rfl rfl rfl (fun W_ hW_ h1_ F_ => by have eb_ := Blk.kept hb13 (drew_kept hW_) (fun hs_ => (R.mu_two hs_).elim (fun e_ => by have e2_ : w8.heap.size ≤ g1 := e_; omega) (fun e_ => by have e2_ : w8.heap.size ≤ g1 := e_; omega)); have e0_ := eb_.cellv (i := 3) (v := (.slice A3 n.nums.length c3 : Value)) rfl; simp [go_sem, sEv, sLook, nbeq, i64_w, -List.getD_eq_getElem?_getD, e0_, Try.underlying22]) ?_
  refine R.v_app (x := ⟨(fun q_ => w8.heap.size ≤ q_), (fun W_ => Below w.heap.size w W_), (fun W_ => Below w.heap.size w W_), (WrAt w8.heap.size (n.nums.length + 1) 0 (n.nums.map (Value.int .i64)))⟩) rfl (SpPre w8.heap.size (n.nums.length + 1) n.nums.length (n.nums.map (Value.int .i64))) rfl rfl rfl rfl (fun W_ hW_ h0_ F_ => ?_) ?_
  ·
    exact app_go (app_pre w8.heap.size (n.nums.length + 1) 0 n.nums.length n.nums.length [] (n.nums.map (Value.int .i64)) rfl rfl (F_ 4 _ _ rfl rfl) rfl hnl_ (by omega) (fun hp_ => ints_cells (Kd.C_below hn3 h0_) hp_) (fun u hu => by obtain ⟨x_, _, rfl⟩ := List.mem_map.1 hu; rfl) (by omega)) h0_ (by omega)
  rintro _ ⟨g16, rfl, hgb_⟩
  refine R.v_val (by kernel_rfl) (SlcSpec w8.heap.size 3 #[(Value.int .i64 (-77))] 1) rfl rfl rfl rfl (fun W_ hW_ h1_ F_ => slc_gives _ _ _ _ (drew_kept hW_).1 (by kernel_rfl)) ?_
  rintro _ ⟨g18, rfl⟩
  refine R.v_app (x := ⟨(fun q_ => w8.heap.size ≤ q_), (fun W_ => Below w.heap.size w W_), (fun W_ => Below w.heap.size w W_), (WrAt w8.heap.size (n.nums.length + 1) n.nums.length [(Value.int .i64 (-77))])⟩) rfl (SpPre w8.heap.size (n.nums.length + 1) (n.nums.length + 1) ((n.nums.map (Value.int .i64)) ++ [(Value.int .i64 (-77))])) rfl rfl rfl rfl (fun W_ hW_ h0_ F_ => ?_) ?_
  ·
    exact app_go (app_pre w8.heap.size (n.nums.length + 1) n.nums.length 1 (n.nums.length + 1) (n.nums.map (Value.int .i64)) [(Value.int .i64 (-77))] rfl rfl (F_ 7 _ _ rfl rfl) rfl rfl rfl (fun _ => ⟨_, rfl, fun j_ u_ hj_ => by have hb9_ := (slc_fact (F_ 8 _ _ rfl rfl)).2; match j_, hj_ with | 0, hj_ => have e_ := Option.some.inj hj_; subst e_; exact hb9_.cellv rfl | j_ + 1, hj_ => simp at hj_⟩) (fun u hu => by rw [List.mem_singleton.1 hu]; rfl) (Nat.le_refl _)) h0_ (by omega)
  rintro _ ⟨g17, rfl, hgc_⟩
  refine R.v_is (by kernel_rfl) (.pointer (some ⟨g1, 3, none⟩)) rfl rfl rfl rfl (fun W_ hW_ h1_ F_ => by simp [go_sem, sEv, sLook, nbeq, i64_w, -List.getD_eq_getElem?_getD, Try.underlying26]) ?_
  refine R.v_is (by kernel_rfl) (.slice A3 n.nums.length c3) rfl rfl rfl rfl (fun W_ hW_ h1_ F_ => by have eb_ := Blk.kept hb13 (drew_kept hW_) (fun hs_ => (R.mu_two hs_).elim (fun e_ => by have e2_ : w8.heap.size ≤ g1 := e_; omega) (fun e_ => by have e2_ : w8.heap.size ≤ g1 := e_; omega)); have e0_ := eb_.cellv (i := 3) (v := (.slice A3 n.nums.length c3 : Value)) rfl; simp [go_sem, sEv, sLook, nbeq, i64_w, -List.getD_eq_getElem?_getD, e0_, Try.underlying22]) ?_
  refine R.v_is (by kernel_rfl) (.int .i64 ((n.nums.length : Nat) : Int)) rfl rfl rfl rfl (fun W_ hW_ h1_ F_ => by simp [go_sem, sEv, sLook, nbeq, i64_w, -List.getD_eq_getElem?_getD]) ?_
  refine R.v_tail ?_
  intro w19 hK20_ h21 F22
  have hK20 := drew_kept hK20_
  have hB23 : Below w.heap.size w w19 := h21 7 _ rfl
  have hs_w19 := hB23.size
  have hgs_w19 := hK20.1
  obtain ⟨hge_, hk24⟩ := pre_blk (xs := n.nums ++ [(-77)]) (by rw [List.map_append]; exact F22 9 (SpPre w8.heap.size (n.nums.length + 1) (n.nums.length + 1) ((n.nums.map (Value.int .i64)) ++ [(Value.int .i64 (-77))])) (.slice (some ⟨g17, 0, none⟩) (n.nums.length + 1) (n.nums.length + 1)) (by kernel_rfl))
  have hlm_ : (n.nums ++ [(-77)]).length = n.nums.length + 1 := by simp
  have hO25 : OwnK (Kd.int .i64) 3 w19 w.heap.size g17 (some ⟨g17, 0, none⟩) (n.nums.length + 1) (n.nums.length + 1) (n.nums ++ [(-77)]) := by rw [← hlm_]; exact scal_own w.heap.size hk24 (by omega) rfl rfl (by omega)
  have hk26 := Blk.kept hb13 hK20 (fun hs_ => (R.mu_two hs_).elim (fun e_ => by have e2_ : w8.heap.size ≤ g1 := e_; omega) (fun e_ => by have e2_ : w8.heap.size ≤ g1 := e_; omega))
  have hk27 := Blk.kept hb14 hK20 (fun hs_ => (R.mu_two hs_).elim (fun e_ => by have e2_ : w8.heap.size ≤ g7 := e_; omega) (fun e_ => by have e2_ : w8.heap.size ≤ g7 := e_; omega))
  clear F22 hST_ hFF_ hF_ hI_
  have hl28 : (n.nums ++ [(-77)]).length = n.nums.length + ([(-77)] : List Int).length := List.length_append
  have hl28_ : ([(-77)] : List Int).length = 1 := rfl
  refine rz (.slice (some ⟨g17, 0, none⟩) n.nums.length (n.nums.length + 1)) (run_as (sl_to (sz := 1) (e := 3) (by kernel_rfl) (fun _ => by kernel_rfl) n.nums.length _ (by first | rfl | (simp; done) | omega) (by have q_ := OwnK.cap (d := (Kd.int .i64)) hO25; omega) _)) ?_
  refine ru (.pointer (some ⟨g1, 3, none⟩)) ?_
  have hb32 := hk26
  refine rw_store (g := g1) (i := 3) (l := [.slice (some ⟨g17, 0, none⟩) n.nums.length (n.nums.length + 1)]) (cs' := #[.int .i64 n.kind, .int .i64 n.fr, .int .i64 n.tw, .slice (some ⟨g17, 0, none⟩) n.nums.length (n.nums.length + 1), .slice A4 n.ops.length c4, .slice A5 n.ents.length c5]) rfl rfl rfl hb32 rfl (by have e0_ := hb32.cellv (i := 3) (v := (.slice A3 n.nums.length c3 : Value)) rfl; have f0_ := hb32.frozen 3; simp [go_sem, sEv, sLook, nbeq, i64_w, -List.getD_eq_getElem?_getD, putCells, e0_, f0_, Try.underlying22]) ?_
  intro w29 hk30 hk31
  have hs_w29 := hk30.size
  refine rw_end ?_
  refine w_weaken (G' := [(1, .pointer (some ⟨g1, 0, none⟩)), (2, .pointer (some ⟨g7, 0, none⟩))]) ⟨rfl, rfl, trivial⟩ ?_
  refine wsr ?_
  refine rw_new (cs := #[]) (t := 73) (fun g => .slice (some ⟨g, 0, none⟩) 0 0) rfl rfl rfl rfl (by kernel_rfl) ?_
  intro g33 w34 hg38 hz37 hb35 hk36
  have hs_w34 := hb35.size
  have hk36r : OwnK kOp 73 w34 w.heap.size g33 (some ⟨g33, 0, none⟩) 0 0 ([] : List OpL) := lit_nilK _ w.heap.size hk36 (by omega)
  refine ru (.pointer (some ⟨g1, 4, none⟩)) ?_
  refine rl (hk31.on hb35) 4 (.slice A4 n.ops.length c4) ?_
  have oA45 : OwnK kOp 73 w34 w.heap.size g33 (some ⟨g33, 0, none⟩) 0 0 ([] : List OpL) := hk36r
  refine rw_append_kd (d := kOp) w.heap.size rfl rfl rfl (.tmp 18) (.tmp 20) rfl rfl 23 73 (.agg #[.int .i64 0, .int .i64 0, .int .i64 0, .int .i64 0, .int .i64 0]) 40 rfl (by kernel_rfl) (by kernel_rfl) rfl (show 0 < 5 by decide) (by decide) (fun _ _ h => h) (b := g33) rfl rfl (by omega) oA45 (Kd.C_below hn4 (chain (hk30.below (by omega) hB23) hb35)) (chain (hk30.below (by omega) hB23) hb35) (by omega) (by rw [List.length_nil, Nat.zero_add]; omega) ?_
  intro A39 c40 w41 hO42 hB43 hG44
  rw [List.nil_append] at hO42
  try rw [List.nil_append]
  have hs_w41 := hB43.size
  have hgs_w41 := hG44.size
  have hO46 := OwnK.grown (d := (Kd.int .i64)) (OwnK.on (d := (Kd.int .i64)) (own_keep (d := (Kd.int .i64)) hO25 hk26 (by decide) hk30) hb35) oA45 (by decide) hG44
  have hk47 := OwnK.blk_grown (hk31.on hb35) oA45 (.inr (by decide)) hG44
  have hk48 := OwnK.blk_grown ((hk27.keep hk30 (by omega)).on hb35) oA45 (.inr (by decide)) hG44
  refine ru (.pointer (some ⟨g1, 4, none⟩)) ?_
  have hb52 := hk47
  refine rw_store (g := g1) (i := 4) (l := [.slice A39 n.ops.length c40]) (cs' := #[.int .i64 n.kind, .int .i64 n.fr, .int .i64 n.tw, .slice (some ⟨g17, 0, none⟩) n.nums.length (n.nums.length + 1), .slice A39 n.ops.length c40, .slice A5 n.ents.length c5]) rfl rfl rfl hb52 rfl (by have e0_ := hb52.cellv (i := 4) (v := (.slice A4 n.ops.length c4 : Value)) rfl; have f0_ := hb52.frozen 4; simp [go_sem, sEv, sLook, nbeq, i64_w, -List.getD_eq_getElem?_getD, putCells, e0_, f0_, Try.underlying23]) ?_
  intro w49 hk50 hk51
  have hs_w49 := hk50.size
  refine rw_end ?_
  refine w_weaken (G' := [(1, .pointer (some ⟨g1, 0, none⟩)), (2, .pointer (some ⟨g7, 0, none⟩))]) ⟨rfl, rfl, trivial⟩ ?_
  refine wsr ?_
  refine rw_new (cs := #[]) (t := 83) (fun g => .slice (some ⟨g, 0, none⟩) 0 0) rfl rfl rfl rfl (by kernel_rfl) ?_
  intro g53 w54 hg58 hz57 hb55 hk56
  have hs_w54 := hb55.size
  have hk56r : OwnK kEntry 83 w54 w.heap.size g53 (some ⟨g53, 0, none⟩) 0 0 ([] : List EL) := lit_nilK kEntry w.heap.size hk56 (by omega)
  refine ru (.pointer (some ⟨g1, 5, none⟩)) ?_
  refine rl (hk51.on hb55) 5 (.slice A5 n.ents.length c5) ?_
  have oA65 : OwnK kEntry 83 w54 w.heap.size g53 (some ⟨g53, 0, none⟩) 0 0 ([] : List EL) := hk56r
  refine rw_append_kd (d := kEntry) w.heap.size rfl rfl rfl (.tmp 23) (.tmp 25) rfl rfl 24 83 (.agg (earr EL.zero)) 608 rfl (by kernel_rfl) (by kernel_rfl) rfl (show 0 < 76 by decide) (by decide) (fun _ _ h => h) (b := g53) rfl rfl (by omega) oA65 (Kd.C_below hn5 (chain (hk50.below (by omega) hB43) hb55)) (chain (hk50.below (by omega) hB43) hb55) (by omega) (by rw [List.length_nil, Nat.zero_add]; omega) ?_
  intro A59 c60 w61 hO62 hB63 hG64
  rw [List.nil_append] at hO62
  try rw [List.nil_append]
  have hs_w61 := hB63.size
  have hgs_w61 := hG64.size
  have hO66 := OwnK.grown (d := (Kd.int .i64)) (OwnK.on (d := (Kd.int .i64)) (own_keep (d := (Kd.int .i64)) hO46 hk47 (by decide) hk50) hb55) oA65 (by decide) hG64
  have hO67 := OwnK.grown (d := kOp) (OwnK.on (d := kOp) (own_keep (d := kOp) hO42 hk47 (by decide) hk50) hb55) oA65 (by decide) hG64
  have hk68 := OwnK.blk_grown (hk51.on hb55) oA65 (.inr (by decide)) hG64
  have hk69 := OwnK.blk_grown ((hk48.keep hk50 (by omega)).on hb55) oA65 (.inr (by decide)) hG64
  refine ru (.pointer (some ⟨g1, 5, none⟩)) ?_
  have hb73 := hk68
  refine rw_store (g := g1) (i := 5) (l := [.slice A59 n.ents.length c60]) (cs' := #[.int .i64 n.kind, .int .i64 n.fr, .int .i64 n.tw, .slice (some ⟨g17, 0, none⟩) n.nums.length (n.nums.length + 1), .slice A39 n.ops.length c40, .slice A59 n.ents.length c60]) rfl rfl rfl hb73 rfl (by have e0_ := hb73.cellv (i := 5) (v := (.slice A5 n.ents.length c5 : Value)) rfl; have f0_ := hb73.frozen 5; simp [go_sem, sEv, sLook, nbeq, i64_w, -List.getD_eq_getElem?_getD, putCells, e0_, f0_, Try.underlying24]) ?_
  intro w70 hk71 hk72
  have hs_w70 := hk71.size
  refine rw_end ?_
  refine w_weaken (G' := [(1, .pointer (some ⟨g1, 0, none⟩)), (2, .pointer (some ⟨g7, 0, none⟩))]) ⟨rfl, rfl, trivial⟩ ?_
  refine wsr ?_
  refine rz (.agg #[.int .i64 n.kind, .int .i64 n.fr, .int .i64 n.tw, .slice (some ⟨g17, 0, none⟩) n.nums.length (n.nums.length + 1), .slice A39 n.ops.length c40, .slice A59 n.ents.length c60]) (by have eb_ := hk72; have e0_ := eb_.cellv (i := 0) (v := (.int .i64 n.kind : Value)) rfl; have e1_ := eb_.cellv (i := 1) (v := (.int .i64 n.fr : Value)) rfl; have e2_ := eb_.cellv (i := 2) (v := (.int .i64 n.tw : Value)) rfl; have e3_ := eb_.cellv (i := 3) (v := (.slice (some ⟨g17, 0, none⟩) n.nums.length (n.nums.length + 1) : Value)) rfl; have e4_ := eb_.cellv (i := 4) (v := (.slice A39 n.ops.length c40 : Value)) rfl; have e5_ := eb_.cellv (i := 5) (v := (.slice A59 n.ents.length c60 : Value)) rfl; simp [go_sem, sEv, sLook, nbeq, i64_w, -List.getD_eq_getElem?_getD, e0_, e1_, e2_, e3_, e4_, e5_, Try.underlying26]) ?_
  have hb77 := (hk69.keep hk71 (by omega))
  refine rw_store (g := g7) (i := 0) (l := [.int .i64 n.kind, .int .i64 n.fr, .int .i64 n.tw, .slice (some ⟨g17, 0, none⟩) n.nums.length (n.nums.length + 1), .slice A39 n.ops.length c40, .slice A59 n.ents.length c60]) (cs' := #[.int .i64 n.kind, .int .i64 n.fr, .int .i64 n.tw, .slice (some ⟨g17, 0, none⟩) n.nums.length (n.nums.length + 1), .slice A39 n.ops.length c40, .slice A59 n.ents.length c60]) rfl rfl rfl hb77 rfl (by have e0_ := hb77.cellv (i := 0) (v := (.int .i64 0 : Value)) rfl; have f0_ := hb77.frozen 0; have e1_ := hb77.cellv (i := 1) (v := (.int .i64 0 : Value)) rfl; have f1_ := hb77.frozen 1; have e2_ := hb77.cellv (i := 2) (v := (.int .i64 0 : Value)) rfl; have f2_ := hb77.frozen 2; have e3_ := hb77.cellv (i := 3) (v := (.slice none 0 0 : Value)) rfl; have f3_ := hb77.frozen 3; have e4_ := hb77.cellv (i := 4) (v := (.slice none 0 0 : Value)) rfl; have f4_ := hb77.frozen 4; have e5_ := hb77.cellv (i := 5) (v := (.slice none 0 0 : Value)) rfl; have f5_ := hb77.frozen 5; simp [go_sem, sEv, sLook, nbeq, i64_w, -List.getD_eq_getElem?_getD, putCells, e0_, f0_, e1_, f1_, e2_, f2_, e3_, f3_, e4_, f4_, e5_, f5_, Try.underlying26]) ?_
  intro w74 hk75 hk76
  have hs_w74 := hk75.size
  refine rw_end ?_
  refine w_ret (post_retc (v := .agg #[.int .i64 n.kind, .int .i64 n.fr, .int .i64 n.tw, .slice (some ⟨g17, 0, none⟩) n.nums.length (n.nums.length + 1), .slice A39 n.ops.length c40, .slice A59 n.ents.length c60]) rfl rfl (by have eb_ := hk76; have e0_ := eb_.cellv (i := 0) (v := (.int .i64 n.kind : Value)) rfl; have e1_ := eb_.cellv (i := 1) (v := (.int .i64 n.fr : Value)) rfl; have e2_ := eb_.cellv (i := 2) (v := (.int .i64 n.tw : Value)) rfl; have e3_ := eb_.cellv (i := 3) (v := (.slice (some ⟨g17, 0, none⟩) n.nums.length (n.nums.length + 1) : Value)) rfl; have e4_ := eb_.cellv (i := 4) (v := (.slice A39 n.ops.length c40 : Value)) rfl; have e5_ := eb_.cellv (i := 5) (v := (.slice A59 n.ents.length c60 : Value)) rfl; simp [go_sem, e0_, e1_, e2_, e3_, e4_, e5_, Try.underlying26]) ?_)
  exact ⟨_, _, _, _, _, _, rfl, (OwnK.mono (d := (Kd.int .i64)) (own_keep (d := (Kd.int .i64)) (own_keep (d := (Kd.int .i64)) hO66 hk68 (by decide) hk71) (hk69.keep hk71 (by omega)) (by decide) hk75) (by omega)), (OwnK.mono (d := kOp) (own_keep (d := kOp) (own_keep (d := kOp) hO67 hk68 (by decide) hk71) (hk69.keep hk71 (by omega)) (by decide) hk75) (by omega)), (OwnK.mono (d := kEntry) (own_keep (d := kEntry) (own_keep (d := kEntry) hO62 hk68 (by decide) hk71) (hk69.keep hk71 (by omega)) (by decide) hk75) (by omega)), (hk75.below (by omega) (hk71.below (by omega) hB63))⟩
end Go.Proofs.Ytbbhdohjhipalaa.Ce
end
