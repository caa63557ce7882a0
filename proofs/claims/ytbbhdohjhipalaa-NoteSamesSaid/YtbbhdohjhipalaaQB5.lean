/- Parts of the proofs of noteForms_holds, noteSames_holds: NtNums, NtRd, NtRead, NtNote, NtCode, NtEnc, NtDec, NtAlive, NtLive. -/
import Derived.Test.YtbbhdohjhipalaaQB4
section
namespace Go.Proofs.Ytbbhdohjhipalaa.Ce
open Go.RowKit Go.Proofs.YtbbhdohjhipalaaW.PrintWords Go.Proofs.YtbbhdohjhipalaaW.PrintLast Go.Proofs.YtbbhdohjhipalaaW.PrintMore
open Go.Proofs.Ytbbhdohjhipalaa.Flow
set_option linter.unusedVariables false
set_option linter.unusedSimpArgs false
set_option maxHeartbeats 4000000 in
theorem notenums_calls (w : World) (n : NT) (A3 : Option Addr) (c3 : Nat) (A4 : Option Addr) (c4 : Nat) (A5 : Option Addr) (c5 : Nat) (hn3 : (Kd.int .i64).C w A3 n.nums.length n.nums) (hc3 : n.nums.length ≤ c3) (hn4 : kOp.C w A4 n.ops.length n.ops) (hc4 : n.ops.length ≤ c4) (hn5 : kEntry.C w A5 n.ents.length n.ents) (hc5 : n.ents.length ≤ c5) (hk3 : n.nums.length ≤ 1000) (hk4 : n.ops.length ≤ 1000) (hk5 : n.ents.length ≤ 1000) :
  Calls Try.prog 29 #[.agg #[.int .i64 n.kind, .int .i64 n.fr, .int .i64 n.tw, .slice A3 n.nums.length c3, .slice A4 n.ops.length c4, .slice A5 n.ents.length c5]] w fun e w' => ∃ A' c', e = .returned (.slice A' (listN n).length c') ∧ OwnK (Kd.int .i64) 3 w' w.heap.size w.heap.size A' (listN n).length c' (listN n) ∧ Below w.heap.size w w' := by
 have hko_ : ∀ j, (opsL (n.ops.take j)).length ≤ 5000 := fun j => by rw [opsL_len, List.length_take]; omega
 have hke_ : ∀ j, (entsL (n.ents.take j)).length ≤ 142000 := fun j => by have q_ := entsL_len (n.ents.take j); rw [List.length_take] at q_; omega
 refine calls_flow Try.func29 rfl 76 rfl (Nat.le_of_ble_eq_true rfl) [(0, .agg #[.int .i64 n.kind, .int .i64 n.fr, .int .i64 n.tw, .slice A3 n.nums.length c3, .slice A4 n.ops.length c4, .slice A5 n.ents.length c5])] ?_ ?_
 ·
  intro t v h; exact args_look rfl t v h
 refine w_seq ?_
 refine w_region ?_
 refine rw_new (cs := #[.int .i64 n.kind, .int .i64 n.fr, .int .i64 n.tw, .slice A3 n.nums.length c3, .slice A4 n.ops.length c4, .slice A5 n.ents.length c5]) (t := 26) (fun g => .pointer (some ⟨g, 0, none⟩)) rfl rfl rfl rfl (by simp [go_sem, sEv, sLook, nbeq, i64_w, -List.getD_eq_getElem?_getD]) ?_
 intro g1 w2 hg6 hz5 hb3 hk4
 have hs_w2 := hb3.size
 refine rv (.slice none 0 0) ?_
 refine rw_end ?_
 refine w_seq ?_
 refine w_region ?_
 refine rz (.pointer (some ⟨g1, 0, none⟩)) (by simp [go_sem, sEv, sLook, nbeq, i64_w, -List.getD_eq_getElem?_getD, Try.underlying26]) ?_
 refine rz (.int .i64 n.kind) (by have eb_ := hk4; have e0_ := eb_.cellv (i := 0) (v := (.int .i64 n.kind : Value)) rfl; simp [go_sem, sEv, sLook, nbeq, i64_w, -List.getD_eq_getElem?_getD, e0_]) ?_
 refine rz (.pointer (some ⟨g1, 1, none⟩)) (by simp [go_sem, sEv, sLook, nbeq, i64_w, -List.getD_eq_getElem?_getD, Try.underlying26]) ?_
 refine rz (.int .i64 n.fr) (by have eb_ := hk4; have e0_ := eb_.cellv (i := 1) (v := (.int .i64 n.fr : Value)) rfl; simp [go_sem, sEv, sLook, nbeq, i64_w, -List.getD_eq_getElem?_getD, e0_]) ?_
 refine rz (.pointer (some ⟨g1, 2, none⟩)) (by simp [go_sem, sEv, sLook, nbeq, i64_w, -List.getD_eq_getElem?_getD, Try.underlying26]) ?_
 refine rz (.int .i64 n.tw) (by have eb_ := hk4; have e0_ := eb_.cellv (i := 2) (v := (.int .i64 n.tw : Value)) rfl; simp [go_sem, sEv, sLook, nbeq, i64_w, -List.getD_eq_getElem?_getD, e0_]) ?_
 refine rz (.pointer (some ⟨g1, 3, none⟩)) (by simp [go_sem, sEv, sLook, nbeq, i64_w, -List.getD_eq_getElem?_getD, Try.underlying26]) ?_
 refine rz (.slice A3 n.nums.length c3) (by have eb_ := hk4; have e0_ := eb_.cellv (i := 3) (v := (.slice A3 n.nums.length c3 : Value)) rfl; simp [go_sem, sEv, sLook, nbeq, i64_w, -List.getD_eq_getElem?_getD, e0_, Try.underlying22]) ?_
 refine rz (.int .i64 ((n.nums.length : Nat) : Int)) (by simp [go_sem, sEv, sLook, nbeq, i64_w, -List.getD_eq_getElem?_getD]) ?_
 refine rw_new (cs := #[.int .i64 n.kind, .int .i64 n.fr, .int .i64 n.tw, .int .i64 ((n.nums.length : Nat) : Int)]) (t := 3) (fun g => .slice (some ⟨g, 0, none⟩) 4 4) rfl rfl rfl rfl (by kernel_rfl) ?_
 intro g7 w8 hg12 hz11 hb9 hk10
 have hs_w8 := hb9.size
 have hk10r : OwnK (Kd.int .i64) 3 w8 w.heap.size g7 (some ⟨g7, 0, none⟩) 4 4 ([n.kind, n.fr, n.tw, ((n.nums.length : Nat) : Int)] : List Int) := scal_own w.heap.size hk10 (by omega) rfl rfl (by simp)
 refine rv (.slice (some ⟨g7, 0, none⟩) 4 4) ?_
 refine rw_end ?_
 refine w_weaken (G' := [(1, .pointer (some ⟨g1, 0, none⟩)), (2, .slice none 0 0), (3, .slice (some ⟨g7, 0, none⟩) 4 4)]) ⟨rfl, rfl, rfl, trivial⟩ ?_
 refine w_seq ?_
 have oA13 : OwnK (Kd.int .i64) 3 w8 w.heap.size g7 (some ⟨g7, 0, none⟩) 4 4 ([n.kind, n.fr, n.tw, ((n.nums.length : Nat) : Int)] : List Int) := hk10r
 refine w_drawa (M := [0, 0, 2, 7, 0, 16, 48, 112, 255, 511]) (ss := [Is (.slice (some ⟨g7, 0, none⟩) 4 4), Is (.pointer (some ⟨g1, 3, none⟩)), Is (.slice A3 n.nums.length c3), (OwnKSpec (Kd.int .i64) 3 w.heap.size g7 (([n.kind, n.fr, n.tw, ((n.nums.length : Nat) : Int)] : List Int) ++ n.nums)), Is (.pointer (some ⟨g1, 4, none⟩)), Is (.slice A4 n.ops.length c4), Is (.int .i64 ((n.ops.length : Nat) : Int)), SlcSpec w8.heap.size 3 #[.int .i64 ((n.ops.length : Nat) : Int)] 1]) (fun q_ => (Value.slice (some ⟨g7, 0, none⟩) 4 4).ownBlock = some q_) 3 (fun W_ => Below w.heap.size w W_ ∧ OwnK (Kd.int .i64) 3 W_ w.heap.size g7 (some ⟨g7, 0, none⟩) 4 4 ([n.kind, n.fr, n.tw, ((n.nums.length : Nat) : Int)] : List Int)) (fun W_ => Below w.heap.size w W_) 8 rfl (by decide +kernel) (stabx (q := 3) (show StabX _ 3 _ from ⟨stab_is, ⟨stab_is, ⟨stab_is, (stab_cons stab_is (stab_cons stab_is (stab_cons stab_is (stab_cons (stab_slc (fun q_ h_ hs_ => by have q2_ := own_lt (d := (Kd.int .i64)) oA13 hs_; omega)) stab_nil))))⟩⟩⟩)) (fun _ _ hb_ h_ => ⟨chain h_.1 hb_, OwnK.on (d := (Kd.int .i64)) h_.2 hb_⟩) (fun _ _ hb_ h_ => chain h_ hb_) ⟨chain (chain hb3 hb9) (below_drew _), OwnK.on (d := (Kd.int .i64)) oA13 (below_drew _)⟩ ?_
 refine u_is (by kernel_rfl) (.slice (some ⟨g7, 0, none⟩) 4 4) rfl rfl rfl rfl (fun W_ hW_ h1_ F_ => rfl) ?_
 refine u_is (by kernel_rfl) (.pointer (some ⟨g1, 3, none⟩)) rfl rfl rfl rfl (fun W_ hW_ h1_ F_ => by simp [go_sem, sEv, sLook, nbeq, i64_w, -List.getD_eq_getElem?_getD, Try.underlying26]) ?_
 refine u_is (by kernel_rfl) (.slice A3 n.nums.length c3) rfl rfl rfl rfl (fun W_ hW_ h1_ F_ => by have eb_ := (Blk.kept (hk4.on hb9) (drew_kept hW_) (own_ne_blk (d := (Kd.int .i64)) oA13 (hk4.on hb9) (.inr (by decide)))); have e0_ := eb_.cellv (i := 3) (v := (.slice A3 n.nums.length c3 : Value)) rfl; simp [go_sem, sEv, sLook, nbeq, i64_w, -List.getD_eq_getElem?_getD, e0_, Try.underlying22]) ?_
 refine u_app (OwnKSpec (Kd.int .i64) 3 w.heap.size g7 (([n.kind, n.fr, n.tw, ((n.nums.length : Nat) : Int)] : List Int) ++ n.nums)) (by kernel_rfl) rfl rfl rfl rfl (fun W_ hW_ h0_ F_ => own_app_k (d := (Kd.int .i64)) w.heap.size g7 (.tmp 18) (.tmp 20) 22 3 (.int .i64 0) 8 rfl (by kernel_rfl) (by kernel_rfl) rfl (show 0 < 1 by decide) (by decide) (fun _ _ h => h) rfl rfl (by have q_ := h0_.1.size; have q2_ := (drew_kept hW_).1; omega) (by omega) h0_ (Kd.C_below hn3 h0_.1) h0_.1.size (by have q1_ := hko_ n.ops.length; have q2_ := hke_ n.ents.length; simp only [List.take_length] at q1_ q2_; simp only [List.length_append, List.length_cons, List.length_nil]; first | omega | (have q3_ := hko_ j; omega) | (have q4_ := hke_ i; have q5_ := nums_len (n.ents.getD i EL.zero).c; have q6_ := pr_len (n.ents.getD i EL.zero).c.h 65; omega))) ?_
 rintro _ ⟨A14, c15, rfl, hle16⟩
 refine u_is (by kernel_rfl) (.pointer (some ⟨g1, 4, none⟩)) rfl rfl rfl rfl (fun W_ hW_ h1_ F_ => by simp [go_sem, sEv, sLook, nbeq, i64_w, -List.getD_eq_getElem?_getD, Try.underlying26]) ?_
 refine u_is (by kernel_rfl) (.slice A4 n.ops.length c4) rfl rfl rfl rfl (fun W_ hW_ h1_ F_ => by have eb_ := (Blk.kept (hk4.on hb9) (drew_kept hW_) (own_ne_blk (d := (Kd.int .i64)) oA13 (hk4.on hb9) (.inr (by decide)))); have e0_ := eb_.cellv (i := 4) (v := (.slice A4 n.ops.length c4 : Value)) rfl; simp [go_sem, sEv, sLook, nbeq, i64_w, -List.getD_eq_getElem?_getD, e0_, Try.underlying23]) ?_
 refine u_is (by kernel_rfl) (.int .i64 ((n.ops.length : Nat) : Int)) rfl rfl rfl rfl (fun W_ hW_ h1_ F_ => (by simp [go_sem, sEv, sLook, nbeq, i64_w, -List.getD_eq_getElem?_getD])) ?_
 refine u_val (by kernel_rfl) (SlcSpec w8.heap.size 3 #[.int .i64 ((n.ops.length : Nat) : Int)] 1) rfl rfl rfl rfl (fun W_ hW_ h1_ F_ => slc_gives _ _ _ _ (drew_kept hW_).1 (by kernel_rfl)) ?_
 rintro _ ⟨g18, rfl⟩
 refine u_tail ?_
 intro w21 hK22_ h24 F23
 have hK22 := drew_kept hK22_
 have hs_w21 := hK22.1
 have hgs_w21 := h24.size
 have hk25 := Blk.kept (hk4.on hb9) hK22 (own_ne_blk (d := (Kd.int .i64)) oA13 (hk4.on hb9) (.inr (by decide)))
 have hO17 : OwnK (Kd.int .i64) 3 w21 w.heap.size g7 A14 (([n.kind, n.fr, n.tw, ((n.nums.length : Nat) : Int)] : List Int) ++ n.nums).length c15 (([n.kind, n.fr, n.tw, ((n.nums.length : Nat) : Int)] : List Int) ++ n.nums) := ownk_fact (F23 3 (OwnKSpec (Kd.int .i64) 3 w.heap.size g7 (([n.kind, n.fr, n.tw, ((n.nums.length : Nat) : Int)] : List Int) ++ n.nums)) (.slice A14 (([n.kind, n.fr, n.tw, ((n.nums.length : Nat) : Int)] : List Int) ++ n.nums).length c15) (by kernel_rfl))
 obtain ⟨hge20, hk19⟩ := slc_fact (F23 7 _ _ rfl)
 have hlt_g18 := hk19.lt
 clear F23
 have hk19r : OwnK (Kd.int .i64) 3 w21 w.heap.size g18 (some ⟨g18, 0, none⟩) 1 1 ([((n.ops.length : Nat) : Int)] : List Int) := scal_own w.heap.size hk19 (by omega) rfl rfl (by simp)
 have oA32 : OwnK (Kd.int .i64) 3 w21 w.heap.size g7 A14 ((([n.kind, n.fr, n.tw, ((n.nums.length : Nat) : Int)] : List Int) ++ n.nums).length) c15 (([n.kind, n.fr, n.tw, ((n.nums.length : Nat) : Int)] : List Int) ++ n.nums) := hO17
 refine rw_append_kd (d := (Kd.int .i64)) w.heap.size rfl rfl rfl (.tmp 21) (.tmp 25) rfl rfl 22 3 (.int .i64 0) 8 rfl (by kernel_rfl) (by kernel_rfl) rfl (show 0 < 1 by decide) (by decide) (fun _ _ h => h) (b := g7) rfl rfl (by omega) oA32 (OwnK.Cn (d := (Kd.int .i64)) hk19r) h24 (by omega) (by have q1_ := hko_ n.ops.length; have q2_ := hke_ n.ents.length; simp only [List.take_length] at q1_ q2_; simp only [List.length_append, List.length_cons, List.length_nil]; first | omega | (have q3_ := hko_ j; omega) | (have q4_ := hke_ i; have q5_ := nums_len (n.ents.getD i EL.zero).c; have q6_ := pr_len (n.ents.getD i EL.zero).c.h 65; omega)) ?_
 intro A26 c27 w28 hO29 hB30 hG31
 have hs_w28 := hB30.size
 have hgs_w28 := hG31.size
 have hk34 := OwnK.blk_grown hk25 oA32 (.inr (by decide)) hG31
 refine rv (.slice A26 (((([n.kind, n.fr, n.tw, ((n.nums.length : Nat) : Int)] : List Int) ++ n.nums) ++ ([((n.ops.length : Nat) : Int)] : List Int)).length) c27) ?_
 refine rw_end ?_
 refine w_weaken (G' := [(1, .pointer (some ⟨g1, 0, none⟩)), (2, .slice none 0 0), (3, .slice A26 (((([n.kind, n.fr, n.tw, ((n.nums.length : Nat) : Int)] : List Int) ++ n.nums) ++ ([((n.ops.length : Nat) : Int)] : List Int)).length) c27)]) ⟨rfl, rfl, rfl, trivial⟩ ?_
 refine w_seq ?_
 refine w_seq ?_
 refine w_region ?_
 refine rz (.pointer (some ⟨g1, 4, none⟩)) (by simp [go_sem, sEv, sLook, nbeq, i64_w, -List.getD_eq_getElem?_getD, Try.underlying26]) ?_
 refine rz (.slice A4 n.ops.length c4) (by have eb_ := hk34; have e0_ := eb_.cellv (i := 4) (v := (.slice A4 n.ops.length c4 : Value)) rfl; simp [go_sem, sEv, sLook, nbeq, i64_w, -List.getD_eq_getElem?_getD, e0_, Try.underlying23]) ?_
 refine rz (.int .i64 ((n.ops.length : Nat) : Int)) (by simp [go_sem, sEv, sLook, nbeq, i64_w, -List.getD_eq_getElem?_getD]) ?_
 refine rv (.int .i64 0) ?_
 refine rw_end ?_
 refine w_weaken (G' := [(1, .pointer (some ⟨g1, 0, none⟩)), (2, .slice none 0 0), (3, .slice A26 (((([n.kind, n.fr, n.tw, ((n.nums.length : Nat) : Int)] : List Int) ++ n.nums) ++ ([((n.ops.length : Nat) : Int)] : List Int)).length) c27), (28, .slice A4 n.ops.length c4), (29, .int .i64 ((n.ops.length : Nat) : Int)), (30, .int .i64 0)]) ⟨rfl, rfl, rfl, rfl, rfl, rfl, trivial⟩ ?_
 refine w_block ?_
 have e35 : ((([n.kind, n.fr, n.tw, ((n.nums.length : Nat) : Int)] : List Int) ++ n.nums) ++ ([((n.ops.length : Nat) : Int)] : List Int)) = ((([n.kind, n.fr, n.tw, (n.nums.length : Int)] ++ n.nums) ++ [(n.ops.length : Int)]) ++ opsL (n.ops.take 0)) := by (unfold opsL; simp)
 have hO36 : OwnK (Kd.int .i64) 3 w28 w.heap.size g7 A26 ((([n.kind, n.fr, n.tw, (n.nums.length : Int)] ++ n.nums) ++ [(n.ops.length : Int)]) ++ opsL (n.ops.take 0)).length c27 ((([n.kind, n.fr, n.tw, (n.nums.length : Int)] ++ n.nums) ++ [(n.ops.length : Int)]) ++ opsL (n.ops.take 0)) := by rw [← e35]; exact OwnK.full hO29
 have en37 : ((([n.kind, n.fr, n.tw, ((n.nums.length : Nat) : Int)] : List Int) ++ n.nums) ++ ([((n.ops.length : Nat) : Int)] : List Int)).length = ((([n.kind, n.fr, n.tw, (n.nums.length : Int)] ++ n.nums) ++ [(n.ops.length : Int)]) ++ opsL (n.ops.take 0)).length := by rw [← e35] <;> exact OwnK.len (d := (Kd.int .i64)) hO29
 refine w_loop (fun m_ G W_ => ∃ (j : Nat) (A3_ : Option Addr) (c3_ : Nat), j + m_ = n.ops.length ∧ Below w.heap.size w W_ ∧ OwnK (Kd.int .i64) 3 W_ w.heap.size w.heap.size A3_ ((([n.kind, n.fr, n.tw, (n.nums.length : Int)] ++ n.nums) ++ [(n.ops.length : Int)]) ++ opsL (n.ops.take j)).length c3_ ((([n.kind, n.fr, n.tw, (n.nums.length : Int)] ++ n.nums) ++ [(n.ops.length : Int)]) ++ opsL (n.ops.take j)) ∧ (Blk W_ g1 26 #[.int .i64 n.kind, .int .i64 n.fr, .int .i64 n.tw, .slice A3 n.nums.length c3, .slice A4 n.ops.length c4, .slice A5 n.ents.length c5]) ∧ G = [(1, .pointer (some ⟨g1, 0, none⟩)), (3, .slice A3_ (((([n.kind, n.fr, n.tw, (n.nums.length : Int)] ++ n.nums) ++ [(n.ops.length : Int)]) ++ opsL (n.ops.take j)).length) c3_), (28, .slice A4 n.ops.length c4), (29, .int .i64 ((n.ops.length : Nat) : Int)), (30, .int .i64 ((j : Nat) : Int))]) n.ops.length [(1, .pointer (some ⟨g1, 0, none⟩)), (3, .slice A26 (((([n.kind, n.fr, n.tw, (n.nums.length : Int)] ++ n.nums) ++ [(n.ops.length : Int)]) ++ opsL (n.ops.take 0)).length) c27), (28, .slice A4 n.ops.length c4), (29, .int .i64 ((n.ops.length : Nat) : Int)), (30, .int .i64 0)] ⟨0, A26, c27, by omega, hB30, (OwnK.mono (d := (Kd.int .i64)) hO36 (by omega)), hk34, rfl⟩ ⟨rfl, (by first | rfl | (rw [← en37]; rfl)), rfl, rfl, rfl, trivial⟩ ?_
 rintro m_ G w_L38 ⟨j, A3_, c3_, hp39, hB_L38, hO3_, hf40, rfl⟩
 have hs_w_L38 := hB_L38.size
 have hltb_ := hf40.lt
 refine w_seq ?_
 refine w_region ?_
 refine rz (.bool (decide (((j : Nat) : Int) < ((n.ops.length : Nat) : Int)))) (by simp [go_sem, sEv, sLook, nbeq, i64_w, -List.getD_eq_getElem?_getD]) ?_
 refine rw_end ?_
 refine w_seq ?_
 refine w_cond rfl rfl (fun cJ => ?_) (fun cJ => ?_)
 ·
  have l41 : (((j : Nat) : Int) < ((n.ops.length : Nat) : Int)) := of_decide_eq_true cJ
  refine w_skip ?_
  refine w_seq ?_
  refine w_block ?_
  refine w_seq ?_
  refine w_region ?_
  obtain ⟨ad42, hA43, hc44⟩ := flat_at (Kd.C_below hn4 hB_L38) (0, 0, 0, 0, 0) j (by first | omega | decide)
  subst hA43
  have he45 : w_L38.cell? (ad42.add (j * 5)) = some (.int .i64 ((n.ops.getD j (0, 0, 0, 0, 0)).1)) := cell_0 (hc44 0 _ rfl)
  have he46 : w_L38.cell? ⟨(ad42.add (j * 5)).block, (ad42.add (j * 5)).off + 1, none⟩ = some (.int .i64 ((n.ops.getD j (0, 0, 0, 0, 0)).2.1)) := cell_j (hc44 1 _ rfl)
  have he47 : w_L38.cell? ⟨(ad42.add (j * 5)).block, (ad42.add (j * 5)).off + 2, none⟩ = some (.int .i64 ((n.ops.getD j (0, 0, 0, 0, 0)).2.2.1)) := cell_j (hc44 2 _ rfl)
  have he48 : w_L38.cell? ⟨(ad42.add (j * 5)).block, (ad42.add (j * 5)).off + 3, none⟩ = some (.int .i64 ((n.ops.getD j (0, 0, 0, 0, 0)).2.2.2.1)) := cell_j (hc44 3 _ rfl)
  have he49 : w_L38.cell? ⟨(ad42.add (j * 5)).block, (ad42.add (j * 5)).off + 4, none⟩ = some (.int .i64 ((n.ops.getD j (0, 0, 0, 0, 0)).2.2.2.2)) := cell_j (hc44 4 _ rfl)
  refine rz (.pointer (some (ad42.add (j * 5)))) (run_as (run_at_k (P := Try.prog) (e := 73) (sz := 5) (by kernel_rfl) (by kernel_rfl) j (by first | omega | decide) _)) ?_
  refine rz (.agg #[.int .i64 ((n.ops.getD j (0, 0, 0, 0, 0)).1), .int .i64 ((n.ops.getD j (0, 0, 0, 0, 0)).2.1), .int .i64 ((n.ops.getD j (0, 0, 0, 0, 0)).2.2.1), .int .i64 ((n.ops.getD j (0, 0, 0, 0, 0)).2.2.2.1), .int .i64 ((n.ops.getD j (0, 0, 0, 0, 0)).2.2.2.2)]) (by have e0_ := cellOn he45 (Below.refl _ _); have e1_ := cellOn he46 (Below.refl _ _); have e2_ := cellOn he47 (Below.refl _ _); have e3_ := cellOn he48 (Below.refl _ _); have e4_ := cellOn he49 (Below.refl _ _); simp [go_sem, sEv, sLook, nbeq, i64_w, -List.getD_eq_getElem?_getD, e0_, e1_, e2_, e3_, e4_, Try.underlying73]) ?_
  refine rw_new (cs := #[.int .i64 0, .int .i64 0, .int .i64 0, .int .i64 0, .int .i64 0]) (t := 73) (fun g => .pointer (some ⟨g, 0, none⟩)) rfl rfl rfl rfl (by kernel_rfl) ?_
  intro g50 w51 hg55 hz54 hb52 hk53
  have hs_w51 := hb52.size
  have hb59 := hk53
  refine rw_store (g := g50) (i := 0) (l := [.int .i64 ((n.ops.getD j (0, 0, 0, 0, 0)).1), .int .i64 ((n.ops.getD j (0, 0, 0, 0, 0)).2.1), .int .i64 ((n.ops.getD j (0, 0, 0, 0, 0)).2.2.1), .int .i64 ((n.ops.getD j (0, 0, 0, 0, 0)).2.2.2.1), .int .i64 ((n.ops.getD j (0, 0, 0, 0, 0)).2.2.2.2)]) (cs' := #[.int .i64 ((n.ops.getD j (0, 0, 0, 0, 0)).1), .int .i64 ((n.ops.getD j (0, 0, 0, 0, 0)).2.1), .int .i64 ((n.ops.getD j (0, 0, 0, 0, 0)).2.2.1), .int .i64 ((n.ops.getD j (0, 0, 0, 0, 0)).2.2.2.1), .int .i64 ((n.ops.getD j (0, 0, 0, 0, 0)).2.2.2.2)]) rfl rfl rfl hb59 rfl (by have e0_ := hb59.cellv (i := 0) (v := (.int .i64 0 : Value)) rfl; have f0_ := hb59.frozen 0; have e1_ := hb59.cellv (i := 1) (v := (.int .i64 0 : Value)) rfl; have f1_ := hb59.frozen 1; have e2_ := hb59.cellv (i := 2) (v := (.int .i64 0 : Value)) rfl; have f2_ := hb59.frozen 2; have e3_ := hb59.cellv (i := 3) (v := (.int .i64 0 : Value)) rfl; have f3_ := hb59.frozen 3; have e4_ := hb59.cellv (i := 4) (v := (.int .i64 0 : Value)) rfl; have f4_ := hb59.frozen 4; simp [go_sem, sEv, sLook, nbeq, i64_w, -List.getD_eq_getElem?_getD, putCells, e0_, f0_, e1_, f1_, e2_, f2_, e3_, f3_, e4_, f4_, Try.underlying73]) ?_
  intro w56 hk57 hk58
  have hs_w56 := hk57.size
  refine rw_end ?_
  refine w_weaken (G' := [(1, .pointer (some ⟨g1, 0, none⟩)), (3, .slice A3_ (((([n.kind, n.fr, n.tw, (n.nums.length : Int)] ++ n.nums) ++ [(n.ops.length : Int)]) ++ opsL (n.ops.take j)).length) c3_), (5, .pointer (some ⟨g50, 0, none⟩)), (28, .slice (some ad42) n.ops.length c4), (29, .int .i64 ((n.ops.length : Nat) : Int)), (30, .int .i64 ((j : Nat) : Int))]) ⟨rfl, rfl, rfl, rfl, rfl, rfl, trivial⟩ ?_
  refine w_region ?_
  refine rv (.slice A3_ (((([n.kind, n.fr, n.tw, (n.nums.length : Int)] ++ n.nums) ++ [(n.ops.length : Int)]) ++ opsL (n.ops.take j)).length) c3_) ?_
  refine rz (.pointer (some ⟨g50, 0, none⟩)) (by simp [go_sem, sEv, sLook, nbeq, i64_w, -List.getD_eq_getElem?_getD, Try.underlying73]) ?_
  refine rz (.int .i64 ((n.ops.getD j (0, 0, 0, 0, 0)).1)) (by have eb_ := hk58; have e0_ := eb_.cellv (i := 0) (v := (.int .i64 ((n.ops.getD j (0, 0, 0, 0, 0)).1) : Value)) rfl; simp [go_sem, sEv, sLook, nbeq, i64_w, -List.getD_eq_getElem?_getD, e0_]) ?_
  refine rz (.pointer (some ⟨g50, 1, none⟩)) (by simp [go_sem, sEv, sLook, nbeq, i64_w, -List.getD_eq_getElem?_getD, Try.underlying73]) ?_
  refine rz (.int .i64 ((n.ops.getD j (0, 0, 0, 0, 0)).2.1)) (by have eb_ := hk58; have e0_ := eb_.cellv (i := 1) (v := (.int .i64 ((n.ops.getD j (0, 0, 0, 0, 0)).2.1) : Value)) rfl; simp [go_sem, sEv, sLook, nbeq, i64_w, -List.getD_eq_getElem?_getD, e0_]) ?_
  refine rz (.pointer (some ⟨g50, 2, none⟩)) (by simp [go_sem, sEv, sLook, nbeq, i64_w, -List.getD_eq_getElem?_getD, Try.underlying73]) ?_
  refine rz (.int .i64 ((n.ops.getD j (0, 0, 0, 0, 0)).2.2.1)) (by have eb_ := hk58; have e0_ := eb_.cellv (i := 2) (v := (.int .i64 ((n.ops.getD j (0, 0, 0, 0, 0)).2.2.1) : Value)) rfl; simp [go_sem, sEv, sLook, nbeq, i64_w, -List.getD_eq_getElem?_getD, e0_]) ?_
  refine rz (.pointer (some ⟨g50, 3, none⟩)) (by simp [go_sem, sEv, sLook, nbeq, i64_w, -List.getD_eq_getElem?_getD, Try.underlying73]) ?_
  refine rz (.int .i64 ((n.ops.getD j (0, 0, 0, 0, 0)).2.2.2.1)) (by have eb_ := hk58; have e0_ := eb_.cellv (i := 3) (v := (.int .i64 ((n.ops.getD j (0, 0, 0, 0, 0)).2.2.2.1) : Value)) rfl; simp [go_sem, sEv, sLook, nbeq, i64_w, -List.getD_eq_getElem?_getD, e0_]) ?_
  refine rz (.pointer (some ⟨g50, 4, none⟩)) (by simp [go_sem, sEv, sLook, nbeq, i64_w, -List.getD_eq_getElem?_getD, Try.underlying73]) ?_
  refine rz (.int .i64 ((n.ops.getD j (0, 0, 0, 0, 0)).2.2.2.2)) (by have eb_ := hk58; have e0_ := eb_.cellv (i := 4) (v := (.int .i64 ((n.ops.getD j (0, 0, 0, 0, 0)).2.2.2.2) : Value)) rfl; simp [go_sem, sEv, sLook, nbeq, i64_w, -List.getD_eq_getElem?_getD, e0_]) ?_
  refine rw_new (cs := #[.int .i64 ((n.ops.getD j (0, 0, 0, 0, 0)).1), .int .i64 ((n.ops.getD j (0, 0, 0, 0, 0)).2.1), .int .i64 ((n.ops.getD j (0, 0, 0, 0, 0)).2.2.1), .int .i64 ((n.ops.getD j (0, 0, 0, 0, 0)).2.2.2.1), .int .i64 ((n.ops.getD j (0, 0, 0, 0, 0)).2.2.2.2)]) (t := 3) (fun g => .slice (some ⟨g, 0, none⟩) 5 5) rfl rfl rfl rfl (by kernel_rfl) ?_
  intro g60 w61 hg65 hz64 hb62 hk63
  have hs_w61 := hb62.size
  have hk63r : OwnK (Kd.int .i64) 3 w61 w.heap.size g60 (some ⟨g60, 0, none⟩) 5 5 ([(n.ops.getD j (0, 0, 0, 0, 0)).1, (n.ops.getD j (0, 0, 0, 0, 0)).2.1, (n.ops.getD j (0, 0, 0, 0, 0)).2.2.1, (n.ops.getD j (0, 0, 0, 0, 0)).2.2.2.1, (n.ops.getD j (0, 0, 0, 0, 0)).2.2.2.2] : List Int) := scal_own w.heap.size hk63 (by omega) rfl rfl (by simp)
  have oA72 : OwnK (Kd.int .i64) 3 w61 w.heap.size w.heap.size A3_ (((([n.kind, n.fr, n.tw, (n.nums.length : Int)] ++ n.nums) ++ [(n.ops.length : Int)]) ++ opsL (n.ops.take j)).length) c3_ ((([n.kind, n.fr, n.tw, (n.nums.length : Int)] ++ n.nums) ++ [(n.ops.length : Int)]) ++ opsL (n.ops.take j)) := (OwnK.on (d := (Kd.int .i64)) (own_keep (d := (Kd.int .i64)) (OwnK.on (d := (Kd.int .i64)) hO3_ hb52) hk53 (by decide) hk57) hb62)
  refine rw_append_kd (d := (Kd.int .i64)) w.heap.size rfl rfl rfl (.tmp 34) (.tmp 45) rfl rfl 22 3 (.int .i64 0) 8 rfl (by kernel_rfl) (by kernel_rfl) rfl (show 0 < 1 by decide) (by decide) (fun _ _ h => h) (b := w.heap.size) rfl rfl (by omega) oA72 (OwnK.Cn (d := (Kd.int .i64)) hk63r) (chain (hk57.below (by omega) (chain hB_L38 hb52)) hb62) (by omega) (by have q1_ := hko_ n.ops.length; have q2_ := hke_ n.ents.length; simp only [List.take_length] at q1_ q2_; simp only [List.length_append, List.length_cons, List.length_nil]; first | omega | (have q3_ := hko_ j; omega) | (have q4_ := hke_ i; have q5_ := nums_len (n.ents.getD i EL.zero).c; have q6_ := pr_len (n.ents.getD i EL.zero).c.h 65; omega)) ?_
  intro A66 c67 w68 hO69 hB70 hG71
  have hs_w68 := hB70.size
  have hgs_w68 := hG71.size
  have hk74 := OwnK.blk_grown (((hf40.on hb52).keep hk57 (by omega)).on hb62) oA72 (.inr (by decide)) hG71
  have hk75 := OwnK.blk_grown (hk58.on hb62) oA72 (.inr (by decide)) hG71
  refine rv (.slice A66 ((((([n.kind, n.fr, n.tw, (n.nums.length : Int)] ++ n.nums) ++ [(n.ops.length : Int)]) ++ opsL (n.ops.take j)) ++ ([(n.ops.getD j (0, 0, 0, 0, 0)).1, (n.ops.getD j (0, 0, 0, 0, 0)).2.1, (n.ops.getD j (0, 0, 0, 0, 0)).2.2.1, (n.ops.getD j (0, 0, 0, 0, 0)).2.2.2.1, (n.ops.getD j (0, 0, 0, 0, 0)).2.2.2.2] : List Int)).length) c67) ?_
  refine rw_end ?_
  refine w_weaken (G' := [(1, .pointer (some ⟨g1, 0, none⟩)), (3, .slice A66 ((((([n.kind, n.fr, n.tw, (n.nums.length : Int)] ++ n.nums) ++ [(n.ops.length : Int)]) ++ opsL (n.ops.take j)) ++ ([(n.ops.getD j (0, 0, 0, 0, 0)).1, (n.ops.getD j (0, 0, 0, 0, 0)).2.1, (n.ops.getD j (0, 0, 0, 0, 0)).2.2.1, (n.ops.getD j (0, 0, 0, 0, 0)).2.2.2.1, (n.ops.getD j (0, 0, 0, 0, 0)).2.2.2.2] : List Int)).length) c67), (28, .slice (some ad42) n.ops.length c4), (29, .int .i64 ((n.ops.length : Nat) : Int)), (30, .int .i64 ((j : Nat) : Int))]) ⟨rfl, rfl, rfl, rfl, rfl, trivial⟩ ?_
  refine w_blk ?_
  refine w_region ?_
  refine rz (.int .i64 ((j + 1 : Nat) : Int)) (by simp [go_sem, sEv, sLook, nbeq, i64_w, -List.getD_eq_getElem?_getD]; exact wrap_id (by omega) (by omega)) ?_
  refine rv (.int .i64 ((j + 1 : Nat) : Int)) ?_
  refine rw_end ?_
  have e76 : (((([n.kind, n.fr, n.tw, (n.nums.length : Int)] ++ n.nums) ++ [(n.ops.length : Int)]) ++ opsL (n.ops.take j)) ++ ([(n.ops.getD j (0, 0, 0, 0, 0)).1, (n.ops.getD j (0, 0, 0, 0, 0)).2.1, (n.ops.getD j (0, 0, 0, 0, 0)).2.2.1, (n.ops.getD j (0, 0, 0, 0, 0)).2.2.2.1, (n.ops.getD j (0, 0, 0, 0, 0)).2.2.2.2] : List Int)) = ((([n.kind, n.fr, n.tw, (n.nums.length : Int)] ++ n.nums) ++ [(n.ops.length : Int)]) ++ opsL (n.ops.take (j + 1))) := by (unfold opsL; rw [flat_snoc opL n.ops j (0, 0, 0, 0, 0) (by omega)]; simp only [List.append_assoc]; rfl)
  have hO77 : OwnK (Kd.int .i64) 3 w68 w.heap.size w.heap.size A66 ((([n.kind, n.fr, n.tw, (n.nums.length : Int)] ++ n.nums) ++ [(n.ops.length : Int)]) ++ opsL (n.ops.take (j + 1))).length c67 ((([n.kind, n.fr, n.tw, (n.nums.length : Int)] ++ n.nums) ++ [(n.ops.length : Int)]) ++ opsL (n.ops.take (j + 1))) := by rw [← e76]; exact OwnK.full hO69
  have en78 : (((([n.kind, n.fr, n.tw, (n.nums.length : Int)] ++ n.nums) ++ [(n.ops.length : Int)]) ++ opsL (n.ops.take j)) ++ ([(n.ops.getD j (0, 0, 0, 0, 0)).1, (n.ops.getD j (0, 0, 0, 0, 0)).2.1, (n.ops.getD j (0, 0, 0, 0, 0)).2.2.1, (n.ops.getD j (0, 0, 0, 0, 0)).2.2.2.1, (n.ops.getD j (0, 0, 0, 0, 0)).2.2.2.2] : List Int)).length = ((([n.kind, n.fr, n.tw, (n.nums.length : Int)] ++ n.nums) ++ [(n.ops.length : Int)]) ++ opsL (n.ops.take (j + 1))).length := by rw [← e76] <;> exact OwnK.len (d := (Kd.int .i64)) hO69
  exact w_back (m_ - 1) [(1, .pointer (some ⟨g1, 0, none⟩)), (3, .slice A66 (((([n.kind, n.fr, n.tw, (n.nums.length : Int)] ++ n.nums) ++ [(n.ops.length : Int)]) ++ opsL (n.ops.take (j + 1))).length) c67), (28, .slice (some ad42) n.ops.length c4), (29, .int .i64 ((n.ops.length : Nat) : Int)), (30, .int .i64 ((j + 1 : Nat) : Int))] (by omega) ⟨rfl, (by first | rfl | (rw [← en78]; rfl)), rfl, rfl, rfl, trivial⟩ ⟨(j + 1), A66, c67, by omega, hB70, (OwnK.mono (d := (Kd.int .i64)) hO77 (by omega)), hk74, rfl⟩
 ·
  have l79 : ¬ (((j : Nat) : Int) < ((n.ops.length : Nat) : Int)) := of_decide_eq_false cJ
  refine w_exit rfl ?_
  refine w_seq ?_
  refine w_region ?_
  refine rv (.slice A3_ (((([n.kind, n.fr, n.tw, (n.nums.length : Int)] ++ n.nums) ++ [(n.ops.length : Int)]) ++ opsL (n.ops.take j)).length) c3_) ?_
  refine rz (.pointer (some ⟨g1, 5, none⟩)) (by simp [go_sem, sEv, sLook, nbeq, i64_w, -List.getD_eq_getElem?_getD, Try.underlying26]) ?_
  refine rz (.slice A5 n.ents.length c5) (by have eb_ := hf40; have e0_ := eb_.cellv (i := 5) (v := (.slice A5 n.ents.length c5 : Value)) rfl; simp [go_sem, sEv, sLook, nbeq, i64_w, -List.getD_eq_getElem?_getD, e0_, Try.underlying24]) ?_
  refine rz (.int .i64 ((n.ents.length : Nat) : Int)) (by simp [go_sem, sEv, sLook, nbeq, i64_w, -List.getD_eq_getElem?_getD]) ?_
  refine rw_new (cs := #[.int .i64 ((n.ents.length : Nat) : Int)]) (t := 3) (fun g => .slice (some ⟨g, 0, none⟩) 1 1) rfl rfl rfl rfl (by kernel_rfl) ?_
  intro g80 w81 hg85 hz84 hb82 hk83
  have hs_w81 := hb82.size
  have hk83r : OwnK (Kd.int .i64) 3 w81 w.heap.size g80 (some ⟨g80, 0, none⟩) 1 1 ([((n.ents.length : Nat) : Int)] : List Int) := scal_own w.heap.size hk83 (by omega) rfl rfl (by simp)
  have oA92 : OwnK (Kd.int .i64) 3 w81 w.heap.size w.heap.size A3_ (((([n.kind, n.fr, n.tw, (n.nums.length : Int)] ++ n.nums) ++ [(n.ops.length : Int)]) ++ opsL (n.ops.take j)).length) c3_ ((([n.kind, n.fr, n.tw, (n.nums.length : Int)] ++ n.nums) ++ [(n.ops.length : Int)]) ++ opsL (n.ops.take j)) := (OwnK.on (d := (Kd.int .i64)) hO3_ hb82)
  refine rw_append_kd (d := (Kd.int .i64)) w.heap.size rfl rfl rfl (.tmp 48) (.tmp 52) rfl rfl 22 3 (.int .i64 0) 8 rfl (by kernel_rfl) (by kernel_rfl) rfl (show 0 < 1 by decide) (by decide) (fun _ _ h => h) (b := w.heap.size) rfl rfl (by omega) oA92 (OwnK.Cn (d := (Kd.int .i64)) hk83r) (chain hB_L38 hb82) (by omega) (by have q1_ := hko_ n.ops.length; have q2_ := hke_ n.ents.length; simp only [List.take_length] at q1_ q2_; simp only [List.length_append, List.length_cons, List.length_nil]; first | omega | (have q3_ := hko_ j; omega) | (have q4_ := hke_ i; have q5_ := nums_len (n.ents.getD i EL.zero).c; have q6_ := pr_len (n.ents.getD i EL.zero).c.h 65; omega)) ?_
  intro A86 c87 w88 hO89 hB90 hG91
  have hs_w88 := hB90.size
  have hgs_w88 := hG91.size
  have hk94 := OwnK.blk_grown (hf40.on hb82) oA92 (.inr (by decide)) hG91
  refine rv (.slice A86 ((((([n.kind, n.fr, n.tw, (n.nums.length : Int)] ++ n.nums) ++ [(n.ops.length : Int)]) ++ opsL (n.ops.take j)) ++ ([((n.ents.length : Nat) : Int)] : List Int)).length) c87) ?_
  refine rw_end ?_
  refine w_weaken (G' := [(1, .pointer (some ⟨g1, 0, none⟩)), (3, .slice A86 ((((([n.kind, n.fr, n.tw, (n.nums.length : Int)] ++ n.nums) ++ [(n.ops.length : Int)]) ++ opsL (n.ops.take j)) ++ ([((n.ents.length : Nat) : Int)] : List Int)).length) c87)]) ⟨rfl, rfl, trivial⟩ ?_
  refine w_seq ?_
  refine w_seq ?_
  refine w_region ?_
  refine rz (.pointer (some ⟨g1, 5, none⟩)) (by simp [go_sem, sEv, sLook, nbeq, i64_w, -List.getD_eq_getElem?_getD, Try.underlying26]) ?_
  refine rz (.slice A5 n.ents.length c5) (by have eb_ := hk94; have e0_ := eb_.cellv (i := 5) (v := (.slice A5 n.ents.length c5 : Value)) rfl; simp [go_sem, sEv, sLook, nbeq, i64_w, -List.getD_eq_getElem?_getD, e0_, Try.underlying24]) ?_
  refine rz (.int .i64 ((n.ents.length : Nat) : Int)) (by simp [go_sem, sEv, sLook, nbeq, i64_w, -List.getD_eq_getElem?_getD]) ?_
  refine rv (.int .i64 0) ?_
  refine rw_end ?_
  refine w_weaken (G' := [(3, .slice A86 ((((([n.kind, n.fr, n.tw, (n.nums.length : Int)] ++ n.nums) ++ [(n.ops.length : Int)]) ++ opsL (n.ops.take j)) ++ ([((n.ents.length : Nat) : Int)] : List Int)).length) c87), (55, .slice A5 n.ents.length c5), (56, .int .i64 ((n.ents.length : Nat) : Int)), (57, .int .i64 0)]) ⟨rfl, rfl, rfl, rfl, trivial⟩ ?_
  refine w_block ?_
  have e95 : (((([n.kind, n.fr, n.tw, (n.nums.length : Int)] ++ n.nums) ++ [(n.ops.length : Int)]) ++ opsL (n.ops.take j)) ++ ([((n.ents.length : Nat) : Int)] : List Int)) = ((((([n.kind, n.fr, n.tw, (n.nums.length : Int)] ++ n.nums) ++ [(n.ops.length : Int)]) ++ opsL n.ops) ++ [(n.ents.length : Int)]) ++ entsL (n.ents.take 0)) := by (unfold entsL; rw [List.take_of_length_le (by omega)]; simp)
  have hO96 : OwnK (Kd.int .i64) 3 w88 w.heap.size w.heap.size A86 ((((([n.kind, n.fr, n.tw, (n.nums.length : Int)] ++ n.nums) ++ [(n.ops.length : Int)]) ++ opsL n.ops) ++ [(n.ents.length : Int)]) ++ entsL (n.ents.take 0)).length c87 ((((([n.kind, n.fr, n.tw, (n.nums.length : Int)] ++ n.nums) ++ [(n.ops.length : Int)]) ++ opsL n.ops) ++ [(n.ents.length : Int)]) ++ entsL (n.ents.take 0)) := by rw [← e95]; exact OwnK.full hO89
  have en97 : (((([n.kind, n.fr, n.tw, (n.nums.length : Int)] ++ n.nums) ++ [(n.ops.length : Int)]) ++ opsL (n.ops.take j)) ++ ([((n.ents.length : Nat) : Int)] : List Int)).length = ((((([n.kind, n.fr, n.tw, (n.nums.length : Int)] ++ n.nums) ++ [(n.ops.length : Int)]) ++ opsL n.ops) ++ [(n.ents.length : Int)]) ++ entsL (n.ents.take 0)).length := by rw [← e95] <;> exact OwnK.len (d := (Kd.int .i64)) hO89
  refine w_loop (fun m_ G W_ => ∃ (i : Nat) (A3_ : Option Addr) (c3_ : Nat), i + m_ = n.ents.length ∧ Below w.heap.size w W_ ∧ OwnK (Kd.int .i64) 3 W_ w.heap.size w.heap.size A3_ ((((([n.kind, n.fr, n.tw, (n.nums.length : Int)] ++ n.nums) ++ [(n.ops.length : Int)]) ++ opsL n.ops) ++ [(n.ents.length : Int)]) ++ entsL (n.ents.take i)).length c3_ ((((([n.kind, n.fr, n.tw, (n.nums.length : Int)] ++ n.nums) ++ [(n.ops.length : Int)]) ++ opsL n.ops) ++ [(n.ents.length : Int)]) ++ entsL (n.ents.take i)) ∧ G = [(3, .slice A3_ (((((([n.kind, n.fr, n.tw, (n.nums.length : Int)] ++ n.nums) ++ [(n.ops.length : Int)]) ++ opsL n.ops) ++ [(n.ents.length : Int)]) ++ entsL (n.ents.take i)).length) c3_), (55, .slice A5 n.ents.length c5), (56, .int .i64 ((n.ents.length : Nat) : Int)), (57, .int .i64 ((i : Nat) : Int))]) n.ents.length [(3, .slice A86 (((((([n.kind, n.fr, n.tw, (n.nums.length : Int)] ++ n.nums) ++ [(n.ops.length : Int)]) ++ opsL n.ops) ++ [(n.ents.length : Int)]) ++ entsL (n.ents.take 0)).length) c87), (55, .slice A5 n.ents.length c5), (56, .int .i64 ((n.ents.length : Nat) : Int)), (57, .int .i64 0)] ⟨0, A86, c87, by omega, hB90, (OwnK.mono (d := (Kd.int .i64)) hO96 (by omega)), rfl⟩ ⟨(by first | rfl | (rw [← en97]; rfl)), rfl, rfl, rfl, trivial⟩ ?_
  rintro m_ G w_L98 ⟨i, A3_, c3_, hp99, hB_L98, hO3_, rfl⟩
  have hs_w_L98 := hB_L98.size
  refine w_seq ?_
  refine w_region ?_
  refine rz (.bool (decide (((i : Nat) : Int) < ((n.ents.length : Nat) : Int)))) (by simp [go_sem, sEv, sLook, nbeq, i64_w, -List.getD_eq_getElem?_getD]) ?_
  refine rw_end ?_
  refine w_seq ?_
  refine w_cond rfl rfl (fun cI => ?_) (fun cI => ?_)
  ·
   have l100 : (((i : Nat) : Int) < ((n.ents.length : Nat) : Int)) := of_decide_eq_true cI
   refine w_skip ?_
   refine w_seq ?_
   refine w_block ?_
   refine w_seq ?_
   refine w_region ?_
   obtain ⟨ad101, hA102, hc103⟩ := flat_at (Kd.C_below hn5 hB_L98) EL.zero i (by first | omega | decide)
   subst hA102
   refine rz (.pointer (some (ad101.add (i * 76)))) (run_as (run_at_k (P := Try.prog) (e := 83) (sz := 76) (by kernel_rfl) (by kernel_rfl) i (by first | omega | decide) _)) ?_
   refine rz (.agg (earr (n.ents.getD i EL.zero))) (run_as (load_eel (x := (n.ents.getD i EL.zero)) (fun j u hj => cellOn (hc103 j u hj) (Below.refl _ _)))) ?_
   refine rw_new (cs := earr EL.zero) (t := 83) (fun g => .pointer (some ⟨g, 0, none⟩)) rfl rfl rfl rfl (by kernel_rfl) ?_
   intro g104 w105 hg109 hz108 hb106 hk107
   have hs_w105 := hb106.size
   refine rw_seg (g := g104) (off := 0) (ty := 83) (p := .tmp 7) (x := .tmp 60) (v := .agg (earr (n.ents.getD i EL.zero))) (cs' := earr (n.ents.getD i EL.zero)) rfl rfl rfl rfl rfl rfl hk107 (by show (sizeOf 83).run _ _ = .ok (earr _).size _; rw [earr_size]; kernel_rfl) (Nat.le_of_eq (by rw [Nat.zero_add]; exact (earr_size _).trans (earr_size _).symm)) (encE_one _) (seg_eall EL.zero (n.ents.getD i EL.zero)) ?_
   intro w110 hk111 hb112
   have hs_w110 := hk111.size
   refine rw_end ?_
   refine w_weaken (G' := [(3, .slice A3_ (((((([n.kind, n.fr, n.tw, (n.nums.length : Int)] ++ n.nums) ++ [(n.ops.length : Int)]) ++ opsL n.ops) ++ [(n.ents.length : Int)]) ++ entsL (n.ents.take i)).length) c3_), (7, .pointer (some ⟨g104, 0, none⟩)), (55, .slice (some ad101) n.ents.length c5), (56, .int .i64 ((n.ents.length : Nat) : Int)), (57, .int .i64 ((i : Nat) : Int))]) ⟨rfl, rfl, rfl, rfl, rfl, trivial⟩ ?_
   have oA113 : OwnK (Kd.int .i64) 3 w110 w.heap.size w.heap.size A3_ (((((([n.kind, n.fr, n.tw, (n.nums.length : Int)] ++ n.nums) ++ [(n.ops.length : Int)]) ++ opsL n.ops) ++ [(n.ents.length : Int)]) ++ entsL (n.ents.take i)).length) c3_ ((((([n.kind, n.fr, n.tw, (n.nums.length : Int)] ++ n.nums) ++ [(n.ops.length : Int)]) ++ opsL n.ops) ++ [(n.ents.length : Int)]) ++ entsL (n.ents.take i)) := (own_keep (d := (Kd.int .i64)) (OwnK.on (d := (Kd.int .i64)) hO3_ hb106) hk107 (by decide) hk111)
   refine w_drawa (M := [0, 0, 2, 6, 0, 16, 48, 126, 255, 0, 512, 2047, 4095, 8191]) (ss := [Is (.slice A3_ (((((([n.kind, n.fr, n.tw, (n.nums.length : Int)] ++ n.nums) ++ [(n.ops.length : Int)]) ++ opsL n.ops) ++ [(n.ents.length : Int)]) ++ entsL (n.ents.take i)).length) c3_), Is (.pointer (some ⟨g104, 0, none⟩)), Is (.pointer (some ⟨g104, 0, none⟩)), Is (.int .i64 ((n.ents.getD i EL.zero).win)), Is (.pointer (some ⟨g104, 0, none⟩)), Is (.pointer (some ⟨g104, 1, none⟩)), Is (.int .i64 ((n.ents.getD i EL.zero).key)), SlcSpec w110.heap.size 3 #[.int .i64 ((n.ents.getD i EL.zero).win), .int .i64 ((n.ents.getD i EL.zero).key)] 2, (OwnKSpec (Kd.int .i64) 3 w.heap.size w.heap.size (((((([n.kind, n.fr, n.tw, (n.nums.length : Int)] ++ n.nums) ++ [(n.ops.length : Int)]) ++ opsL n.ops) ++ [(n.ents.length : Int)]) ++ entsL (n.ents.take i)) ++ ([(n.ents.getD i EL.zero).win, (n.ents.getD i EL.zero).key] : List Int))), Is (.pointer (some ⟨g104, 2, none⟩)), Is (.agg (carr ((n.ents.getD i EL.zero).c)))]) (fun q_ => (Value.slice A3_ (((((([n.kind, n.fr, n.tw, (n.nums.length : Int)] ++ n.nums) ++ [(n.ops.length : Int)]) ++ opsL n.ops) ++ [(n.ents.length : Int)]) ++ entsL (n.ents.take i)).length) c3_).ownBlock = some q_) 8 (fun W_ => Below w.heap.size w W_ ∧ OwnK (Kd.int .i64) 3 W_ w.heap.size w.heap.size A3_ (((((([n.kind, n.fr, n.tw, (n.nums.length : Int)] ++ n.nums) ++ [(n.ops.length : Int)]) ++ opsL n.ops) ++ [(n.ents.length : Int)]) ++ entsL (n.ents.take i)).length) c3_ ((((([n.kind, n.fr, n.tw, (n.nums.length : Int)] ++ n.nums) ++ [(n.ops.length : Int)]) ++ opsL n.ops) ++ [(n.ents.length : Int)]) ++ entsL (n.ents.take i))) (fun W_ => Below w.heap.size w W_) 11 rfl (by decide +kernel) (stabx (q := 8) (show StabX _ 8 _ from ⟨stab_is, ⟨stab_is, ⟨stab_is, ⟨stab_is, ⟨stab_is, ⟨stab_is, ⟨stab_is, ⟨(stab_slc (fun q_ h_ hs_ => by have q2_ := own_lt (d := (Kd.int .i64)) oA113 hs_; omega)), (stab_cons stab_is (stab_cons stab_is stab_nil))⟩⟩⟩⟩⟩⟩⟩⟩)) (fun _ _ hb_ h_ => ⟨chain h_.1 hb_, OwnK.on (d := (Kd.int .i64)) h_.2 hb_⟩) (fun _ _ hb_ h_ => chain h_ hb_) ⟨chain (hk111.below (by omega) (chain hB_L98 hb106)) (below_drew _), OwnK.on (d := (Kd.int .i64)) oA113 (below_drew _)⟩ ?_
   refine u_is (by kernel_rfl) (.slice A3_ (((((([n.kind, n.fr, n.tw, (n.nums.length : Int)] ++ n.nums) ++ [(n.ops.length : Int)]) ++ opsL n.ops) ++ [(n.ents.length : Int)]) ++ entsL (n.ents.take i)).length) c3_) rfl rfl rfl rfl (fun W_ hW_ h1_ F_ => rfl) ?_
   refine u_is (by kernel_rfl) (.pointer (some ⟨g104, 0, none⟩)) rfl rfl rfl rfl (fun W_ hW_ h1_ F_ => by simp [go_sem, sEv, sLook, nbeq, i64_w, -List.getD_eq_getElem?_getD, Try.underlying83]) ?_
   refine u_is (by kernel_rfl) (.pointer (some ⟨g104, 0, none⟩)) rfl rfl rfl rfl (fun W_ hW_ h1_ F_ => by simp [go_sem, sEv, sLook, nbeq, i64_w, -List.getD_eq_getElem?_getD, Try.underlying55]) ?_
   refine u_is (by kernel_rfl) (.int .i64 ((n.ents.getD i EL.zero).win)) rfl rfl rfl rfl (fun W_ hW_ h1_ F_ => (by have eb_ := (Blk.kept hb112 (drew_kept hW_) (own_ne_blk (d := (Kd.int .i64)) oA113 hb112 (.inr (by decide)))); have e0_ := eb_.cellv (v := .int .i64 ((n.ents.getD i EL.zero).win)) (eA0 (n.ents.getD i EL.zero)); simp [go_sem, sEv, sLook, nbeq, i64_w, -List.getD_eq_getElem?_getD, e0_])) ?_
   refine u_is (by kernel_rfl) (.pointer (some ⟨g104, 0, none⟩)) rfl rfl rfl rfl (fun W_ hW_ h1_ F_ => by simp [go_sem, sEv, sLook, nbeq, i64_w, -List.getD_eq_getElem?_getD, Try.underlying83]) ?_
   refine u_is (by kernel_rfl) (.pointer (some ⟨g104, 1, none⟩)) rfl rfl rfl rfl (fun W_ hW_ h1_ F_ => by simp [go_sem, sEv, sLook, nbeq, i64_w, -List.getD_eq_getElem?_getD, Try.underlying55]) ?_
   refine u_is (by kernel_rfl) (.int .i64 ((n.ents.getD i EL.zero).key)) rfl rfl rfl rfl (fun W_ hW_ h1_ F_ => (by have eb_ := (Blk.kept hb112 (drew_kept hW_) (own_ne_blk (d := (Kd.int .i64)) oA113 hb112 (.inr (by decide)))); have e0_ := eb_.cellv (v := .int .i64 ((n.ents.getD i EL.zero).key)) (eA1 (n.ents.getD i EL.zero)); simp [go_sem, sEv, sLook, nbeq, i64_w, -List.getD_eq_getElem?_getD, e0_])) ?_
   refine u_val (by kernel_rfl) (SlcSpec w110.heap.size 3 #[.int .i64 ((n.ents.getD i EL.zero).win), .int .i64 ((n.ents.getD i EL.zero).key)] 2) rfl rfl rfl rfl (fun W_ hW_ h1_ F_ => slc_gives _ _ _ _ (drew_kept hW_).1 (by kernel_rfl)) ?_
   rintro _ ⟨g114, rfl⟩
   refine u_app (OwnKSpec (Kd.int .i64) 3 w.heap.size w.heap.size (((((([n.kind, n.fr, n.tw, (n.nums.length : Int)] ++ n.nums) ++ [(n.ops.length : Int)]) ++ opsL n.ops) ++ [(n.ents.length : Int)]) ++ entsL (n.ents.take i)) ++ ([(n.ents.getD i EL.zero).win, (n.ents.getD i EL.zero).key] : List Int))) (by kernel_rfl) rfl rfl rfl rfl (fun W_ hW_ h0_ F_ => own_app_k (d := (Kd.int .i64)) w.heap.size w.heap.size (.tmp 61) (.tmp 68) 22 3 (.int .i64 0) 8 rfl (by kernel_rfl) (by kernel_rfl) rfl (show 0 < 1 by decide) (by decide) (fun _ _ h => h) rfl rfl (by have q_ := h0_.1.size; have q2_ := (drew_kept hW_).1; omega) (by omega) h0_ (OwnK.C (d := (Kd.int .i64)) (scal_own (e := 3) (cap := 2) (xs := ([(n.ents.getD i EL.zero).win, (n.ents.getD i EL.zero).key] : List Int)) 0 (slc_fact (F_ 7 _ _ rfl rfl)).2 (Nat.zero_le _) rfl rfl (by simp))) h0_.1.size (by have q1_ := hko_ n.ops.length; have q2_ := hke_ n.ents.length; simp only [List.take_length] at q1_ q2_; simp only [List.length_append, List.length_cons, List.length_nil]; first | omega | (have q3_ := hko_ j; omega) | (have q4_ := hke_ i; have q5_ := nums_len (n.ents.getD i EL.zero).c; have q6_ := pr_len (n.ents.getD i EL.zero).c.h 65; omega))) ?_
   rintro _ ⟨A117, c118, rfl, hle119⟩
   refine u_is (by kernel_rfl) (.pointer (some ⟨g104, 2, none⟩)) rfl rfl rfl rfl (fun W_ hW_ h1_ F_ => by simp [go_sem, sEv, sLook, nbeq, i64_w, -List.getD_eq_getElem?_getD, Try.underlying83]) ?_
   refine u_is (by kernel_rfl) (.agg (carr ((n.ents.getD i EL.zero).c))) rfl rfl rfl rfl (fun W_ hW_ h1_ F_ => (run_as (load_ecell (x := (n.ents.getD i EL.zero)) (Blk.kept hb112 (drew_kept hW_) (own_ne_blk (d := (Kd.int .i64)) oA113 hb112 (.inr (by decide))))))) ?_
   refine u_tail ?_
   intro w121 hK122_ h124 F123
   have hK122 := drew_kept hK122_
   have hs_w121 := hK122.1
   have hgs_w121 := h124.size
   have hk125 := Blk.kept hb112 hK122 (own_ne_blk (d := (Kd.int .i64)) oA113 hb112 (.inr (by decide)))
   obtain ⟨hge116, hk115⟩ := slc_fact (F123 7 _ _ rfl)
   have hlt_g114 := hk115.lt
   have hO120 : OwnK (Kd.int .i64) 3 w121 w.heap.size w.heap.size A117 (((((([n.kind, n.fr, n.tw, (n.nums.length : Int)] ++ n.nums) ++ [(n.ops.length : Int)]) ++ opsL n.ops) ++ [(n.ents.length : Int)]) ++ entsL (n.ents.take i)) ++ ([(n.ents.getD i EL.zero).win, (n.ents.getD i EL.zero).key] : List Int)).length c118 (((((([n.kind, n.fr, n.tw, (n.nums.length : Int)] ++ n.nums) ++ [(n.ops.length : Int)]) ++ opsL n.ops) ++ [(n.ents.length : Int)]) ++ entsL (n.ents.take i)) ++ ([(n.ents.getD i EL.zero).win, (n.ents.getD i EL.zero).key] : List Int)) := ownk_fact (F123 8 (OwnKSpec (Kd.int .i64) 3 w.heap.size w.heap.size (((((([n.kind, n.fr, n.tw, (n.nums.length : Int)] ++ n.nums) ++ [(n.ops.length : Int)]) ++ opsL n.ops) ++ [(n.ents.length : Int)]) ++ entsL (n.ents.take i)) ++ ([(n.ents.getD i EL.zero).win, (n.ents.getD i EL.zero).key] : List Int))) (.slice A117 (((((([n.kind, n.fr, n.tw, (n.nums.length : Int)] ++ n.nums) ++ [(n.ops.length : Int)]) ++ opsL n.ops) ++ [(n.ents.length : Int)]) ++ entsL (n.ents.take i)) ++ ([(n.ents.getD i EL.zero).win, (n.ents.getD i EL.zero).key] : List Int)).length c118) (by kernel_rfl))
   clear F123
   have hk115r : OwnK (Kd.int .i64) 3 w121 w.heap.size g114 (some ⟨g114, 0, none⟩) 2 2 ([(n.ents.getD i EL.zero).win, (n.ents.getD i EL.zero).key] : List Int) := scal_own w.heap.size hk115 (by omega) rfl rfl (by simp)
   refine rw_call rfl rfl rfl rfl (f := 50) (args := #[.agg (carr ((n.ents.getD i EL.zero).c))]) (by simp [go_sem, sEv, sLook, nbeq, i64_w, -List.getD_eq_getElem?_getD]) ((nums_calls w121 ((n.ents.getD i EL.zero).c))) ?_
   rintro e_ w128 ⟨A126, c127, rfl, hO129, hB130⟩
   refine ⟨_, rfl, ?_⟩
   have hs_w128 := hB130.size
   have hL131 : OwnK (Kd.int .i64) 3 w128 w.heap.size w121.heap.size A126 (numsC ((n.ents.getD i EL.zero).c)).length c127 (numsC ((n.ents.getD i EL.zero).c)) := OwnK.lower hO129 (by omega)
   have oA138 : OwnK (Kd.int .i64) 3 w128 w.heap.size w.heap.size A117 ((((((([n.kind, n.fr, n.tw, (n.nums.length : Int)] ++ n.nums) ++ [(n.ops.length : Int)]) ++ opsL n.ops) ++ [(n.ents.length : Int)]) ++ entsL (n.ents.take i)) ++ ([(n.ents.getD i EL.zero).win, (n.ents.getD i EL.zero).key] : List Int)).length) c118 (((((([n.kind, n.fr, n.tw, (n.nums.length : Int)] ++ n.nums) ++ [(n.ops.length : Int)]) ++ opsL n.ops) ++ [(n.ents.length : Int)]) ++ entsL (n.ents.take i)) ++ ([(n.ents.getD i EL.zero).win, (n.ents.getD i EL.zero).key] : List Int)) := (OwnK.on (d := (Kd.int .i64)) hO120 hB130)
   refine rw_append_kd (d := (Kd.int .i64)) w.heap.size rfl rfl rfl (.tmp 69) (.tmp 72) rfl rfl 22 3 (.int .i64 0) 8 rfl (by kernel_rfl) (by kernel_rfl) rfl (show 0 < 1 by decide) (by decide) (fun _ _ h => h) (b := w.heap.size) rfl rfl (by omega) oA138 (OwnK.Cn (d := (Kd.int .i64)) hL131) (chain h124 hB130) (by omega) (by have q1_ := hko_ n.ops.length; have q2_ := hke_ n.ents.length; simp only [List.take_length] at q1_ q2_; simp only [List.length_append, List.length_cons, List.length_nil]; first | omega | (have q3_ := hko_ j; omega) | (have q4_ := hke_ i; have q5_ := nums_len (n.ents.getD i EL.zero).c; have q6_ := pr_len (n.ents.getD i EL.zero).c.h 65; omega)) ?_
   intro A132 c133 w134 hO135 hB136 hG137
   have hs_w134 := hB136.size
   have hgs_w134 := hG137.size
   have hk141 := OwnK.blk_grown (hk125.on hB130) oA138 (.inr (by decide)) hG137
   refine rv (.slice A132 (((((((([n.kind, n.fr, n.tw, (n.nums.length : Int)] ++ n.nums) ++ [(n.ops.length : Int)]) ++ opsL n.ops) ++ [(n.ents.length : Int)]) ++ entsL (n.ents.take i)) ++ ([(n.ents.getD i EL.zero).win, (n.ents.getD i EL.zero).key] : List Int)) ++ (numsC ((n.ents.getD i EL.zero).c))).length) c133) ?_
   refine rw_end ?_
   refine w_weaken (G' := [(3, .slice A132 (((((((([n.kind, n.fr, n.tw, (n.nums.length : Int)] ++ n.nums) ++ [(n.ops.length : Int)]) ++ opsL n.ops) ++ [(n.ents.length : Int)]) ++ entsL (n.ents.take i)) ++ ([(n.ents.getD i EL.zero).win, (n.ents.getD i EL.zero).key] : List Int)) ++ (numsC ((n.ents.getD i EL.zero).c))).length) c133), (55, .slice (some ad101) n.ents.length c5), (56, .int .i64 ((n.ents.length : Nat) : Int)), (57, .int .i64 ((i : Nat) : Int))]) ⟨rfl, rfl, rfl, rfl, trivial⟩ ?_
   refine w_blk ?_
   refine w_region ?_
   refine rz (.int .i64 ((i + 1 : Nat) : Int)) (by simp [go_sem, sEv, sLook, nbeq, i64_w, -List.getD_eq_getElem?_getD]; exact wrap_id (by omega) (by omega)) ?_
   refine rv (.int .i64 ((i + 1 : Nat) : Int)) ?_
   refine rw_end ?_
   have e142 : ((((((([n.kind, n.fr, n.tw, (n.nums.length : Int)] ++ n.nums) ++ [(n.ops.length : Int)]) ++ opsL n.ops) ++ [(n.ents.length : Int)]) ++ entsL (n.ents.take i)) ++ ([(n.ents.getD i EL.zero).win, (n.ents.getD i EL.zero).key] : List Int)) ++ (numsC ((n.ents.getD i EL.zero).c))) = ((((([n.kind, n.fr, n.tw, (n.nums.length : Int)] ++ n.nums) ++ [(n.ops.length : Int)]) ++ opsL n.ops) ++ [(n.ents.length : Int)]) ++ entsL (n.ents.take (i + 1))) := by (unfold entsL; rw [flat_snoc entL n.ents i EL.zero (by omega)]; unfold entL; simp only [List.append_assoc])
   have hO143 : OwnK (Kd.int .i64) 3 w134 w.heap.size w.heap.size A132 ((((([n.kind, n.fr, n.tw, (n.nums.length : Int)] ++ n.nums) ++ [(n.ops.length : Int)]) ++ opsL n.ops) ++ [(n.ents.length : Int)]) ++ entsL (n.ents.take (i + 1))).length c133 ((((([n.kind, n.fr, n.tw, (n.nums.length : Int)] ++ n.nums) ++ [(n.ops.length : Int)]) ++ opsL n.ops) ++ [(n.ents.length : Int)]) ++ entsL (n.ents.take (i + 1))) := by rw [← e142]; exact OwnK.full hO135
   have en144 : ((((((([n.kind, n.fr, n.tw, (n.nums.length : Int)] ++ n.nums) ++ [(n.ops.length : Int)]) ++ opsL n.ops) ++ [(n.ents.length : Int)]) ++ entsL (n.ents.take i)) ++ ([(n.ents.getD i EL.zero).win, (n.ents.getD i EL.zero).key] : List Int)) ++ (numsC ((n.ents.getD i EL.zero).c))).length = ((((([n.kind, n.fr, n.tw, (n.nums.length : Int)] ++ n.nums) ++ [(n.ops.length : Int)]) ++ opsL n.ops) ++ [(n.ents.length : Int)]) ++ entsL (n.ents.take (i + 1))).length := by rw [← e142] <;> exact OwnK.len (d := (Kd.int .i64)) hO135
   exact w_back (m_ - 1) [(3, .slice A132 (((((([n.kind, n.fr, n.tw, (n.nums.length : Int)] ++ n.nums) ++ [(n.ops.length : Int)]) ++ opsL n.ops) ++ [(n.ents.length : Int)]) ++ entsL (n.ents.take (i + 1))).length) c133), (55, .slice (some ad101) n.ents.length c5), (56, .int .i64 ((n.ents.length : Nat) : Int)), (57, .int .i64 ((i + 1 : Nat) : Int))] (by omega) ⟨(by first | rfl | (rw [← en144]; rfl)), rfl, rfl, rfl, trivial⟩ ⟨(i + 1), A132, c133, by omega, hB136, (OwnK.mono (d := (Kd.int .i64)) hO143 (by omega)), rfl⟩
  ·
   have l145 : ¬ (((i : Nat) : Int) < ((n.ents.length : Nat) : Int)) := of_decide_eq_false cI
   refine w_exit rfl ?_
   refine w_seq ?_
   refine w_region ?_
   refine rv (.slice A3_ (((((([n.kind, n.fr, n.tw, (n.nums.length : Int)] ++ n.nums) ++ [(n.ops.length : Int)]) ++ opsL n.ops) ++ [(n.ents.length : Int)]) ++ entsL (n.ents.take i)).length) c3_) ?_
   refine rv (.slice A3_ (((((([n.kind, n.fr, n.tw, (n.nums.length : Int)] ++ n.nums) ++ [(n.ops.length : Int)]) ++ opsL n.ops) ++ [(n.ents.length : Int)]) ++ entsL (n.ents.take i)).length) c3_) ?_
   refine rw_end ?_
   refine w_ret (post_ret1 rfl rfl ?_)
   have eX_ : ((((([n.kind, n.fr, n.tw, (n.nums.length : Int)] ++ n.nums) ++ [(n.ops.length : Int)]) ++ opsL n.ops) ++ [(n.ents.length : Int)]) ++ entsL (n.ents.take i)) = listN n := by rw [List.take_of_length_le (by omega)]; unfold listN; rfl
   have hf_ := hO3_
   rw [eX_] at hf_
   rw [eX_]
   exact ⟨_, _, rfl, OwnK.mono (d := (Kd.int .i64)) hf_ (by omega), hB_L98⟩
end Go.Proofs.Ytbbhdohjhipalaa.Ce
end
section
namespace Go.Proofs.Ytbbhdohjhipalaa.Ce
open Go.RowKit Go.Proofs.YtbbhdohjhipalaaW.PrintWords Go.Proofs.YtbbhdohjhipalaaW.PrintLast Go.Proofs.YtbbhdohjhipalaaW.PrintMore
open Go.Proofs.Ytbbhdohjhipalaa.Flow
set_option linter.unusedVariables false
set_option linter.unusedSimpArgs false
theorem nextR_nil {s : RS} (h : s.xs.length = 0) : nextR s = (0, ⟨[], true⟩) := by
  unfold nextR
  rw [List.length_eq_zero_iff.1 h]
theorem nextR_cons {s : RS} (h : 0 < s.xs.length) : nextR s = (s.xs.getD 0 0, ⟨s.xs.drop 1, s.bad⟩) := by
  unfold nextR
  cases e : s.xs with
  | nil => rw [e] at h; simp at h
  | cons x r => simp
theorem nextR_len (s : RS) : (nextR s).2.xs.length ≤ s.xs.length := by
  unfold nextR
  cases s.xs with
  | nil => simp
  | cons x r => simp
def Low (B : Nat) (A : Option Addr) : Prop := ∀ ad, A = some ad → ad.block < B
def RDB (w : World) (g B : Nat) (s : RS) : Prop := ∃ A c, Blk w g 90 #[.slice A s.xs.length c, .bool s.bad] ∧ RRow w A s.xs.length c s.xs ∧ Low B A
theorem RDB.rd {w : World} {g B : Nat} {s : RS} (h : RDB w g B s) : RD w g s := by
  obtain ⟨A, c, h1, h2, _⟩ := h
  exact ⟨A, c, h1, h2⟩
theorem RD.b {w : World} {g : Nat} {s : RS} (h : RD w g s) : ∃ B, RDB w g B s := by
  obtain ⟨A, c, h1, h2⟩ := h
  cases A with
  | none => exact ⟨0, none, c, h1, h2, fun ad e => by cases e⟩
  | some ad => exact ⟨ad.block + 1, some ad, c, h1, h2, fun ad2 e => by cases e; omega⟩
theorem rrow_nil (w : World) (c : Nat) : RRow w none 0 c [] := ⟨⟨rfl, by simp, fun h => absurd h (by decide)⟩, by simp, fun ad e => by cases e⟩
abbrev KG (g : Nat) (w w' : World) : Prop := w.grownBy w' (some g)
theorem kg_b {w X Y : World} {g : Nat} (h : KG g w X) (hb : Below X.heap.size X Y) : KG g w Y := ⟨hb.os.trans h.os, hb.tape.trans h.tape, hb.output.trans h.output, Nat.le_trans h.size hb.size, fun i hi hn => (hb.block i (Nat.lt_of_lt_of_le hi h.size)).trans (h.block i hi hn)⟩
theorem kg_s {w X Y : World} {g g2 : Nat} (h : KG g w X) (hk : Keep g2 X Y) (hg : g2 = g ∨ w.heap.size ≤ g2) : KG g w Y := ⟨hk.os.trans h.os, hk.tape.trans h.tape, hk.output.trans h.output, Nat.le_trans h.size (Nat.le_of_eq hk.size.symm), fun i hi hn => (hk.block i (fun e => by
  rcases hg with hg | hg
  · exact hn (by rw [e, hg])
  · omega)).trans (h.block i hi hn)⟩
theorem kg_refl (g : Nat) (w : World) : KG g w w := ⟨rfl, rfl, rfl, Nat.le_refl _, fun _ _ _ => rfl⟩
theorem kg_k {w X Y : World} {g : Nat} (h : KG g w X) (hk : KG g X Y) : KG g w Y := ⟨hk.os.trans h.os, hk.tape.trans h.tape, hk.output.trans h.output, Nat.le_trans h.size hk.size, fun i hi hn => (hk.block i (Nat.lt_of_lt_of_le hi h.size) hn).trans (h.block i hi hn)⟩
theorem kg_keep {w X : World} {g : Nat} (h : Keep g w X) : KG g w X := kg_s (kg_refl g w) h (.inl rfl)
theorem kg_below {w0 w X : World} {g : Nat} (hb : Below w0.heap.size w0 w) (hg : w0.heap.size ≤ g) (h : KG g w X) : Below w0.heap.size w0 X := ⟨h.os.trans hb.os, h.tape.trans hb.tape, h.output.trans hb.output, Nat.le_trans hb.size h.size, fun i hi => (h.block i (Nat.lt_of_lt_of_le hi hb.size) (fun e => by have e := Option.some.inj e; subst e; exact absurd hi (Nat.not_lt.2 hg))).trans (hb.block i hi)⟩
theorem blk_kg {w X : World} {g g2 t : Nat} {cs : Array Value} (hb : Blk w g2 t cs) (h : KG g w X) (hn : g2 ≠ g) : Blk X g2 t cs := (h.block g2 hb.lt (fun e => hn (Option.some.inj e))).trans hb
theorem own_kg {α : Type} {d : Kd α} {e t : TypeId} {w X : World} {base b g : Nat} {A : Option Addr} {n c : Nat} {xs : List α} {cs : Array Value} (h : OwnK d e w base b A n c xs) (hb : Blk w g t cs) (hne : ∀ q, q ∈ e :: d.E → q ≠ t) (hk : KG g w X) : OwnK d e X base b A n c xs := by
  have h0 := Kd.R_bound h
  refine Kd.R_mono (Kd.R_grown h0 hk (fun k hk2 he => ?_)) (fun q hq => hq.1)
  obtain ⟨hk1, hk3, hk4, q, hq, cells, hc⟩ := hk2
  have e1 : g = k := by simpa using he.symm
  have h2 : w.heap[g]? = some (.cells cs t (0, 0)) := hb
  rw [e1, hc] at h2
  injection h2 with h2
  injection h2 with _ h2
  exact hne q hq h2
theorem RRow.own {α : Type} {d : Kd α} {e : TypeId} {w X : World} {base b : Nat} {A A2 : Option Addr} {n c n2 c2 : Nat} {xs : List Int} {ys : List α} (h : RRow w A n c xs) (ho : OwnK d e w base b A2 n2 c2 ys) (hne : e ≠ 3) (hG : w.grownBy X (Value.slice A2 n2 c2).ownBlock) : RRow X A n c xs := h.grown hG (fun q hq => by
  obtain ⟨cells, ht⟩ := Kd.R_typed ho q hq
  exact ⟨cells, e, ht, hne⟩)
theorem RRow.k {w X : World} {A : Option Addr} {n c B : Nat} {xs : List Int} {S : Nat → Prop} (h : RRow w A n c xs) (hl : Low B A) (hk : Kept w X S) (hS : ∀ q, S q → B ≤ q) : RRow X A n c xs := h.moved (fun ad e => by
  obtain ⟨cells, h1⟩ := h.2.2 ad e
  refine hk.2 _ (Array.getElem?_eq_some_iff.1 h1).1 (fun hs => ?_)
  have := hl ad e
  have := hS _ hs
  omega)
theorem RDB.on {w X : World} {g B : Nat} {s : RS} (h : RDB w g B s) (hb : Below w.heap.size w X) : RDB X g B s := by
  obtain ⟨A, c, h1, h2, h3⟩ := h
  exact ⟨A, c, h1.on hb, h2.on hb, h3⟩
theorem RDB.k {w X : World} {g B : Nat} {s : RS} {S : Nat → Prop} (h : RDB w g B s) (hg : g < B) (hk : Kept w X S) (hS : ∀ q, S q → B ≤ q) : RDB X g B s := by
  obtain ⟨A, c, h1, h2, h3⟩ := h
  exact ⟨A, c, h1.kept hk (fun hs => by have := hS g hs; omega), h2.k h3 hk hS, h3⟩
theorem kg_kept {w X : World} {g : Nat} (h : KG g w X) : Kept w X (fun q => q = g) := ⟨h.size, fun i hi hn => h.block i hi (fun e => hn (Option.some.inj e))⟩
end Go.Proofs.Ytbbhdohjhipalaa.Ce
end
section
namespace Go.Proofs.Ytbbhdohjhipalaa.Ce
open Go.RowKit Go.Proofs.YtbbhdohjhipalaaW.PrintWords Go.Proofs.YtbbhdohjhipalaaW.PrintLast Go.Proofs.YtbbhdohjhipalaaW.PrintMore
open Go.Proofs.Ytbbhdohjhipalaa.Flow
set_option linter.unusedVariables false
set_option linter.unusedSimpArgs false
theorem adr_block {k c j : Nat} {A : Option Addr} {ad : Addr} (h : adrS k A c j = some ad) : ∃ a0, A = some a0 ∧ ad.block = a0.block := by
  cases A with
  | none => unfold adrS at h; simp at h
  | some a0 =>
    refine ⟨a0, rfl, ?_⟩
    unfold adrS at h
    repeat' split at h
    all_goals first | (simp at h; done) | skip
    all_goals (simp at h; subst h; first | rfl | exact add_blk _ _)
theorem rrow_adr {w : World} {A : Option Addr} {n c k j n' c' : Nat} {xs xs' : List Int} (h : RRow w A n c xs) (hC : (Kd.int .i64).C w (adrS k A c j) n' xs') (hc : xs'.length ≤ c') : RRow w (adrS k A c j) n' c' xs' := ⟨hC, hc, fun ad e => by
  obtain ⟨a0, e1, e2⟩ := adr_block e
  obtain ⟨cells, h1⟩ := h.2.2 a0 e1
  exact ⟨cells, by rw [e2]; exact h1⟩⟩
theorem low_adr {B : Nat} {A : Option Addr} {k c j : Nat} (h : Low B A) : Low B (adrS k A c j) := fun ad e => by
  obtain ⟨a0, e1, e2⟩ := adr_block e
  rw [e2]
  exact h a0 e1
set_option maxHeartbeats 4000000 in
theorem next_raw (w : World) (g B : Nat) (s : RS) (A : Option Addr) (c : Nat) (hb : Blk w g 90 #[.slice A s.xs.length c, .bool s.bad]) (hr : RRow w A s.xs.length c s.xs) (hl : Low B A) (hC : (Kd.int .i64).C w A s.xs.length s.xs) (hc : s.xs.length ≤ c) (hln : s.xs.length ≤ 1000000) :
  Calls Try.prog 58 #[.pointer (some ⟨g, 0, none⟩)] w fun e w' => e = .returned (.int .i64 (nextR s).1) ∧ RDB w' g B (nextR s).2 ∧ Keep g w w' := by
 refine calls_flow Try.func58 rfl 28 rfl (Nat.le_of_ble_eq_true rfl) [(0, .pointer (some ⟨g, 0, none⟩))] ?_ ?_
 ·
  intro t v h; exact args_look rfl t v h
 refine w_seq ?_
 refine w_region ?_
 refine rv (.int .i64 0) ?_
 refine rw_end ?_
 refine w_seq ?_
 refine w_seq ?_
 refine w_region ?_
 refine rv (.pointer (some ⟨g, 0, none⟩)) ?_
 refine rz (.pointer (some ⟨g, 0, none⟩)) (by simp [go_sem, sEv, sLook, nbeq, i64_w, -List.getD_eq_getElem?_getD]) ?_
 refine rz (.pointer (some ⟨g, 0, none⟩)) (by simp [go_sem, sEv, sLook, nbeq, i64_w, -List.getD_eq_getElem?_getD, Try.underlying90]) ?_
 refine rz (.slice A s.xs.length c) (by have eb_ := hb; have e0_ := eb_.cellv (i := 0) (v := (.slice A s.xs.length c : Value)) rfl; simp [go_sem, sEv, sLook, nbeq, i64_w, -List.getD_eq_getElem?_getD, e0_, Try.underlying22]) ?_
 refine rz (.int .i64 ((s.xs.length : Nat) : Int)) (by simp [go_sem, sEv, sLook, nbeq, i64_w, -List.getD_eq_getElem?_getD]) ?_
 refine rz (.bool (((s.xs.length : Nat) : Int) == 0)) (by simp [go_sem, sEv, sLook, nbeq, i64_w, -List.getD_eq_getElem?_getD]) ?_
 refine rw_end ?_
 refine w_weaken (G' := [(0, .pointer (some ⟨g, 0, none⟩)), (2, .int .i64 0), (9, .bool (((s.xs.length : Nat) : Int) == 0))]) ⟨rfl, rfl, rfl, trivial⟩ ?_
 refine w_cond rfl rfl (fun cN => ?_) (fun cN => ?_)
 ·
  have l1 : ((s.xs.length : Nat) : Int) = 0 := by simpa using cN
  refine w_seq ?_
  refine w_region ?_
  refine rv (.pointer (some ⟨g, 0, none⟩)) ?_
  refine rz (.pointer (some ⟨g, 0, none⟩)) (by simp [go_sem, sEv, sLook, nbeq, i64_w, -List.getD_eq_getElem?_getD]) ?_
  refine rz (.pointer (some ⟨g, 1, none⟩)) (by simp [go_sem, sEv, sLook, nbeq, i64_w, -List.getD_eq_getElem?_getD, Try.underlying90]) ?_
  have hb5 := hb
  refine rw_store (g := g) (i := 1) (l := [.bool true]) (cs' := #[.slice A s.xs.length c, .bool true]) rfl rfl rfl hb5 rfl (by have e0_ := hb5.cellv (i := 1) (v := (.bool s.bad : Value)) rfl; have f0_ := hb5.frozen 1; simp [go_sem, sEv, sLook, nbeq, i64_w, -List.getD_eq_getElem?_getD, putCells, e0_, f0_]) ?_
  intro w2 hk3 hk4
  have hs_w2 := hk3.size
  refine rw_end ?_
  refine w_weaken (G' := [(0, .pointer (some ⟨g, 0, none⟩)), (2, .int .i64 0)]) ⟨rfl, rfl, trivial⟩ ?_
  refine w_seq ?_
  refine w_region ?_
  refine rv (.int .i64 0) ?_
  refine rw_end ?_
  refine w_ret (post_ret1 rfl rfl ?_)
  have h0_ : s.xs = [] := List.length_eq_zero_iff.1 (by simpa using cN)
  have hB_ := hk4
  have hr_ := hr.keep hb (by decide) hk3
  rw [h0_] at hB_ hr_
  rw [nextR_nil (by rw [h0_]; rfl)]
  exact ⟨rfl, ⟨A, c, hB_, hr_, hl⟩, hk3⟩
 ·
  have l6 : ¬ ((s.xs.length : Nat) : Int) = 0 := by simpa using cN
  refine w_skip ?_
  refine w_seq ?_
  refine w_region ?_
  refine rv (.pointer (some ⟨g, 0, none⟩)) ?_
  refine rz (.pointer (some ⟨g, 0, none⟩)) (by simp [go_sem, sEv, sLook, nbeq, i64_w, -List.getD_eq_getElem?_getD]) ?_
  refine rz (.pointer (some ⟨g, 0, none⟩)) (by simp [go_sem, sEv, sLook, nbeq, i64_w, -List.getD_eq_getElem?_getD, Try.underlying90]) ?_
  refine rz (.slice A s.xs.length c) (by have eb_ := hb; have e0_ := eb_.cellv (i := 0) (v := (.slice A s.xs.length c : Value)) rfl; simp [go_sem, sEv, sLook, nbeq, i64_w, -List.getD_eq_getElem?_getD, e0_, Try.underlying22]) ?_
  obtain ⟨ad7, hA8, hc9⟩ := int_at (Kd.C_below hC (Below.refl _ _)) 0 0 (by first | omega | decide)
  subst hA8
  have he10 : w.cell? (ad7) = some (.int .i64 (s.xs.getD 0 0)) := cell_00 (hc9 0 _ rfl)
  refine rz (.pointer (some (ad7))) (run_as (run_at_z (P := Try.prog) (e := 3) (sz := 1) (by kernel_rfl) (by kernel_rfl)  (by first | omega | decide) _)) ?_
  refine rz (.int .i64 (s.xs.getD 0 0)) (by have e0_ := cellOn he10 (Below.refl _ _); simp [go_sem, sEv, sLook, nbeq, i64_w, -List.getD_eq_getElem?_getD, e0_]) ?_
  refine rv (.int .i64 (s.xs.getD 0 0)) ?_
  refine rw_end ?_
  refine w_weaken (G' := [(0, .pointer (some ⟨g, 0, none⟩)), (2, .int .i64 0), (3, .int .i64 (s.xs.getD 0 0))]) ⟨rfl, rfl, rfl, trivial⟩ ?_
  refine w_seq ?_
  refine w_region ?_
  refine rv (.pointer (some ⟨g, 0, none⟩)) ?_
  refine rv (.pointer (some ⟨g, 0, none⟩)) ?_
  refine rz (.pointer (some ⟨g, 0, none⟩)) (by simp [go_sem, sEv, sLook, nbeq, i64_w, -List.getD_eq_getElem?_getD]) ?_
  refine rz (.pointer (some ⟨g, 0, none⟩)) (by simp [go_sem, sEv, sLook, nbeq, i64_w, -List.getD_eq_getElem?_getD, Try.underlying90]) ?_
  refine rz (.slice (some ad7) s.xs.length c) (by have eb_ := hb; have e0_ := eb_.cellv (i := 0) (v := (.slice (some ad7) s.xs.length c : Value)) rfl; simp [go_sem, sEv, sLook, nbeq, i64_w, -List.getD_eq_getElem?_getD, e0_, Try.underlying22]) ?_
  have hP11 : (Kd.int .i64).C w (adrS 1 (some ad7) c 1) (s.xs.drop 1).length (s.xs.drop 1) := Kd.C_drop (Kd.C_below hC (Below.refl _ _)) (by omega) (by have q_ := hc; omega)
  have hP11_ : (s.xs.drop 1).length = s.xs.length - 1 := List.length_drop
  refine rz (.slice (adrS 1 (some ad7) c 1) ((s.xs.drop 1).length) (c - 1)) (by rw [hP11_]; exact run_as (sl_from (sz := 1) (e := 3) (by kernel_rfl) (fun _ => by kernel_rfl) 1 _ (by first | rfl | (simp; done) | omega) (by omega) (by have q_ := hc; omega) _)) ?_
  refine rz (.pointer (some ⟨g, 0, none⟩)) (by simp [go_sem, sEv, sLook, nbeq, i64_w, -List.getD_eq_getElem?_getD]) ?_
  refine rz (.pointer (some ⟨g, 0, none⟩)) (by simp [go_sem, sEv, sLook, nbeq, i64_w, -List.getD_eq_getElem?_getD, Try.underlying90]) ?_
  have hb15 := hb
  refine rw_store (g := g) (i := 0) (l := [.slice (adrS 1 (some ad7) c 1) ((s.xs.drop 1).length) (c - 1)]) (cs' := #[.slice (adrS 1 (some ad7) c 1) ((s.xs.drop 1).length) (c - 1), .bool s.bad]) rfl rfl rfl hb15 rfl (by have e0_ := hb15.cellv (i := 0) (v := (.slice (some ad7) s.xs.length c : Value)) rfl; have f0_ := hb15.frozen 0; simp [go_sem, sEv, sLook, nbeq, i64_w, -List.getD_eq_getElem?_getD, putCells, e0_, f0_, Try.underlying22]) ?_
  intro w12 hk13 hk14
  have hs_w12 := hk13.size
  refine rw_end ?_
  refine w_weaken (G' := [(2, .int .i64 0), (3, .int .i64 (s.xs.getD 0 0))]) ⟨rfl, rfl, trivial⟩ ?_
  refine w_seq ?_
  refine w_region ?_
  refine rv (.int .i64 (s.xs.getD 0 0)) ?_
  refine rv (.int .i64 (s.xs.getD 0 0)) ?_
  refine rw_end ?_
  refine w_ret (post_ret1 rfl rfl ?_)
  rw [nextR_cons (by have h0_ : ¬ s.xs.length = 0 := (by simpa using cN); omega)]
  exact ⟨rfl, ⟨_, _, (by simpa using hk14), RRow.keep (rrow_adr hr hP11 (show (s.xs.drop 1).length ≤ c - 1 by omega)) hb (by decide) hk13, low_adr hl⟩, hk13⟩
theorem next_calls (w : World) (g B : Nat) (s : RS) (h : RDB w g B s) (hln : s.xs.length ≤ 1000000) : Calls Try.prog 58 #[.pointer (some ⟨g, 0, none⟩)] w fun e w' => e = .returned (.int .i64 (nextR s).1) ∧ RDB w' g B (nextR s).2 ∧ Keep g w w' := by
  obtain ⟨A, c, hb, hr, hl⟩ := h
  exact next_raw w g B s A c hb hr hl hr.1 hr.2.1 hln
theorem rrow_own {w : World} {base b : Nat} {A : Option Addr} {n c : Nat} {xs : List Int} (h : OwnK (Kd.int .i64) 3 w base b A n c xs) : RRow w A n c xs := ⟨OwnK.Cn h, by have h1 := OwnK.cap h; have h2 := OwnK.len h; omega, fun ad e => by
  subst e
  exact Kd.R_typed h ad.block rfl⟩
set_option maxHeartbeats 4000000 in
theorem count_raw (w : World) (g B : Nat) (s : RS) (A : Option Addr) (c : Nat) (hb : Blk w g 90 #[.slice A s.xs.length c, .bool s.bad]) (hr : RRow w A s.xs.length c s.xs) (hl : Low B A) (m : Int) (hln : s.xs.length ≤ 1000000) :
  Calls Try.prog 59 #[.pointer (some ⟨g, 0, none⟩), .int .i64 m] w fun e w' => e = .returned (.int .i64 (countR m s).1) ∧ RDB w' g B (countR m s).2 ∧ Keep g w w' := by
 refine calls_flow Try.func59 rfl 19 rfl (Nat.le_of_ble_eq_true rfl) [(0, .pointer (some ⟨g, 0, none⟩)), (1, .int .i64 m)] ?_ ?_
 ·
  intro t v h; exact args_look rfl t v h
 refine w_seq ?_
 refine w_region ?_
 refine rv (.int .i64 0) ?_
 refine rw_end ?_
 refine w_seq ?_
 refine w_region ?_
 refine rv (.pointer (some ⟨g, 0, none⟩)) ?_
 refine rw_call rfl rfl rfl rfl (f := 58) (args := #[.pointer (some ⟨g, 0, none⟩)]) (by simp [go_sem, sEv, sLook, nbeq, i64_w, -List.getD_eq_getElem?_getD]) (next_calls w g B s ⟨A, c, hb, hr, hl⟩ hln) ?_
 rintro e_ w2 ⟨rfl, ⟨A4, c5, hb6, hr7, hl8⟩, hk3⟩
 refine ⟨_, rfl, ?_⟩
 have hs_w2 := hk3.size
 refine rv (.int .i64 ((nextR s).1)) ?_
 refine rw_end ?_
 refine w_seq ?_
 refine w_seq ?_
 refine w_region ?_
 refine rv (.int .i64 ((nextR s).1)) ?_
 refine rz (.bool (decide (((nextR s).1) < 0))) (by simp [go_sem, sEv, sLook, nbeq, i64_w, -List.getD_eq_getElem?_getD]) ?_
 refine rv (.bool (decide (((nextR s).1) < 0))) ?_
 rcases bcase (decide (((nextR s).1) < 0)) with c10 | c10
 ·
  have l11 : ¬ (((nextR s).1) < 0) := of_decide_eq_false c10
  refine rw_on (c := decide (((nextR s).1) < 0)) rfl rfl rfl (by first | (rw [c10]; rfl) | simp [c10]) ?_
  refine rv (.int .i64 ((nextR s).1)) ?_
  refine rw_on (c := decide (((nextR s).1) < 0)) rfl rfl rfl (by first | (rw [c10]; rfl) | simp [c10]) ?_
  refine rv (.int .i64 m) ?_
  refine rw_on (c := decide (((nextR s).1) < 0)) rfl rfl rfl (by first | (rw [c10]; rfl) | simp [c10]) ?_
  refine rz (.bool (decide (m < ((nextR s).1)))) (by simp [go_sem, sEv, sLook, nbeq, i64_w, -List.getD_eq_getElem?_getD]) ?_
  refine rz (.bool (decide (m < ((nextR s).1)))) (by first | (simp [go_sem, sEv, sLook, nbeq, i64_w, -List.getD_eq_getElem?_getD, c10]; done) | (rw [c10]; simp [go_sem, sEv, sLook, nbeq, i64_w, -List.getD_eq_getElem?_getD]; done) | (simp [go_sem, sEv, sLook, nbeq, i64_w, -List.getD_eq_getElem?_getD] <;> omega) | (simp [go_sem, sEv, sLook, nbeq, i64_w, -List.getD_eq_getElem?_getD]; intro h_; exact absurd (by omega) h_)) ?_
  refine rw_end ?_
  refine w_weaken (G' := [(0, .pointer (some ⟨g, 0, none⟩)), (4, .int .i64 0), (5, .int .i64 ((nextR s).1)), (14, .bool (decide (m < ((nextR s).1))))]) ⟨rfl, rfl, rfl, rfl, trivial⟩ ?_
  refine w_cond rfl rfl (fun c12 => ?_) (fun c12 => ?_)
  ·
   have l13 : (m < ((nextR s).1)) := of_decide_eq_true c12
   refine w_seq ?_
   refine w_region ?_
   refine rv (.pointer (some ⟨g, 0, none⟩)) ?_
   refine rz (.pointer (some ⟨g, 0, none⟩)) (by simp [go_sem, sEv, sLook, nbeq, i64_w, -List.getD_eq_getElem?_getD]) ?_
   refine rz (.pointer (some ⟨g, 1, none⟩)) (by simp [go_sem, sEv, sLook, nbeq, i64_w, -List.getD_eq_getElem?_getD, Try.underlying90]) ?_
   have hb17 := hb6
   refine rw_store (g := g) (i := 1) (l := [.bool true]) (cs' := #[.slice A4 (((nextR s).2).xs.length) c5, .bool true]) rfl rfl rfl hb17 rfl (by have e0_ := hb17.cellv (i := 1) (v := (.bool (((nextR s).2).bad) : Value)) rfl; have f0_ := hb17.frozen 1; simp [go_sem, sEv, sLook, nbeq, i64_w, -List.getD_eq_getElem?_getD, putCells, e0_, f0_]) ?_
   intro w14 hk15 hk16
   have hs_w14 := hk15.size
   refine rw_end ?_
   refine w_weaken (G' := [(4, .int .i64 0), (5, .int .i64 ((nextR s).1))]) ⟨rfl, rfl, trivial⟩ ?_
   refine w_seq ?_
   refine w_region ?_
   refine rv (.int .i64 0) ?_
   refine rw_end ?_
   refine w_ret (post_ret1 rfl rfl ?_)
   rw [show countR m s = (0, ⟨(nextR s).2.xs, true⟩) from if_pos (by omega)]
   exact ⟨rfl, ⟨A4, c5, hk16, (RRow.keep hr7 hb6 (by decide) hk15), hl8⟩, (hk3.trans hk15)⟩
  ·
   have l18 : ¬ (m < ((nextR s).1)) := of_decide_eq_false c12
   refine w_skip ?_
   refine w_seq ?_
   refine w_region ?_
   refine rv (.int .i64 ((nextR s).1)) ?_
   refine rv (.int .i64 ((nextR s).1)) ?_
   refine rw_end ?_
   refine w_ret (post_ret1 rfl rfl ?_)
   rw [show countR m s = nextR s from if_neg (by omega)]
   exact ⟨rfl, ⟨A4, c5, hb6, hr7, hl8⟩, hk3⟩
 ·
  have l19 : (((nextR s).1) < 0) := of_decide_eq_true c10
  refine rw_off (c := decide (((nextR s).1) < 0)) rfl rfl rfl (by first | (rw [c10]; rfl) | simp [c10]) rfl rfl ?_
  refine rw_off (c := decide (((nextR s).1) < 0)) rfl rfl rfl (by first | (rw [c10]; rfl) | simp [c10]) rfl rfl ?_
  refine rw_off (c := decide (((nextR s).1) < 0)) rfl rfl rfl (by first | (rw [c10]; rfl) | simp [c10]) rfl rfl ?_
  refine rz (.bool true) (by first | (simp [go_sem, sEv, sLook, nbeq, i64_w, -List.getD_eq_getElem?_getD, c10]; done) | (rw [c10]; simp [go_sem, sEv, sLook, nbeq, i64_w, -List.getD_eq_getElem?_getD]; done) | (simp [go_sem, sEv, sLook, nbeq, i64_w, -List.getD_eq_getElem?_getD] <;> omega) | (simp [go_sem, sEv, sLook, nbeq, i64_w, -List.getD_eq_getElem?_getD]; intro h_; exact absurd (by omega) h_)) ?_
  refine rw_end ?_
  refine w_weaken (G' := [(0, .pointer (some ⟨g, 0, none⟩)), (4, .int .i64 0), (5, .int .i64 ((nextR s).1)), (14, .bool true)]) ⟨rfl, rfl, rfl, rfl, trivial⟩ ?_
  refine w_cond_t rfl rfl rfl ?_
  refine w_seq ?_
  refine w_region ?_
  refine rv (.pointer (some ⟨g, 0, none⟩)) ?_
  refine rz (.pointer (some ⟨g, 0, none⟩)) (by simp [go_sem, sEv, sLook, nbeq, i64_w, -List.getD_eq_getElem?_getD]) ?_
  refine rz (.pointer (some ⟨g, 1, none⟩)) (by simp [go_sem, sEv, sLook, nbeq, i64_w, -List.getD_eq_getElem?_getD, Try.underlying90]) ?_
  have hb23 := hb6
  refine rw_store (g := g) (i := 1) (l := [.bool true]) (cs' := #[.slice A4 (((nextR s).2).xs.length) c5, .bool true]) rfl rfl rfl hb23 rfl (by have e0_ := hb23.cellv (i := 1) (v := (.bool (((nextR s).2).bad) : Value)) rfl; have f0_ := hb23.frozen 1; simp [go_sem, sEv, sLook, nbeq, i64_w, -List.getD_eq_getElem?_getD, putCells, e0_, f0_]) ?_
  intro w20 hk21 hk22
  have hs_w20 := hk21.size
  refine rw_end ?_
  refine w_weaken (G' := [(4, .int .i64 0), (5, .int .i64 ((nextR s).1))]) ⟨rfl, rfl, trivial⟩ ?_
  refine w_seq ?_
  refine w_region ?_
  refine rv (.int .i64 0) ?_
  refine rw_end ?_
  refine w_ret (post_ret1 rfl rfl ?_)
  rw [show countR m s = (0, ⟨(nextR s).2.xs, true⟩) from if_pos (by omega)]
  exact ⟨rfl, ⟨A4, c5, hk22, (RRow.keep hr7 hb6 (by decide) hk21), hl8⟩, (hk3.trans hk21)⟩
theorem count_calls (w : World) (g B : Nat) (s : RS) (m : Int) (h : RDB w g B s) (hln : s.xs.length ≤ 1000000) : Calls Try.prog 59 #[.pointer (some ⟨g, 0, none⟩), .int .i64 m] w fun e w' => e = .returned (.int .i64 (countR m s).1) ∧ RDB w' g B (countR m s).2 ∧ Keep g w w' := by
  obtain ⟨A, c, hb, hr, hl⟩ := h
  exact count_raw w g B s A c hb hr hl m hln
theorem cell_no {s : RS} (h : takeC s.xs = none) : cellR s = (CL.unit, ⟨[], true⟩) := by unfold cellR; rw [h]
theorem cell_yes {s : RS} {c : CL} {r : List Int} (h : takeC s.xs = some (c, r)) : cellR s = (c, ⟨r, s.bad⟩) := by unfold cellR; rw [h]
set_option maxHeartbeats 4000000 in
theorem cell_raw (w : World) (g B : Nat) (s : RS) (A : Option Addr) (c : Nat) (hb : Blk w g 90 #[.slice A s.xs.length c, .bool s.bad]) (hr : RRow w A s.xs.length c s.xs) (hl : Low B A) (hgw : g < w.heap.size) (hln : s.xs.length ≤ 100000) :
  Calls Try.prog 60 #[.pointer (some ⟨g, 0, none⟩)] w fun e w' => e = .returned (.agg (carr (cellR s).1)) ∧ RD w' g (cellR s).2 ∧ KG g w w' := by
 refine calls_flow Try.func60 rfl 31 rfl (Nat.le_of_ble_eq_true rfl) [(0, .pointer (some ⟨g, 0, none⟩))] ?_ ?_
 ·
  intro t v h; exact args_look rfl t v h
 refine w_seq ?_
 refine w_region ?_
 refine rw_new (cs := carr CL.unit) (t := 81) (fun g => .pointer (some ⟨g, 0, none⟩)) rfl rfl rfl rfl (by kernel_rfl) ?_
 intro g2 w3 hg7 hz6 hb4 hk5
 have hs_w3 := hb4.size
 refine rw_end ?_
 refine w_seq ?_
 refine w_region ?_
 refine rv (.pointer (some ⟨g, 0, none⟩)) ?_
 refine rz (.pointer (some ⟨g, 0, none⟩)) (by simp [go_sem, sEv, sLook, nbeq, i64_w, -List.getD_eq_getElem?_getD]) ?_
 refine rz (.pointer (some ⟨g, 0, none⟩)) (by simp [go_sem, sEv, sLook, nbeq, i64_w, -List.getD_eq_getElem?_getD, Try.underlying90]) ?_
 refine rz (.slice A s.xs.length c) (by have eb_ := (hb.on hb4); have e0_ := eb_.cellv (i := 0) (v := (.slice A s.xs.length c : Value)) rfl; simp [go_sem, sEv, sLook, nbeq, i64_w, -List.getD_eq_getElem?_getD, e0_, Try.underlying22]) ?_
 refine rw_call rfl rfl rfl rfl (f := 66) (args := #[.slice A s.xs.length c]) (by simp [go_sem, sEv, sLook, nbeq, i64_w, -List.getD_eq_getElem?_getD]) (take_calls w3 A c s.xs (RRow.on hr hb4).1 (RRow.on hr hb4).2.1 hln) ?_
 rintro e_ w8 ⟨⟨hT_, rfl⟩ | ⟨c1, r1, A1, k1, hT_, rfl, hO_⟩, hb9⟩
 ·
  refine ⟨_, rfl, ?_⟩
  have hs_w8 := hb9.size
  refine rv (.tuple #[.agg (carr CL.unit), .slice none 0 0, .bool false]) ?_
  refine rz (.agg (carr CL.unit)) (by simp [go_sem, sEv, sLook, nbeq, i64_w, -List.getD_eq_getElem?_getD]) ?_
  refine rz (.slice none 0 0) (by simp [go_sem, sEv, sLook, nbeq, i64_w, -List.getD_eq_getElem?_getD]) ?_
  refine rz (.bool false) (by simp [go_sem, sEv, sLook, nbeq, i64_w, -List.getD_eq_getElem?_getD]) ?_
  refine rw_new (cs := carr CL.unit) (t := 81) (fun g => .pointer (some ⟨g, 0, none⟩)) rfl rfl rfl rfl (by kernel_rfl) ?_
  intro g10 w11 hg15 hz14 hb12 hk13
  have hs_w11 := hb12.size
  refine rw_seg (g := g10) (off := 0) (ty := 81) (p := .tmp 3) (x := .tmp 12) (v := .agg (carr CL.unit)) (cs' := carr CL.unit) rfl rfl rfl rfl rfl rfl hk13 (by show (sizeOf 81).run _ _ = .ok (carr _).size _; rw [carr_size]; kernel_rfl) (Nat.le_of_eq (by rw [Nat.zero_add]; exact (carr_size _).trans (carr_size _).symm)) (encC_one _) (seg_all CL.unit CL.unit) ?_
  intro w16 hk17 hb18
  have hs_w16 := hk17.size
  refine rv (.slice none 0 0) ?_
  refine rv (.bool false) ?_
  refine rw_end ?_
  refine w_weaken (G' := [(0, .pointer (some ⟨g, 0, none⟩)), (2, .pointer (some ⟨g2, 0, none⟩)), (3, .pointer (some ⟨g10, 0, none⟩)), (4, .slice none 0 0), (5, .bool false)]) ⟨rfl, rfl, rfl, rfl, rfl, trivial⟩ ?_
  refine w_seq ?_
  refine w_region ?_
  refine rv (.pointer (some ⟨g, 0, none⟩)) ?_
  refine rv (.pointer (some ⟨g, 0, none⟩)) ?_
  refine rv (.slice none 0 0) ?_
  refine rv (.pointer (some ⟨g, 0, none⟩)) ?_
  refine rz (.pointer (some ⟨g, 0, none⟩)) (by simp [go_sem, sEv, sLook, nbeq, i64_w, -List.getD_eq_getElem?_getD]) ?_
  refine rz (.pointer (some ⟨g, 1, none⟩)) (by simp [go_sem, sEv, sLook, nbeq, i64_w, -List.getD_eq_getElem?_getD, Try.underlying90]) ?_
  refine rz (.bool s.bad) (by have eb_ := ((((hb.on hb4).on hb9).on hb12).keep hk17 (by omega)); have e0_ := eb_.cellv (i := 1) (v := (.bool s.bad : Value)) rfl; simp [go_sem, sEv, sLook, nbeq, i64_w, -List.getD_eq_getElem?_getD, e0_]) ?_
  refine rv (.bool s.bad) ?_
  rcases bcase s.bad with c19 | c19
  ·
   refine rw_on (c := s.bad) rfl rfl rfl (by first | (rw [c19]; rfl) | simp [c19]) ?_
   refine rv (.bool false) ?_
   refine rw_on (c := s.bad) rfl rfl rfl (by first | (rw [c19]; rfl) | simp [c19]) ?_
   refine rz (.bool true) (by simp [go_sem, sEv, sLook, nbeq, i64_w, -List.getD_eq_getElem?_getD]) ?_
   refine rz (.bool true) (by first | (simp [go_sem, sEv, sLook, nbeq, i64_w, -List.getD_eq_getElem?_getD, c19]; done) | (rw [c19]; simp [go_sem, sEv, sLook, nbeq, i64_w, -List.getD_eq_getElem?_getD]; done) | (simp [go_sem, sEv, sLook, nbeq, i64_w, -List.getD_eq_getElem?_getD] <;> omega) | (simp [go_sem, sEv, sLook, nbeq, i64_w, -List.getD_eq_getElem?_getD]; intro h_; exact absurd (by omega) h_)) ?_
   refine rz (.pointer (some ⟨g, 0, none⟩)) (by simp [go_sem, sEv, sLook, nbeq, i64_w, -List.getD_eq_getElem?_getD]) ?_
   refine rz (.pointer (some ⟨g, 0, none⟩)) (by simp [go_sem, sEv, sLook, nbeq, i64_w, -List.getD_eq_getElem?_getD, Try.underlying90]) ?_
   have hb23 := ((((hb.on hb4).on hb9).on hb12).keep hk17 (by omega))
   refine rw_store (g := g) (i := 0) (l := [.slice none 0 0]) (cs' := #[.slice none 0 0, .bool s.bad]) rfl rfl rfl hb23 rfl (by have e0_ := hb23.cellv (i := 0) (v := (.slice A s.xs.length c : Value)) rfl; have f0_ := hb23.frozen 0; simp [go_sem, sEv, sLook, nbeq, i64_w, -List.getD_eq_getElem?_getD, putCells, e0_, f0_, Try.underlying22]) ?_
   intro w20 hk21 hk22
   have hs_w20 := hk21.size
   refine rz (.pointer (some ⟨g, 0, none⟩)) (by simp [go_sem, sEv, sLook, nbeq, i64_w, -List.getD_eq_getElem?_getD]) ?_
   refine rz (.pointer (some ⟨g, 1, none⟩)) (by simp [go_sem, sEv, sLook, nbeq, i64_w, -List.getD_eq_getElem?_getD, Try.underlying90]) ?_
   have hb27 := hk22
   refine rw_store (g := g) (i := 1) (l := [.bool true]) (cs' := #[.slice none 0 0, .bool true]) rfl rfl rfl hb27 rfl (by have e0_ := hb27.cellv (i := 1) (v := (.bool s.bad : Value)) rfl; have f0_ := hb27.frozen 1; simp [go_sem, sEv, sLook, nbeq, i64_w, -List.getD_eq_getElem?_getD, putCells, e0_, f0_]) ?_
   intro w24 hk25 hk26
   have hs_w24 := hk25.size
   refine rw_end ?_
   refine w_weaken (G' := [(2, .pointer (some ⟨g2, 0, none⟩)), (3, .pointer (some ⟨g10, 0, none⟩))]) ⟨rfl, rfl, trivial⟩ ?_
   refine w_seq ?_
   refine w_region ?_
   refine rz (.agg (carr CL.unit)) (run_as (load_cell (c := CL.unit) ((hb18.keep hk21 (by omega)).keep hk25 (by omega)))) ?_
   refine rw_seg (g := g2) (off := 0) (ty := 81) (p := .tmp 2) (x := .tmp 30) (v := .agg (carr CL.unit)) (cs' := carr CL.unit) rfl rfl rfl rfl rfl rfl (((((hk5.on hb9).on hb12).keep hk17 (by omega)).keep hk21 (by omega)).keep hk25 (by omega)) (by show (sizeOf 81).run _ _ = .ok (carr _).size _; rw [carr_size]; kernel_rfl) (Nat.le_of_eq (by rw [Nat.zero_add]; exact (carr_size _).trans (carr_size _).symm)) (encC_one _) (seg_all CL.unit CL.unit) ?_
   intro w28 hk29 hb30
   have hs_w28 := hk29.size
   refine rw_end ?_
   refine w_ret (post_retc (v := .agg (carr CL.unit)) rfl rfl (load_cell (c := CL.unit) hb30) ?_)
   rw [cell_no hT_]
   exact ⟨rfl, ⟨none, 0, (hk26.keep hk29 (by omega)), rrow_nil _ _⟩, (kg_s (kg_s (kg_s (kg_s (kg_b (kg_b (kg_b (kg_refl g w) hb4) hb9) hb12) hk17 (.inr (by omega))) hk21 (.inl rfl)) hk25 (.inl rfl)) hk29 (.inr (by omega)))⟩
  ·
   refine rw_off (c := s.bad) rfl rfl rfl (by first | (rw [c19]; rfl) | simp [c19]) rfl rfl ?_
   refine rw_off (c := s.bad) rfl rfl rfl (by first | (rw [c19]; rfl) | simp [c19]) rfl rfl ?_
   refine rz (.bool true) (by first | (simp [go_sem, sEv, sLook, nbeq, i64_w, -List.getD_eq_getElem?_getD, c19]; done) | (rw [c19]; simp [go_sem, sEv, sLook, nbeq, i64_w, -List.getD_eq_getElem?_getD]; done) | (simp [go_sem, sEv, sLook, nbeq, i64_w, -List.getD_eq_getElem?_getD] <;> omega) | (simp [go_sem, sEv, sLook, nbeq, i64_w, -List.getD_eq_getElem?_getD]; intro h_; exact absurd (by omega) h_)) ?_
   refine rz (.pointer (some ⟨g, 0, none⟩)) (by simp [go_sem, sEv, sLook, nbeq, i64_w, -List.getD_eq_getElem?_getD]) ?_
   refine rz (.pointer (some ⟨g, 0, none⟩)) (by simp [go_sem, sEv, sLook, nbeq, i64_w, -List.getD_eq_getElem?_getD, Try.underlying90]) ?_
   have hb34 := ((((hb.on hb4).on hb9).on hb12).keep hk17 (by omega))
   refine rw_store (g := g) (i := 0) (l := [.slice none 0 0]) (cs' := #[.slice none 0 0, .bool s.bad]) rfl rfl rfl hb34 rfl (by have e0_ := hb34.cellv (i := 0) (v := (.slice A s.xs.length c : Value)) rfl; have f0_ := hb34.frozen 0; simp [go_sem, sEv, sLook, nbeq, i64_w, -List.getD_eq_getElem?_getD, putCells, e0_, f0_, Try.underlying22]) ?_
   intro w31 hk32 hk33
   have hs_w31 := hk32.size
   refine rz (.pointer (some ⟨g, 0, none⟩)) (by simp [go_sem, sEv, sLook, nbeq, i64_w, -List.getD_eq_getElem?_getD]) ?_
   refine rz (.pointer (some ⟨g, 1, none⟩)) (by simp [go_sem, sEv, sLook, nbeq, i64_w, -List.getD_eq_getElem?_getD, Try.underlying90]) ?_
   have hb38 := hk33
   refine rw_store (g := g) (i := 1) (l := [.bool true]) (cs' := #[.slice none 0 0, .bool true]) rfl rfl rfl hb38 rfl (by have e0_ := hb38.cellv (i := 1) (v := (.bool s.bad : Value)) rfl; have f0_ := hb38.frozen 1; simp [go_sem, sEv, sLook, nbeq, i64_w, -List.getD_eq_getElem?_getD, putCells, e0_, f0_]) ?_
   intro w35 hk36 hk37
   have hs_w35 := hk36.size
   refine rw_end ?_
   refine w_weaken (G' := [(2, .pointer (some ⟨g2, 0, none⟩)), (3, .pointer (some ⟨g10, 0, none⟩))]) ⟨rfl, rfl, trivial⟩ ?_
   refine w_seq ?_
   refine w_region ?_
   refine rz (.agg (carr CL.unit)) (run_as (load_cell (c := CL.unit) ((hb18.keep hk32 (by omega)).keep hk36 (by omega)))) ?_
   refine rw_seg (g := g2) (off := 0) (ty := 81) (p := .tmp 2) (x := .tmp 30) (v := .agg (carr CL.unit)) (cs' := carr CL.unit) rfl rfl rfl rfl rfl rfl (((((hk5.on hb9).on hb12).keep hk17 (by omega)).keep hk32 (by omega)).keep hk36 (by omega)) (by show (sizeOf 81).run _ _ = .ok (carr _).size _; rw [carr_size]; kernel_rfl) (Nat.le_of_eq (by rw [Nat.zero_add]; exact (carr_size _).trans (carr_size _).symm)) (encC_one _) (seg_all CL.unit CL.unit) ?_
   intro w39 hk40 hb41
   have hs_w39 := hk40.size
   refine rw_end ?_
   refine w_ret (post_retc (v := .agg (carr CL.unit)) rfl rfl (load_cell (c := CL.unit) hb41) ?_)
   rw [cell_no hT_]
   exact ⟨rfl, ⟨none, 0, (hk37.keep hk40 (by omega)), rrow_nil _ _⟩, (kg_s (kg_s (kg_s (kg_s (kg_b (kg_b (kg_b (kg_refl g w) hb4) hb9) hb12) hk17 (.inr (by omega))) hk32 (.inl rfl)) hk36 (.inl rfl)) hk40 (.inr (by omega)))⟩
 ·
  refine ⟨_, rfl, ?_⟩
  have hs_w8 := hb9.size
  refine rv (.tuple #[.agg (carr c1), .slice A1 r1.length k1, .bool true]) ?_
  refine rz (.agg (carr c1)) (by simp [go_sem, sEv, sLook, nbeq, i64_w, -List.getD_eq_getElem?_getD]) ?_
  refine rz (.slice A1 r1.length k1) (by simp [go_sem, sEv, sLook, nbeq, i64_w, -List.getD_eq_getElem?_getD]) ?_
  refine rz (.bool true) (by simp [go_sem, sEv, sLook, nbeq, i64_w, -List.getD_eq_getElem?_getD]) ?_
  refine rw_new (cs := carr CL.unit) (t := 81) (fun g => .pointer (some ⟨g, 0, none⟩)) rfl rfl rfl rfl (by kernel_rfl) ?_
  intro g42 w43 hg47 hz46 hb44 hk45
  have hs_w43 := hb44.size
  refine rw_seg (g := g42) (off := 0) (ty := 81) (p := .tmp 3) (x := .tmp 12) (v := .agg (carr c1)) (cs' := carr c1) rfl rfl rfl rfl rfl rfl hk45 (by show (sizeOf 81).run _ _ = .ok (carr _).size _; rw [carr_size]; kernel_rfl) (Nat.le_of_eq (by rw [Nat.zero_add]; exact (carr_size _).trans (carr_size _).symm)) (encC_one _) (seg_all CL.unit c1) ?_
  intro w48 hk49 hb50
  have hs_w48 := hk49.size
  refine rv (.slice A1 r1.length k1) ?_
  refine rv (.bool true) ?_
  refine rw_end ?_
  refine w_weaken (G' := [(0, .pointer (some ⟨g, 0, none⟩)), (2, .pointer (some ⟨g2, 0, none⟩)), (3, .pointer (some ⟨g42, 0, none⟩)), (4, .slice A1 r1.length k1), (5, .bool true)]) ⟨rfl, rfl, rfl, rfl, rfl, trivial⟩ ?_
  refine w_seq ?_
  refine w_region ?_
  refine rv (.pointer (some ⟨g, 0, none⟩)) ?_
  refine rv (.pointer (some ⟨g, 0, none⟩)) ?_
  refine rv (.slice A1 r1.length k1) ?_
  refine rv (.pointer (some ⟨g, 0, none⟩)) ?_
  refine rz (.pointer (some ⟨g, 0, none⟩)) (by simp [go_sem, sEv, sLook, nbeq, i64_w, -List.getD_eq_getElem?_getD]) ?_
  refine rz (.pointer (some ⟨g, 1, none⟩)) (by simp [go_sem, sEv, sLook, nbeq, i64_w, -List.getD_eq_getElem?_getD, Try.underlying90]) ?_
  refine rz (.bool s.bad) (by have eb_ := ((((hb.on hb4).on hb9).on hb44).keep hk49 (by omega)); have e0_ := eb_.cellv (i := 1) (v := (.bool s.bad : Value)) rfl; simp [go_sem, sEv, sLook, nbeq, i64_w, -List.getD_eq_getElem?_getD, e0_]) ?_
  refine rv (.bool s.bad) ?_
  rcases bcase s.bad with c51 | c51
  ·
   refine rw_on (c := s.bad) rfl rfl rfl (by first | (rw [c51]; rfl) | simp [c51]) ?_
   refine rv (.bool true) ?_
   refine rw_on (c := s.bad) rfl rfl rfl (by first | (rw [c51]; rfl) | simp [c51]) ?_
   refine rz (.bool false) (by simp [go_sem, sEv, sLook, nbeq, i64_w, -List.getD_eq_getElem?_getD]) ?_
   refine rz (.bool false) (by first | (simp [go_sem, sEv, sLook, nbeq, i64_w, -List.getD_eq_getElem?_getD, c51]; done) | (rw [c51]; simp [go_sem, sEv, sLook, nbeq, i64_w, -List.getD_eq_getElem?_getD]; done) | (simp [go_sem, sEv, sLook, nbeq, i64_w, -List.getD_eq_getElem?_getD] <;> omega) | (simp [go_sem, sEv, sLook, nbeq, i64_w, -List.getD_eq_getElem?_getD]; intro h_; exact absurd (by omega) h_)) ?_
   refine rz (.pointer (some ⟨g, 0, none⟩)) (by simp [go_sem, sEv, sLook, nbeq, i64_w, -List.getD_eq_getElem?_getD]) ?_
   refine rz (.pointer (some ⟨g, 0, none⟩)) (by simp [go_sem, sEv, sLook, nbeq, i64_w, -List.getD_eq_getElem?_getD, Try.underlying90]) ?_
   have hb55 := ((((hb.on hb4).on hb9).on hb44).keep hk49 (by omega))
   refine rw_store (g := g) (i := 0) (l := [.slice A1 r1.length k1]) (cs' := #[.slice A1 r1.length k1, .bool s.bad]) rfl rfl rfl hb55 rfl (by have e0_ := hb55.cellv (i := 0) (v := (.slice A s.xs.length c : Value)) rfl; have f0_ := hb55.frozen 0; simp [go_sem, sEv, sLook, nbeq, i64_w, -List.getD_eq_getElem?_getD, putCells, e0_, f0_, Try.underlying22]) ?_
   intro w52 hk53 hk54
   have hs_w52 := hk53.size
   refine rz (.pointer (some ⟨g, 0, none⟩)) (by simp [go_sem, sEv, sLook, nbeq, i64_w, -List.getD_eq_getElem?_getD]) ?_
   refine rz (.pointer (some ⟨g, 1, none⟩)) (by simp [go_sem, sEv, sLook, nbeq, i64_w, -List.getD_eq_getElem?_getD, Try.underlying90]) ?_
   have hb59 := hk54
   refine rw_store (g := g) (i := 1) (l := [.bool false]) (cs' := #[.slice A1 r1.length k1, .bool false]) rfl rfl rfl hb59 rfl (by have e0_ := hb59.cellv (i := 1) (v := (.bool s.bad : Value)) rfl; have f0_ := hb59.frozen 1; simp [go_sem, sEv, sLook, nbeq, i64_w, -List.getD_eq_getElem?_getD, putCells, e0_, f0_]) ?_
   intro w56 hk57 hk58
   have hs_w56 := hk57.size
   refine rw_end ?_
   refine w_weaken (G' := [(2, .pointer (some ⟨g2, 0, none⟩)), (3, .pointer (some ⟨g42, 0, none⟩))]) ⟨rfl, rfl, trivial⟩ ?_
   refine w_seq ?_
   refine w_region ?_
   refine rz (.agg (carr c1)) (run_as (load_cell (c := c1) ((hb50.keep hk53 (by omega)).keep hk57 (by omega)))) ?_
   refine rw_seg (g := g2) (off := 0) (ty := 81) (p := .tmp 2) (x := .tmp 30) (v := .agg (carr c1)) (cs' := carr c1) rfl rfl rfl rfl rfl rfl (((((hk5.on hb9).on hb44).keep hk49 (by omega)).keep hk53 (by omega)).keep hk57 (by omega)) (by show (sizeOf 81).run _ _ = .ok (carr _).size _; rw [carr_size]; kernel_rfl) (Nat.le_of_eq (by rw [Nat.zero_add]; exact (carr_size _).trans (carr_size _).symm)) (encC_one _) (seg_all CL.unit c1) ?_
   intro w60 hk61 hb62
   have hs_w60 := hk61.size
   refine rw_end ?_
   refine w_ret (post_retc (v := .agg (carr c1)) rfl rfl (load_cell (c := c1) hb62) ?_)
   have hbx_ := (hk58.keep hk61 (by omega))
   rw [cell_yes hT_]
   have hbd_ : s.bad = false := by simp [*]
   exact ⟨rfl, ⟨A1, k1, (by rw [hbd_]; exact hbx_), rrow_own (own_keep (d := (Kd.int .i64)) (own_keep (d := (Kd.int .i64)) (own_keep (d := (Kd.int .i64)) (own_keep (d := (Kd.int .i64)) (OwnK.on (d := (Kd.int .i64)) hO_ hb44) hk45 (by decide) hk49) ((((hb.on hb4).on hb9).on hb44).keep hk49 (by omega)) (by decide) hk53) hk54 (by decide) hk57) (((((hk5.on hb9).on hb44).keep hk49 (by omega)).keep hk53 (by omega)).keep hk57 (by omega)) (by decide) hk61)⟩, (kg_s (kg_s (kg_s (kg_s (kg_b (kg_b (kg_b (kg_refl g w) hb4) hb9) hb44) hk49 (.inr (by omega))) hk53 (.inl rfl)) hk57 (.inl rfl)) hk61 (.inr (by omega)))⟩
  ·
   refine rw_off (c := s.bad) rfl rfl rfl (by first | (rw [c51]; rfl) | simp [c51]) rfl rfl ?_
   refine rw_off (c := s.bad) rfl rfl rfl (by first | (rw [c51]; rfl) | simp [c51]) rfl rfl ?_
   refine rz (.bool true) (by first | (simp [go_sem, sEv, sLook, nbeq, i64_w, -List.getD_eq_getElem?_getD, c51]; done) | (rw [c51]; simp [go_sem, sEv, sLook, nbeq, i64_w, -List.getD_eq_getElem?_getD]; done) | (simp [go_sem, sEv, sLook, nbeq, i64_w, -List.getD_eq_getElem?_getD] <;> omega) | (simp [go_sem, sEv, sLook, nbeq, i64_w, -List.getD_eq_getElem?_getD]; intro h_; exact absurd (by omega) h_)) ?_
   refine rz (.pointer (some ⟨g, 0, none⟩)) (by simp [go_sem, sEv, sLook, nbeq, i64_w, -List.getD_eq_getElem?_getD]) ?_
   refine rz (.pointer (some ⟨g, 0, none⟩)) (by simp [go_sem, sEv, sLook, nbeq, i64_w, -List.getD_eq_getElem?_getD, Try.underlying90]) ?_
   have hb66 := ((((hb.on hb4).on hb9).on hb44).keep hk49 (by omega))
   refine rw_store (g := g) (i := 0) (l := [.slice A1 r1.length k1]) (cs' := #[.slice A1 r1.length k1, .bool s.bad]) rfl rfl rfl hb66 rfl (by have e0_ := hb66.cellv (i := 0) (v := (.slice A s.xs.length c : Value)) rfl; have f0_ := hb66.frozen 0; simp [go_sem, sEv, sLook, nbeq, i64_w, -List.getD_eq_getElem?_getD, putCells, e0_, f0_, Try.underlying22]) ?_
   intro w63 hk64 hk65
   have hs_w63 := hk64.size
   refine rz (.pointer (some ⟨g, 0, none⟩)) (by simp [go_sem, sEv, sLook, nbeq, i64_w, -List.getD_eq_getElem?_getD]) ?_
   refine rz (.pointer (some ⟨g, 1, none⟩)) (by simp [go_sem, sEv, sLook, nbeq, i64_w, -List.getD_eq_getElem?_getD, Try.underlying90]) ?_
   have hb70 := hk65
   refine rw_store (g := g) (i := 1) (l := [.bool true]) (cs' := #[.slice A1 r1.length k1, .bool true]) rfl rfl rfl hb70 rfl (by have e0_ := hb70.cellv (i := 1) (v := (.bool s.bad : Value)) rfl; have f0_ := hb70.frozen 1; simp [go_sem, sEv, sLook, nbeq, i64_w, -List.getD_eq_getElem?_getD, putCells, e0_, f0_]) ?_
   intro w67 hk68 hk69
   have hs_w67 := hk68.size
   refine rw_end ?_
   refine w_weaken (G' := [(2, .pointer (some ⟨g2, 0, none⟩)), (3, .pointer (some ⟨g42, 0, none⟩))]) ⟨rfl, rfl, trivial⟩ ?_
   refine w_seq ?_
   refine w_region ?_
   refine rz (.agg (carr c1)) (run_as (load_cell (c := c1) ((hb50.keep hk64 (by omega)).keep hk68 (by omega)))) ?_
   refine rw_seg (g := g2) (off := 0) (ty := 81) (p := .tmp 2) (x := .tmp 30) (v := .agg (carr c1)) (cs' := carr c1) rfl rfl rfl rfl rfl rfl (((((hk5.on hb9).on hb44).keep hk49 (by omega)).keep hk64 (by omega)).keep hk68 (by omega)) (by show (sizeOf 81).run _ _ = .ok (carr _).size _; rw [carr_size]; kernel_rfl) (Nat.le_of_eq (by rw [Nat.zero_add]; exact (carr_size _).trans (carr_size _).symm)) (encC_one _) (seg_all CL.unit c1) ?_
   intro w71 hk72 hb73
   have hs_w71 := hk72.size
   refine rw_end ?_
   refine w_ret (post_retc (v := .agg (carr c1)) rfl rfl (load_cell (c := c1) hb73) ?_)
   have hbx_ := (hk69.keep hk72 (by omega))
   rw [cell_yes hT_]
   have hbd_ : s.bad = true := by simp [*]
   exact ⟨rfl, ⟨A1, k1, (by rw [hbd_]; exact hbx_), rrow_own (own_keep (d := (Kd.int .i64)) (own_keep (d := (Kd.int .i64)) (own_keep (d := (Kd.int .i64)) (own_keep (d := (Kd.int .i64)) (OwnK.on (d := (Kd.int .i64)) hO_ hb44) hk45 (by decide) hk49) ((((hb.on hb4).on hb9).on hb44).keep hk49 (by omega)) (by decide) hk64) hk65 (by decide) hk68) (((((hk5.on hb9).on hb44).keep hk49 (by omega)).keep hk64 (by omega)).keep hk68 (by omega)) (by decide) hk72)⟩, (kg_s (kg_s (kg_s (kg_s (kg_b (kg_b (kg_b (kg_refl g w) hb4) hb9) hb44) hk49 (.inr (by omega))) hk64 (.inl rfl)) hk68 (.inl rfl)) hk72 (.inr (by omega)))⟩
theorem cell_calls (w : World) (g : Nat) (s : RS) (h : RD w g s) (hln : s.xs.length ≤ 100000) : Calls Try.prog 60 #[.pointer (some ⟨g, 0, none⟩)] w fun e w' => e = .returned (.agg (carr (cellR s).1)) ∧ RD w' g (cellR s).2 ∧ KG g w w' := by
  obtain ⟨B, A, c, hb, hr, hl⟩ := h.b
  exact cell_raw w g B s A c hb hr hl hb.lt hln
end Go.Proofs.Ytbbhdohjhipalaa.Ce
end
section
namespace Go.Proofs.Ytbbhdohjhipalaa.Ce
open Go.RowKit Go.Proofs.YtbbhdohjhipalaaW.PrintWords Go.Proofs.YtbbhdohjhipalaaW.PrintLast Go.Proofs.YtbbhdohjhipalaaW.PrintMore
open Go.Proofs.Ytbbhdohjhipalaa.Flow
set_option linter.unusedVariables false
set_option linter.unusedSimpArgs false
theorem next_k (w : World) (g B : Nat) (s : RS) (x : Int) (s2 : RS) (hx : nextR s = (x, s2)) (h : RDB w g B s) (hln : s.xs.length ≤ 1000000) : Calls Try.prog 58 #[.pointer (some ⟨g, 0, none⟩)] w fun e w' => e = .returned (.int .i64 x) ∧ RDB w' g B s2 ∧ Keep g w w' := by
  have q := next_calls w g B s h hln
  rw [hx] at q
  exact q
theorem count_k (w : World) (g B : Nat) (s : RS) (m y : Int) (s2 : RS) (hx : countR m s = (y, s2)) (h : RDB w g B s) (hln : s.xs.length ≤ 1000000) : Calls Try.prog 59 #[.pointer (some ⟨g, 0, none⟩), .int .i64 m] w fun e w' => e = .returned (.int .i64 y) ∧ RDB w' g B s2 ∧ Keep g w w' := by
  have q := count_calls w g B s m h hln
  rw [hx] at q
  exact q
theorem cell_k (w : World) (g : Nat) (s : RS) (c : CL) (s2 : RS) (hx : cellR s = (c, s2)) (h : RD w g s) (hln : s.xs.length ≤ 100000) : Calls Try.prog 60 #[.pointer (some ⟨g, 0, none⟩)] w fun e w' => e = .returned (.agg (carr c)) ∧ RD w' g s2 ∧ KG g w w' := by
  have q := cell_calls w g s h hln
  rw [hx] at q
  exact q
theorem next_le {s s2 : RS} {x : Int} (hx : nextR s = (x, s2)) : s2.xs.length ≤ s.xs.length := by
  have q := nextR_len s
  rw [hx] at q
  exact q
theorem count_nat {s s2 : RS} {m y : Int} (hx : countR m s = (y, s2)) (hm : 0 ≤ m) : ∃ k : Nat, (k : Int) ≤ m ∧ y = (k : Int) ∧ s2.xs.length ≤ s.xs.length := by
  have q := nextR_len s
  unfold countR at hx
  split at hx
  · cases hx
    exact ⟨0, hm, rfl, q⟩
  · rename_i h
    rw [hx] at h q
    refine ⟨y.toNat, ?_, ?_, q⟩ <;> simp only at h <;> omega
theorem takeC_le {l r : List Int} {c : CL} (h : takeC l = some (c, r)) : r.length ≤ l.length := by
  unfold takeC at h
  split at h
  · split at h
    · cases h
    · cases h
      rw [List.length_drop]
      omega
  · cases h
theorem cell_le {s s2 : RS} {c : CL} (hx : cellR s = (c, s2)) : s2.xs.length ≤ s.xs.length := by
  unfold cellR at hx
  split at hx
  · cases hx
    simp
  · rename_i h
    cases hx
    exact takeC_le h
theorem numsR_step {j : Nat} {s si s2 : RS} {l : List Int} {x : Int} (h : numsR j s = (l, si)) (hx : nextR si = (x, s2)) : numsR (j + 1) s = (l ++ [x], s2) := by
  simp only [numsR, h, hx]
def OF (i : Nat) (s : RS) (a b c d e : Int) (si : RS) : Prop := nextsR i s = si ∧ (1 ≤ i → (nextR s).1 = a) ∧ (2 ≤ i → (nextR (nextsR 1 s)).1 = b) ∧ (3 ≤ i → (nextR (nextsR 2 s)).1 = c) ∧ (4 ≤ i → (nextR (nextsR 3 s)).1 = d) ∧ (5 ≤ i → (nextR (nextsR 4 s)).1 = e)
theorem of_0 (s : RS) : OF 0 s 0 0 0 0 0 s := ⟨rfl, fun h => by omega, fun h => by omega, fun h => by omega, fun h => by omega, fun h => by omega⟩
theorem of_1 {s si s2 : RS} {a b c d e x : Int} (h : OF 0 s a b c d e si) (hx : nextR si = (x, s2)) : OF 1 s x b c d e s2 := by
  obtain ⟨rfl, h1, h2, h3, h4, h5⟩ := h
  exact ⟨congrArg Prod.snd hx, fun _ => congrArg Prod.fst hx, fun h => by omega, fun h => by omega, fun h => by omega, fun h => by omega⟩
theorem of_2 {s si s2 : RS} {a b c d e x : Int} (h : OF 1 s a b c d e si) (hx : nextR si = (x, s2)) : OF 2 s a x c d e s2 := by
  obtain ⟨rfl, h1, h2, h3, h4, h5⟩ := h
  exact ⟨congrArg Prod.snd hx, fun _ => h1 (by omega), fun _ => congrArg Prod.fst hx, fun h => by omega, fun h => by omega, fun h => by omega⟩
theorem of_3 {s si s2 : RS} {a b c d e x : Int} (h : OF 2 s a b c d e si) (hx : nextR si = (x, s2)) : OF 3 s a b x d e s2 := by
  obtain ⟨rfl, h1, h2, h3, h4, h5⟩ := h
  exact ⟨congrArg Prod.snd hx, fun _ => h1 (by omega), fun _ => h2 (by omega), fun _ => congrArg Prod.fst hx, fun h => by omega, fun h => by omega⟩
theorem of_4 {s si s2 : RS} {a b c d e x : Int} (h : OF 3 s a b c d e si) (hx : nextR si = (x, s2)) : OF 4 s a b c x e s2 := by
  obtain ⟨rfl, h1, h2, h3, h4, h5⟩ := h
  exact ⟨congrArg Prod.snd hx, fun _ => h1 (by omega), fun _ => h2 (by omega), fun _ => h3 (by omega), fun _ => congrArg Prod.fst hx, fun h => by omega⟩
theorem of_5 {s si s2 : RS} {a b c d e x : Int} (h : OF 4 s a b c d e si) (hx : nextR si = (x, s2)) : OF 5 s a b c d x s2 := by
  obtain ⟨rfl, h1, h2, h3, h4, h5⟩ := h
  exact ⟨congrArg Prod.snd hx, fun _ => h1 (by omega), fun _ => h2 (by omega), fun _ => h3 (by omega), fun _ => h4 (by omega), fun _ => congrArg Prod.fst hx⟩
theorem opsR_step {j : Nat} {s si s2 : RS} {l : List OpL} {a b c d e : Int} (h : opsR j s = (l, si)) (hx : OF 5 si a b c d e s2) : opsR (j + 1) s = (l ++ [(a, b, c, d, e)], s2) := by
  obtain ⟨h0, h1, h2, h3, h4, h5⟩ := hx
  simp only [opsR, h, opR, h0, h1 (by omega), h2 (by omega), h3 (by omega), h4 (by omega), h5 (by omega)]
theorem entsR_step {j : Nat} {s si sa sb sc : RS} {l : List EL} {x y : Int} {c : CL} (h : entsR j s = (l, si)) (hb : si.bad = false) (h1 : nextR si = (x, sa)) (h2 : nextR sa = (y, sb)) (h3 : cellR sb = (c, sc)) : entsR (j + 1) s = (l ++ [⟨x, y, c⟩], sc) := by
  have e1 : nextsR 2 si = sb := by show (nextR (nextR si).2).2 = sb; rw [h1, h2]
  have e2 : nextsR 1 si = sa := by show (nextR si).2 = sa; rw [h1]
  simp only [entsR, h, hb, entR, h1, h2, h3, e1]
  simp
theorem entsR_bad {s si : RS} {l : List EL} {j : Nat} (h : entsR j s = (l, si)) (hb : si.bad = true) : ∀ k, j ≤ k → entsR k s = (l, si)
  | 0, hk => by obtain rfl : j = 0 := by omega
                exact h
  | k + 1, hk => by
    rcases Nat.lt_or_ge k j with h1 | h1
    · obtain rfl : j = k + 1 := by omega
      exact h
    · have q := entsR_bad h hb k h1
      simp only [entsR, q, hb, if_true]
theorem own_app_o {α : Type} {d : Kd α} {P : Program} {o : Oper} {G : Env} {w0 W : World} (base b : Nat) (s x : Operand) (t e : TypeId) (z : Value) (bytes : Nat)
    (ho : o.op = .call { callee := .builtin .append, args := #[s, x], argTypes := #[t, t] }) (ht : P.underlying t = some (.slice e)) (hinfo : (P.info? e).map (fun i => (i.zero, i.size, i.bytes)) = some (some z, d.sz, bytes)) (hz : z.cells.size = d.sz) (hs0 : 0 < d.sz) (hb0 : 0 < bytes)
    (hKM : ∀ x cs, d.K W x cs → d.M W base (fun _ => False) x cs)
    {xs ys : List α} {A A2 : Option Addr} {m c m2 c2 : Nat} (hs : sEv G s = .slice A m c) (hx : sEv G x = .slice A2 m2 c2) (hb : b ≤ W.heap.size) (h0 : OwnK d e W base b A m c xs ∧ Below w0.heap.size w0 W) (HR : d.C W A2 m2 ys) (hbase : base ≤ W.heap.size) (hl : (xs.length + m2) * bytes ≤ 140737488355328) :
    ∃ v w', (execOp (sEv G) o).run P W = .ok (.value v) w' ∧ (OwnKSpec d e base b (xs ++ ys)).s v w' ∧ Kept W w' (fun q => (Value.slice A m c).ownBlock = some q) ∧ True ∧ QT W w' := by
  obtain ⟨v, w', h1, h2, h3⟩ := own_app_gives (d := d) base b s x t e z bytes ho ht hinfo hz hs0 hb0 hKM hs hx hb h0.1 HR hbase hl
  exact ⟨v, w', h1, h2, kept_grown h3, trivial, h3.os, h3.tape, h3.output⟩
theorem note_eq {s s1 s2 s3 s4 s5 s6 s7 s8 s9 : RS} {x1 x2 x3 : Int} {k1 k2 k3 : Nat} {l1 : List Int} {l2 : List OpL} {l3 : List EL} (h1 : nextR s = (x1, s1)) (h2 : nextR s1 = (x2, s2)) (h3 : nextR s2 = (x3, s3)) (h4 : countR 64 s3 = ((k1 : Int), s4)) (h5 : numsR k1 s4 = (l1, s5)) (h6 : countR 16 s5 = ((k2 : Int), s6)) (h7 : opsR k2 s6 = (l2, s7)) (h8 : countR 16 s7 = ((k3 : Int), s8)) (h9 : entsR k3 s8 = (l3, s9)) : noteR s = (⟨x1, x2, x3, l1, l2, l3⟩, s9) := by
  have e1 : nextsR 1 s = s1 := by show (nextR s).2 = s1; rw [h1]
  have e2 : nextsR 2 s = s2 := by show (nextR (nextsR 1 s)).2 = s2; rw [e1, h2]
  have e3 : nextsR 3 s = s3 := by show (nextR (nextsR 2 s)).2 = s3; rw [e2, h3]
  simp only [noteR, e1, e2, e3, h1, h2, h3, h4, h5, h6, h7, h8, h9, Int.toNat_natCast]
set_option maxHeartbeats 4000000 in
theorem note_raw (w : World) (w1 : World) (g : Nat) (s : RS) (hb0 : Below w.heap.size w w1) (hs_w1 : w.heap.size ≤ w1.heap.size) (hg0 : w.heap.size ≤ g) (hg1 : g < w1.heap.size) (A : Option Addr) (c : Nat) (hb : Blk w1 g 90 #[.slice A s.xs.length c, .bool s.bad]) (hr : RRow w1 A s.xs.length c s.xs) (hl : Low w1.heap.size A) (hln : s.xs.length ≤ 100000) :
  Calls Try.prog 38 #[.pointer (some ⟨g, 0, none⟩)] w1 fun e w' => ∃ A3 c3 A4 c4 A5 c5, e = .returned (.agg #[.int .i64 (noteR s).1.kind, .int .i64 (noteR s).1.fr, .int .i64 (noteR s).1.tw, .slice A3 (noteR s).1.nums.length c3, .slice A4 (noteR s).1.ops.length c4, .slice A5 (noteR s).1.ents.length c5]) ∧ OwnK (Kd.int .i64) 3 w' w.heap.size w1.heap.size A3 (noteR s).1.nums.length c3 (noteR s).1.nums ∧ OwnK kOp 73 w' w.heap.size w1.heap.size A4 (noteR s).1.ops.length c4 (noteR s).1.ops ∧ OwnK kEntry 83 w' w.heap.size w1.heap.size A5 (noteR s).1.ents.length c5 (noteR s).1.ents ∧ RD w' g (noteR s).2 ∧ Below w.heap.size w w' := by
 refine calls_flow Try.func38 rfl 84 rfl (Nat.le_of_ble_eq_true rfl) [(0, .pointer (some ⟨g, 0, none⟩))] ?_ ?_
 ·
  intro t v h; exact args_look rfl t v h
 refine w_seq ?_
 refine w_region ?_
 refine rw_new (cs := #[.int .i64 0, .int .i64 0, .int .i64 0, .slice none 0 0, .slice none 0 0, .slice none 0 0]) (t := 26) (fun g => .pointer (some ⟨g, 0, none⟩)) rfl rfl rfl rfl (by kernel_rfl) ?_
 intro g2 w3 hg7 hz6 hb4 hk5
 have hs_w3 := hb4.size
 refine rw_end ?_
 refine w_scope ?_
 refine w_seq ?_
 refine w_region ?_
 refine rv (.pointer (some ⟨g, 0, none⟩)) ?_
 rcases hx10 : nextR s with ⟨x11, s12⟩
 have hl13 := next_le hx10
 refine rw_call rfl rfl rfl rfl (f := 58) (args := #[.pointer (some ⟨g, 0, none⟩)]) (by simp [go_sem, sEv, sLook, nbeq, i64_w, -List.getD_eq_getElem?_getD]) (next_k w3 g w1.heap.size s x11 s12 hx10 ⟨A, c, (hb.on hb4), (RRow.on hr hb4), hl⟩ (by omega)) ?_
 rintro e_ w8 ⟨rfl, ⟨A14, c15, hb16, hr17, hl18⟩, hk9⟩
 refine ⟨_, rfl, ?_⟩
 have hs_w8 := hk9.size
 refine rz (.agg #[.int .i64 x11, .int .i64 0, .int .i64 0, .slice none 0 0, .slice none 0 0, .slice none 0 0]) (by kernel_rfl) ?_
 refine rw_new (cs := #[.int .i64 0, .int .i64 0, .int .i64 0, .slice none 0 0, .slice none 0 0, .slice none 0 0]) (t := 26) (fun g => .pointer (some ⟨g, 0, none⟩)) rfl rfl rfl rfl (by kernel_rfl) ?_
 intro g20 w21 hg25 hz24 hb22 hk23
 have hs_w21 := hb22.size
 have hb29 := hk23
 refine rw_store (g := g20) (i := 0) (l := [.int .i64 x11, .int .i64 0, .int .i64 0, .slice none 0 0, .slice none 0 0, .slice none 0 0]) (cs' := #[.int .i64 x11, .int .i64 0, .int .i64 0, .slice none 0 0, .slice none 0 0, .slice none 0 0]) rfl rfl rfl hb29 rfl (by have e0_ := hb29.cellv (i := 0) (v := (.int .i64 0 : Value)) rfl; have f0_ := hb29.frozen 0; have e1_ := hb29.cellv (i := 1) (v := (.int .i64 0 : Value)) rfl; have f1_ := hb29.frozen 1; have e2_ := hb29.cellv (i := 2) (v := (.int .i64 0 : Value)) rfl; have f2_ := hb29.frozen 2; have e3_ := hb29.cellv (i := 3) (v := (.slice none 0 0 : Value)) rfl; have f3_ := hb29.frozen 3; have e4_ := hb29.cellv (i := 4) (v := (.slice none 0 0 : Value)) rfl; have f4_ := hb29.frozen 4; have e5_ := hb29.cellv (i := 5) (v := (.slice none 0 0 : Value)) rfl; have f5_ := hb29.frozen 5; simp [go_sem, sEv, sLook, nbeq, i64_w, -List.getD_eq_getElem?_getD, putCells, e0_, f0_, e1_, f1_, e2_, f2_, e3_, f3_, e4_, f4_, e5_, f5_, Try.underlying26]) ?_
 intro w26 hk27 hk28
 have hs_w26 := hk27.size
 refine rw_end ?_
 refine w_weaken (G' := [(0, .pointer (some ⟨g, 0, none⟩)), (2, .pointer (some ⟨g2, 0, none⟩)), (3, .pointer (some ⟨g20, 0, none⟩))]) ⟨rfl, rfl, rfl, trivial⟩ ?_
 refine w_seq ?_
 refine w_region ?_
 refine rv (.pointer (some ⟨g, 0, none⟩)) ?_
 rcases hx32 : nextR s12 with ⟨x33, s34⟩
 have hl35 := next_le hx32
 refine rw_call rfl rfl rfl rfl (f := 58) (args := #[.pointer (some ⟨g, 0, none⟩)]) (by simp [go_sem, sEv, sLook, nbeq, i64_w, -List.getD_eq_getElem?_getD]) (next_k w26 g w1.heap.size s12 x33 s34 hx32 ⟨A14, c15, ((hb16.on hb22).keep hk27 (by omega)), (RRow.keep (RRow.on hr17 hb22) hk23 (by decide) hk27), hl18⟩ (by omega)) ?_
 rintro e_ w30 ⟨rfl, ⟨A36, c37, hb38, hr39, hl40⟩, hk31⟩
 refine ⟨_, rfl, ?_⟩
 have hs_w30 := hk31.size
 refine rz (.pointer (some ⟨g20, 1, none⟩)) (by simp [go_sem, sEv, sLook, nbeq, i64_w, -List.getD_eq_getElem?_getD, Try.underlying26]) ?_
 have hb45 := (hk28.keep hk31 (by omega))
 refine rw_store (g := g20) (i := 1) (l := [.int .i64 x33]) (cs' := #[.int .i64 x11, .int .i64 x33, .int .i64 0, .slice none 0 0, .slice none 0 0, .slice none 0 0]) rfl rfl rfl hb45 rfl (by have e0_ := hb45.cellv (i := 1) (v := (.int .i64 0 : Value)) rfl; have f0_ := hb45.frozen 1; simp [go_sem, sEv, sLook, nbeq, i64_w, -List.getD_eq_getElem?_getD, putCells, e0_, f0_]) ?_
 intro w42 hk43 hk44
 have hs_w42 := hk43.size
 refine rw_end ?_
 refine w_weaken (G' := [(0, .pointer (some ⟨g, 0, none⟩)), (2, .pointer (some ⟨g2, 0, none⟩)), (3, .pointer (some ⟨g20, 0, none⟩))]) ⟨rfl, rfl, rfl, trivial⟩ ?_
 refine w_seq ?_
 refine w_region ?_
 refine rv (.pointer (some ⟨g, 0, none⟩)) ?_
 rcases hx48 : nextR s34 with ⟨x49, s50⟩
 have hl51 := next_le hx48
 refine rw_call rfl rfl rfl rfl (f := 58) (args := #[.pointer (some ⟨g, 0, none⟩)]) (by simp [go_sem, sEv, sLook, nbeq, i64_w, -List.getD_eq_getElem?_getD]) (next_k w42 g w1.heap.size s34 x49 s50 hx48 ⟨A36, c37, (hb38.keep hk43 (by omega)), (RRow.keep hr39 (hk28.keep hk31 (by omega)) (by decide) hk43), hl40⟩ (by omega)) ?_
 rintro e_ w46 ⟨rfl, ⟨A52, c53, hb54, hr55, hl56⟩, hk47⟩
 refine ⟨_, rfl, ?_⟩
 have hs_w46 := hk47.size
 refine rz (.pointer (some ⟨g20, 2, none⟩)) (by simp [go_sem, sEv, sLook, nbeq, i64_w, -List.getD_eq_getElem?_getD, Try.underlying26]) ?_
 have hb61 := (hk44.keep hk47 (by omega))
 refine rw_store (g := g20) (i := 2) (l := [.int .i64 x49]) (cs' := #[.int .i64 x11, .int .i64 x33, .int .i64 x49, .slice none 0 0, .slice none 0 0, .slice none 0 0]) rfl rfl rfl hb61 rfl (by have e0_ := hb61.cellv (i := 2) (v := (.int .i64 0 : Value)) rfl; have f0_ := hb61.frozen 2; simp [go_sem, sEv, sLook, nbeq, i64_w, -List.getD_eq_getElem?_getD, putCells, e0_, f0_]) ?_
 intro w58 hk59 hk60
 have hs_w58 := hk59.size
 refine rw_end ?_
 refine w_weaken (G' := [(0, .pointer (some ⟨g, 0, none⟩)), (2, .pointer (some ⟨g2, 0, none⟩)), (3, .pointer (some ⟨g20, 0, none⟩))]) ⟨rfl, rfl, rfl, trivial⟩ ?_
 refine w_seq ?_
 refine w_seq ?_
 refine w_region ?_
 refine rv (.pointer (some ⟨g, 0, none⟩)) ?_
 rcases hx64 : countR 64 s50 with ⟨x65, s66⟩
 obtain ⟨k68, hm69, rfl, hl67⟩ := count_nat hx64 (by decide)
 refine rw_call rfl rfl rfl rfl (f := 59) (args := #[.pointer (some ⟨g, 0, none⟩), .int .i64 64]) (by simp [go_sem, sEv, sLook, nbeq, i64_w, -List.getD_eq_getElem?_getD]) (count_k w58 g w1.heap.size s50 64 _ s66 hx64 ⟨A52, c53, (hb54.keep hk59 (by omega)), (RRow.keep hr55 (hk44.keep hk47 (by omega)) (by decide) hk59), hl56⟩ (by omega)) ?_
 rintro e_ w62 ⟨rfl, ⟨A70, c71, hb72, hr73, hl74⟩, hk63⟩
 refine ⟨_, rfl, ?_⟩
 have hs_w62 := hk63.size
 refine rv (.int .i64 0) ?_
 refine rw_end ?_
 refine w_block ?_
 refine w_loop (fun m_ G W_ => ∃ (j : Nat) (l1 : List Int) (sj : RS) (Ar : Option Addr) (cr : Nat) (Aq : Option Addr) (cq : Nat), j + m_ = k68 ∧ Below w.heap.size w W_ ∧ (Blk W_ g 90 #[.slice Ar sj.xs.length cr, .bool sj.bad]) ∧ (Blk W_ g20 26 #[.int .i64 x11, .int .i64 x33, .int .i64 x49, .slice Aq l1.length cq, .slice none 0 0, .slice none 0 0]) ∧ (Blk W_ g2 26 #[.int .i64 0, .int .i64 0, .int .i64 0, .slice none 0 0, .slice none 0 0, .slice none 0 0]) ∧ (OwnK (Kd.int .i64) 3 W_ w.heap.size w1.heap.size Aq l1.length cq l1) ∧ (RRow W_ Ar sj.xs.length cr sj.xs ∧ Low w1.heap.size Ar) ∧ (sj.xs.length ≤ 100000) ∧ (numsR j s66 = (l1, sj)) ∧ (l1.length = j) ∧ G = [(0, .pointer (some ⟨g, 0, none⟩)), (2, .pointer (some ⟨g2, 0, none⟩)), (3, .pointer (some ⟨g20, 0, none⟩)), (17, .int .i64 ((k68 : Nat) : Int)), (18, .int .i64 ((j : Nat) : Int))]) k68 [(0, .pointer (some ⟨g, 0, none⟩)), (2, .pointer (some ⟨g2, 0, none⟩)), (3, .pointer (some ⟨g20, 0, none⟩)), (17, .int .i64 ((k68 : Nat) : Int)), (18, .int .i64 0)] ⟨0, [], s66, A70, c71, none, 0, by omega, (hk63.below (by omega) (hk59.below (by omega) (hk47.below (by omega) (hk43.below (by omega) (hk31.below (by omega) (hk27.below (by omega) (chain (hk9.below (by omega) (chain hb0 hb4)) hb22))))))), hb72, (hk60.keep hk63 (by omega)), ((((((((hk5.keep hk9 (by omega)).on hb22).keep hk27 (by omega)).keep hk31 (by omega)).keep hk43 (by omega)).keep hk47 (by omega)).keep hk59 (by omega)).keep hk63 (by omega)), (OwnK.nil _ _ _ _ _), ⟨hr73, hl74⟩, (by omega), rfl, rfl, rfl⟩ ⟨rfl, rfl, rfl, rfl, rfl, trivial⟩ ?_
 rintro m_ G w_L76 ⟨j, l1, sj, Ar, cr, Aq, cq, hp77, hB_L76, hf78, hf79, hf80, hf81, hf82, hf83, hf84, hf85, rfl⟩
 have hs_w_L76 := hB_L76.size
 obtain ⟨hrr_w_L76, hlo_w_L76⟩ := hf82
 have hlt_g20_w_L76 := hf79.lt
 have hlt_g2_w_L76 := hf80.lt
 have hX0_0 := hf84
 have hX0_1 := hf85
 refine w_seq ?_
 refine w_region ?_
 refine rz (.bool (decide (((j : Nat) : Int) < ((k68 : Nat) : Int)))) (by simp [go_sem, sEv, sLook, nbeq, i64_w, -List.getD_eq_getElem?_getD]) ?_
 refine rw_end ?_
 refine w_seq ?_
 refine w_cond rfl rfl (fun c87 => ?_) (fun c87 => ?_)
 ·
  have l88 : (((j : Nat) : Int) < ((k68 : Nat) : Int)) := of_decide_eq_true c87
  refine w_skip ?_
  refine w_seq ?_
  refine w_block ?_
  rcases hx89 : nextR sj with ⟨x90, s91⟩
  have hl92 := next_le hx89
  have oA93 : OwnK (Kd.int .i64) 3 w_L76 w.heap.size w1.heap.size Aq l1.length cq l1 := hf81
  have hRD94 : RDB w_L76 g w1.heap.size sj := ⟨Ar, cr, hf78, hrr_w_L76, hlo_w_L76⟩
  have hb95 := hf79
  have hb96 := hf80
  have hST_ := two_st (p := 3) (q := 5) (x := ⟨fun q_ => q_ = g, fun W_ => RDB W_ g w1.heap.size sj ∧ Below w.heap.size w W_, fun W_ => RDB W_ g w1.heap.size s91 ∧ Below w.heap.size w W_⟩) (y := ⟨fun q_ => (Value.slice Aq l1.length cq).ownBlock = some q_, fun W_ => OwnK (Kd.int .i64) 3 W_ w.heap.size w1.heap.size Aq l1.length cq l1 ∧ Below w.heap.size w W_, fun _ => True⟩) (ss := [Is (.pointer (some ⟨g20, 3, none⟩)), Is (.slice Aq l1.length cq), Is (.pointer (some ⟨g, 0, none⟩)), Is (.int .i64 x90), SlcSpec w_L76.heap.size 3 #[.int .i64 x90] 1, (OwnKSpec (Kd.int .i64) 3 w.heap.size w1.heap.size (l1 ++ [x90])), Is (.pointer (some ⟨g20, 3, none⟩))]) (show StabX _ 3 _ from ⟨stab_is, stab_is, stab_is, stab_cons (stab_slc (fun q_ h_ hs_ => by have e_ : q_ = g := hs_; omega)) (stab_cons (stab_own (fun q_ h_ hs_ => by have e_ : q_ = g := hs_; omega)) (stab_cons stab_is stab_nil))⟩) (show StabX _ 5 _ from ⟨stab_is, stab_is, stab_is, stab_is, stab_slc (fun q_ h_ hs_ => by have q2_ := own_lt (d := (Kd.int .i64)) oA93 hs_; omega), stab_cons stab_is stab_nil⟩)
  have hFF_ := two_ff (p := 3) (q := 5) (x := ⟨fun q_ => q_ = g, fun W_ => RDB W_ g w1.heap.size sj ∧ Below w.heap.size w W_, fun W_ => RDB W_ g w1.heap.size s91 ∧ Below w.heap.size w W_⟩) (y := ⟨fun q_ => (Value.slice Aq l1.length cq).ownBlock = some q_, fun W_ => OwnK (Kd.int .i64) 3 W_ w.heap.size w1.heap.size Aq l1.length cq l1 ∧ Below w.heap.size w W_, fun _ => True⟩) (fun X_ Y_ hk_ hq_ => ⟨fun h_ => ⟨OwnK.step h_.1 (fun q_ hq2_ hlt_ => hk_.2 q_ hlt_ (fun e_ => by have e2_ : q_ = g := e_; omega)), below_k h_.2 hk_ hq_ (fun q_ e_ => by have e2_ : q_ = g := e_; omega)⟩, fun _ => trivial⟩) (fun X_ Y_ hk_ hq_ => ⟨fun h_ => ⟨RDB.k h_.1 (by omega) hk_ (fun q_ hs_ => (own_lt (d := (Kd.int .i64)) oA93 hs_).1), below_k h_.2 hk_ hq_ (fun q_ hs_ => by have q2_ := own_lt (d := (Kd.int .i64)) oA93 hs_; omega)⟩, fun h_ => ⟨RDB.k h_.1 (by omega) hk_ (fun q_ hs_ => (own_lt (d := (Kd.int .i64)) oA93 hs_).1), below_k h_.2 hk_ hq_ (fun q_ hs_ => by have q2_ := own_lt (d := (Kd.int .i64)) oA93 hs_; omega)⟩⟩)
  have hF_ := two_cases (p := 3) (q := 5) (x := ⟨fun q_ => q_ = g, fun W_ => RDB W_ g w1.heap.size sj ∧ Below w.heap.size w W_, fun W_ => RDB W_ g w1.heap.size s91 ∧ Below w.heap.size w W_⟩) (y := ⟨fun q_ => (Value.slice Aq l1.length cq).ownBlock = some q_, fun W_ => OwnK (Kd.int .i64) 3 W_ w.heap.size w1.heap.size Aq l1.length cq l1 ∧ Below w.heap.size w W_, fun _ => True⟩) (P := fun _ z => ∀ X_ Y_, Below X_.heap.size X_ Y_ → (z.F0 X_ → z.F0 Y_) ∧ (z.F1 X_ → z.F1 Y_)) (fun X_ Y_ hb_ => ⟨fun h_ => ⟨h_.1.on hb_, chain h_.2 hb_⟩, fun h_ => ⟨h_.1.on hb_, chain h_.2 hb_⟩⟩) (fun X_ Y_ hb_ => ⟨fun h_ => ⟨OwnK.on (d := (Kd.int .i64)) h_.1 hb_, chain h_.2 hb_⟩, fun _ => trivial⟩)
  have hI_ := two_cases (p := 3) (q := 5) (x := ⟨fun q_ => q_ = g, fun W_ => RDB W_ g w1.heap.size sj ∧ Below w.heap.size w W_, fun W_ => RDB W_ g w1.heap.size s91 ∧ Below w.heap.size w W_⟩) (y := ⟨fun q_ => (Value.slice Aq l1.length cq).ownBlock = some q_, fun W_ => OwnK (Kd.int .i64) 3 W_ w.heap.size w1.heap.size Aq l1.length cq l1 ∧ Below w.heap.size w W_, fun _ => True⟩) (P := fun _ z => z.F0 w_L76.drew) ⟨hRD94.on (below_drew _), chain hB_L76 (below_drew _)⟩ ⟨OwnK.on (d := (Kd.int .i64)) oA93 (below_drew _), chain hB_L76 (below_drew _)⟩
  refine w_drawo (M := [0, 1, 0, 4, 12, 31, 63, 127]) (ss := [Is (.pointer (some ⟨g20, 3, none⟩)), Is (.slice Aq l1.length cq), Is (.pointer (some ⟨g, 0, none⟩)), Is (.int .i64 x90), SlcSpec w_L76.heap.size 3 #[.int .i64 x90] 1, (OwnKSpec (Kd.int .i64) 3 w.heap.size w1.heap.size (l1 ++ [x90])), Is (.pointer (some ⟨g20, 3, none⟩))]) (two 3 5 ⟨fun q_ => q_ = g, fun W_ => RDB W_ g w1.heap.size sj ∧ Below w.heap.size w W_, fun W_ => RDB W_ g w1.heap.size s91 ∧ Below w.heap.size w W_⟩ ⟨fun q_ => (Value.slice Aq l1.length cq).ownBlock = some q_, fun W_ => OwnK (Kd.int .i64) 3 W_ w.heap.size w1.heap.size Aq l1.length cq l1 ∧ Below w.heap.size w W_, fun _ => True⟩) 7 rfl (by decide +kernel) (two_cases (P := fun j _ => j < 7) (by decide) (by decide)) hST_ hF_ hFF_ hI_ ?_
  refine v_is (by kernel_rfl) (.pointer (some ⟨g20, 3, none⟩)) rfl rfl rfl rfl (fun W_ hW_ h1_ F_ => by simp [go_sem, sEv, sLook, nbeq, i64_w, -List.getD_eq_getElem?_getD, Try.underlying26]) ?_
  refine v_is (by kernel_rfl) (.slice Aq l1.length cq) rfl rfl rfl rfl (fun W_ hW_ h1_ F_ => by have eb_ := Blk.kept hb95 (drew_kept hW_) (fun hs_ => (mu_two hs_).elim (fun e_ => by have e2_ : g20 = g := e_; omega) (own_ne_blk (d := (Kd.int .i64)) oA93 hb95 (.inr (by decide)))); have e0_ := eb_.cellv (i := 3) (v := (.slice Aq l1.length cq : Value)) rfl; simp [go_sem, sEv, sLook, nbeq, i64_w, -List.getD_eq_getElem?_getD, e0_, Try.underlying22]) ?_
  refine v_is (by kernel_rfl) (.pointer (some ⟨g, 0, none⟩)) rfl rfl rfl rfl (fun W_ hW_ h1_ F_ => rfl) ?_
  refine v_mut (x := ⟨fun q_ => q_ = g, fun W_ => RDB W_ g w1.heap.size sj ∧ Below w.heap.size w W_, fun W_ => RDB W_ g w1.heap.size s91 ∧ Below w.heap.size w W_⟩) rfl (Is (.int .i64 x90)) (f := 58) (args := #[.pointer (some ⟨g, 0, none⟩)]) rfl rfl rfl rfl (fun W_ => by simp [go_sem, sEv, sLook, nbeq, i64_w, -List.getD_eq_getElem?_getD]) (fun W_ hW_ h0_ F_ => (next_k W_ g w1.heap.size sj x90 s91 hx89 h0_.1 (by omega)).mono (by rintro e_ w_ ⟨rfl, h2_, h3_⟩; exact ⟨_, rfl, rfl, kg_kept (kg_keep h3_), ⟨h2_, h3_.below hg0 h0_.2⟩, h3_.os, h3_.tape, h3_.output⟩)) ?_
  rintro _ rfl
  refine v_val (by kernel_rfl) (SlcSpec w_L76.heap.size 3 #[.int .i64 x90] 1) rfl rfl rfl rfl (fun W_ hW_ h1_ F_ => slc_gives _ _ _ _ (drew_kept hW_).1 (by kernel_rfl)) ?_
  rintro _ ⟨g97, rfl⟩
  refine v_app (x := ⟨fun q_ => (Value.slice Aq l1.length cq).ownBlock = some q_, fun W_ => OwnK (Kd.int .i64) 3 W_ w.heap.size w1.heap.size Aq l1.length cq l1 ∧ Below w.heap.size w W_, fun _ => True⟩) rfl (OwnKSpec (Kd.int .i64) 3 w.heap.size w1.heap.size (l1 ++ [x90])) rfl rfl rfl rfl (fun W_ hW_ h0_ F_ => own_app_o (d := (Kd.int .i64)) w.heap.size w1.heap.size (.tmp 21) (.tmp 24) 22 3 (.int .i64 0) 8 rfl (by kernel_rfl) (by kernel_rfl) rfl (show 0 < 1 by decide) (by decide) (fun _ _ h => h) rfl rfl (by have q2_ := (drew_kept hW_).1; omega) h0_ (OwnK.C (d := (Kd.int .i64)) (scal_own (e := 3) (cap := 1) (xs := ([x90] : List Int)) 0 (slc_fact (F_ 4 _ _ rfl rfl)).2 (Nat.zero_le _) rfl rfl (by simp))) h0_.2.size (by first | omega | (simp only [List.length_cons, List.length_nil]; omega))) ?_
  rintro _ ⟨A98, c99, rfl, hle100⟩
  refine v_is (by kernel_rfl) (.pointer (some ⟨g20, 3, none⟩)) rfl rfl rfl rfl (fun W_ hW_ h1_ F_ => by simp [go_sem, sEv, sLook, nbeq, i64_w, -List.getD_eq_getElem?_getD, Try.underlying26]) ?_
  refine v_tail ?_
  intro w101 hK102_ h103 F104
  have hK102 := drew_kept hK102_
  obtain ⟨⟨A108, c109, hb110, hr111, hl112⟩, hB106⟩ := h103 3 _ rfl
  have hs_w101 := hB106.size
  have hgs_w101 := hK102.1
  have hO107 : OwnK (Kd.int .i64) 3 w101 w.heap.size w1.heap.size A98 (l1 ++ [x90]).length c99 (l1 ++ [x90]) := ownk_fact (F104 5 (OwnKSpec (Kd.int .i64) 3 w.heap.size w1.heap.size (l1 ++ [x90])) (.slice A98 (l1 ++ [x90]).length c99) (by kernel_rfl))
  have hk113 := Blk.kept hb95 hK102 (fun hs_ => (mu_two hs_).elim (fun e_ => by have e2_ : g20 = g := e_; omega) (own_ne_blk (d := (Kd.int .i64)) oA93 hb95 (.inr (by decide))))
  have hk114 := Blk.kept hb96 hK102 (fun hs_ => (mu_two hs_).elim (fun e_ => by have e2_ : g2 = g := e_; omega) (own_ne_blk (d := (Kd.int .i64)) oA93 hb96 (.inr (by decide))))
  clear F104 hST_ hFF_ hF_ hI_
  have hb119 := hk113
  refine rw_store (g := g20) (i := 3) (l := [.slice A98 ((l1 ++ [x90]).length) c99]) (cs' := #[.int .i64 x11, .int .i64 x33, .int .i64 x49, .slice A98 ((l1 ++ [x90]).length) c99, .slice none 0 0, .slice none 0 0]) rfl rfl rfl hb119 rfl (by have e0_ := hb119.cellv (i := 3) (v := (.slice Aq l1.length cq : Value)) rfl; have f0_ := hb119.frozen 3; simp [go_sem, sEv, sLook, nbeq, i64_w, -List.getD_eq_getElem?_getD, putCells, e0_, f0_, Try.underlying22]) ?_
  intro w116 hk117 hk118
  have hs_w116 := hk117.size
  refine rw_end ?_
  refine w_weaken (G' := [(0, .pointer (some ⟨g, 0, none⟩)), (2, .pointer (some ⟨g2, 0, none⟩)), (3, .pointer (some ⟨g20, 0, none⟩)), (17, .int .i64 ((k68 : Nat) : Int)), (18, .int .i64 ((j : Nat) : Int))]) ⟨rfl, rfl, rfl, rfl, rfl, trivial⟩ ?_
  refine w_blk ?_
  refine w_region ?_
  refine rz (.int .i64 ((j + 1 : Nat) : Int)) (by simp [go_sem, sEv, sLook, nbeq, i64_w, -List.getD_eq_getElem?_getD]; exact wrap_id (by omega) (by omega)) ?_
  refine rv (.int .i64 ((j + 1 : Nat) : Int)) ?_
  refine rw_end ?_
  exact w_back (m_ - 1) [(0, .pointer (some ⟨g, 0, none⟩)), (2, .pointer (some ⟨g2, 0, none⟩)), (3, .pointer (some ⟨g20, 0, none⟩)), (17, .int .i64 ((k68 : Nat) : Int)), (18, .int .i64 ((j + 1 : Nat) : Int))] (by omega) ⟨rfl, rfl, rfl, rfl, rfl, trivial⟩ ⟨(j + 1), (l1 ++ [x90]), s91, A108, c109, A98, c99, by omega, (hk117.below (by omega) hB106), (hb110.keep hk117 (by omega)), hk118, (hk114.keep hk117 (by omega)), (OwnK.mono (d := (Kd.int .i64)) (own_keep (d := (Kd.int .i64)) hO107 hk113 (by decide) hk117) (by omega)), ⟨(RRow.keep hr111 hk113 (by decide) hk117), hl112⟩, (by omega), (numsR_step hX0_0 hx89), (by simp only [List.length_append, List.length_cons, List.length_nil]; omega), rfl⟩
 ·
  have l120 : ¬ (((j : Nat) : Int) < ((k68 : Nat) : Int)) := of_decide_eq_false c87
  refine w_exit rfl ?_
  refine w_seq ?_
  refine w_seq ?_
  refine w_region ?_
  refine rv (.pointer (some ⟨g, 0, none⟩)) ?_
  rcases hx123 : countR 16 sj with ⟨x124, s125⟩
  obtain ⟨k127, hm128, rfl, hl126⟩ := count_nat hx123 (by decide)
  refine rw_call rfl rfl rfl rfl (f := 59) (args := #[.pointer (some ⟨g, 0, none⟩), .int .i64 16]) (by simp [go_sem, sEv, sLook, nbeq, i64_w, -List.getD_eq_getElem?_getD]) (count_k w_L76 g w1.heap.size sj 16 _ s125 hx123 ⟨Ar, cr, hf78, hrr_w_L76, hlo_w_L76⟩ (by omega)) ?_
  rintro e_ w121 ⟨rfl, ⟨A129, c130, hb131, hr132, hl133⟩, hk122⟩
  refine ⟨_, rfl, ?_⟩
  have hs_w121 := hk122.size
  refine rv (.int .i64 0) ?_
  refine rw_end ?_
  refine w_block ?_
  have hE0_ : numsR k68 s66 = (l1, sj) := by rw [← (by omega : j = k68)]; exact hX0_0
  refine w_loop (fun m_ G W_ => ∃ (j2 : Nat) (l2 : List OpL) (sk : RS) (Ar2 : Option Addr) (cr2 : Nat) (Ap : Option Addr) (cp : Nat), j2 + m_ = k127 ∧ Below w.heap.size w W_ ∧ (Blk W_ g 90 #[.slice Ar2 sk.xs.length cr2, .bool sk.bad]) ∧ (Blk W_ g20 26 #[.int .i64 x11, .int .i64 x33, .int .i64 x49, .slice Aq l1.length cq, .slice Ap l2.length cp, .slice none 0 0]) ∧ (Blk W_ g2 26 #[.int .i64 0, .int .i64 0, .int .i64 0, .slice none 0 0, .slice none 0 0, .slice none 0 0]) ∧ (OwnK (Kd.int .i64) 3 W_ w.heap.size w1.heap.size Aq l1.length cq l1) ∧ (OwnK kOp 73 W_ w.heap.size w1.heap.size Ap l2.length cp l2) ∧ (RRow W_ Ar2 sk.xs.length cr2 sk.xs ∧ Low w1.heap.size Ar2) ∧ (sk.xs.length ≤ 100000) ∧ (opsR j2 s125 = (l2, sk)) ∧ (l2.length = j2) ∧ G = [(0, .pointer (some ⟨g, 0, none⟩)), (2, .pointer (some ⟨g2, 0, none⟩)), (3, .pointer (some ⟨g20, 0, none⟩)), (29, .int .i64 ((k127 : Nat) : Int)), (30, .int .i64 ((j2 : Nat) : Int))]) k127 [(0, .pointer (some ⟨g, 0, none⟩)), (2, .pointer (some ⟨g2, 0, none⟩)), (3, .pointer (some ⟨g20, 0, none⟩)), (29, .int .i64 ((k127 : Nat) : Int)), (30, .int .i64 0)] ⟨0, [], s125, A129, c130, none, 0, by omega, (hk122.below (by omega) hB_L76), hb131, (hf79.keep hk122 (by omega)), (hf80.keep hk122 (by omega)), (OwnK.mono (d := (Kd.int .i64)) (own_keep (d := (Kd.int .i64)) hf81 hf78 (by decide) hk122) (by omega)), (OwnK.nil _ _ _ _ _), ⟨hr132, hl133⟩, (by omega), rfl, rfl, rfl⟩ ⟨rfl, rfl, rfl, rfl, rfl, trivial⟩ ?_
  rintro m2_ G w_L135 ⟨j2, l2, sk, Ar2, cr2, Ap, cp, hp136, hB_L135, hf137, hf138, hf139, hf140, hf141, hf142, hf143, hf144, hf145, rfl⟩
  have hs_w_L135 := hB_L135.size
  obtain ⟨hrr_w_L135, hlo_w_L135⟩ := hf142
  have hlt_g20_w_L135 := hf138.lt
  have hlt_g2_w_L135 := hf139.lt
  have hX1_0 := hf144
  have hX1_1 := hf145
  refine w_seq ?_
  refine w_region ?_
  refine rz (.bool (decide (((j2 : Nat) : Int) < ((k127 : Nat) : Int)))) (by simp [go_sem, sEv, sLook, nbeq, i64_w, -List.getD_eq_getElem?_getD]) ?_
  refine rw_end ?_
  refine w_seq ?_
  refine w_cond rfl rfl (fun c147 => ?_) (fun c147 => ?_)
  ·
   have l148 : (((j2 : Nat) : Int) < ((k127 : Nat) : Int)) := of_decide_eq_true c147
   refine w_skip ?_
   refine w_seq ?_
   refine w_block ?_
   refine w_seq ?_
   refine w_region ?_
   refine rw_new (cs := #[.int .i64 0, .int .i64 0, .int .i64 0, .int .i64 0, .int .i64 0]) (t := 115) (fun g => .pointer (some ⟨g, 0, none⟩)) rfl rfl rfl rfl (by kernel_rfl) ?_
   intro g149 w150 hg154 hz153 hb151 hk152
   have hs_w150 := hb151.size
   refine rw_end ?_
   refine w_seq ?_
   refine w_seq ?_
   refine w_region ?_
   refine rv (.int .i64 0) ?_
   refine rw_end ?_
   refine w_block ?_
   refine w_loop (fun m_ G W_ => ∃ (i fa fb fc fd fe : Int) (si : RS) (Ai : Option Addr) (ci : Nat), (m_ : Int) + i = 5 ∧ 0 ≤ i ∧ Below w.heap.size w W_ ∧ Blk W_ g 90 #[.slice Ai si.xs.length ci, .bool si.bad] ∧ RRow W_ Ai si.xs.length ci si.xs ∧ Low w1.heap.size Ai ∧ si.xs.length ≤ 100000 ∧ Blk W_ g20 26 #[.int .i64 x11, .int .i64 x33, .int .i64 x49, .slice Aq l1.length cq, .slice Ap l2.length cp, .slice none 0 0] ∧ Blk W_ g2 26 #[.int .i64 0, .int .i64 0, .int .i64 0, .slice none 0 0, .slice none 0 0, .slice none 0 0] ∧ Blk W_ g149 115 #[.int .i64 fa, .int .i64 fb, .int .i64 fc, .int .i64 fd, .int .i64 fe] ∧ OwnK (Kd.int .i64) 3 W_ w.heap.size w1.heap.size Aq l1.length cq l1 ∧ OwnK kOp 73 W_ w.heap.size w1.heap.size Ap l2.length cp l2 ∧ OF i.toNat sk fa fb fc fd fe si ∧ G = [(0, .pointer (some ⟨g, 0, none⟩)), (2, .pointer (some ⟨g2, 0, none⟩)), (3, .pointer (some ⟨g20, 0, none⟩)), (4, .pointer (some ⟨g149, 0, none⟩)), (29, .int .i64 ((k127 : Nat) : Int)), (30, .int .i64 ((j2 : Nat) : Int)), (32, .int .i64 i)]) 5 [(0, .pointer (some ⟨g, 0, none⟩)), (2, .pointer (some ⟨g2, 0, none⟩)), (3, .pointer (some ⟨g20, 0, none⟩)), (4, .pointer (some ⟨g149, 0, none⟩)), (29, .int .i64 ((k127 : Nat) : Int)), (30, .int .i64 ((j2 : Nat) : Int)), (32, .int .i64 0)] ⟨0, 0, 0, 0, 0, 0, sk, Ar2, cr2, by omega, by omega, (chain hB_L135 hb151), (hf137.on hb151), (RRow.on hrr_w_L135 hb151), hlo_w_L135, by omega, (hf138.on hb151), (hf139.on hb151), hk152, (OwnK.on (d := (Kd.int .i64)) hf140 hb151), (OwnK.on (d := kOp) hf141 hb151), (of_0 _), rfl⟩ ⟨rfl, rfl, rfl, rfl, rfl, rfl, rfl, trivial⟩ ?_
   rintro m3_ G w_i ⟨i, fa, fb, fc, fd, fe, si, Ai, ci, hmi_, hi0_, hB_i, hbg_i, hrr_i, hlo_i, hls_i, hb3_i, hb2_i, hb4_i, hO1_i, hO2_i, hOF_, rfl⟩
   have hs_w_i := hB_i.size
   have hlt3_i := hb3_i.lt
   have hlt2_i := hb2_i.lt
   have hlt4_i := hb4_i.lt
   rcases (by omega : i = 0 ∨ i = 1 ∨ i = 2 ∨ i = 3 ∨ i = 4 ∨ i = 5) with rfl | rfl | rfl | rfl | rfl | rfl
   ·
    refine w_seq ?_
    refine w_region ?_
    refine rz (.bool true) (by simp [go_sem, sEv, sLook, nbeq, i64_w, -List.getD_eq_getElem?_getD]) ?_
    refine rw_end ?_
    refine w_seq ?_
    refine w_cond_t rfl rfl rfl ?_
    refine w_skip ?_
    refine w_seq ?_
    refine w_block ?_
    refine w_seq ?_
    refine w_region ?_
    refine rv (.int .i64 0) ?_
    refine rv (.int .i64 0) ?_
    refine rw_end ?_
    refine w_region ?_
    refine rv (.int .i64 0) ?_
    refine rv (.pointer (some ⟨g, 0, none⟩)) ?_
    rcases hx158 : nextR si with ⟨x159, s160⟩
    have hl161 := next_le hx158
    refine rw_call rfl rfl rfl rfl (f := 58) (args := #[.pointer (some ⟨g, 0, none⟩)]) (by simp [go_sem, sEv, sLook, nbeq, i64_w, -List.getD_eq_getElem?_getD]) (next_k w_i g w1.heap.size si x159 s160 hx158 ⟨Ai, ci, hbg_i, hrr_i, hlo_i⟩ (by omega)) ?_
    rintro e_ w156 ⟨rfl, ⟨A162, c163, hb164, hr165, hl166⟩, hk157⟩
    refine ⟨_, rfl, ?_⟩
    have hs_w156 := hk157.size
    refine rz (.pointer (some ⟨g149, 0, none⟩)) (by first | kernel_rfl | simp [go_sem, sEv, sLook, nbeq, i64_w, -List.getD_eq_getElem?_getD, Try.underlying115]) ?_
    have hb171 := (hb4_i.keep hk157 (by omega))
    refine rw_store (g := g149) (i := 0) (l := [.int .i64 x159]) (cs' := #[.int .i64 x159, .int .i64 fb, .int .i64 fc, .int .i64 fd, .int .i64 fe]) rfl rfl rfl hb171 rfl (by have e0_ := hb171.cellv (i := 0) (v := (.int .i64 fa : Value)) rfl; have f0_ := hb171.frozen 0; simp [go_sem, sEv, sLook, nbeq, i64_w, -List.getD_eq_getElem?_getD, putCells, e0_, f0_]) ?_
    intro w168 hk169 hk170
    have hs_w168 := hk169.size
    refine rw_end ?_
    refine w_weaken (G' := [(0, .pointer (some ⟨g, 0, none⟩)), (2, .pointer (some ⟨g2, 0, none⟩)), (3, .pointer (some ⟨g20, 0, none⟩)), (4, .pointer (some ⟨g149, 0, none⟩)), (29, .int .i64 ((k127 : Nat) : Int)), (30, .int .i64 ((j2 : Nat) : Int)), (32, .int .i64 0)]) ⟨rfl, rfl, rfl, rfl, rfl, rfl, rfl, trivial⟩ ?_
    refine w_blk ?_
    refine w_region ?_
    refine rz (.int .i64 1) (by kernel_rfl) ?_
    refine rv (.int .i64 1) ?_
    refine rw_end ?_
    exact w_back (m3_ - 1) [(0, .pointer (some ⟨g, 0, none⟩)), (2, .pointer (some ⟨g2, 0, none⟩)), (3, .pointer (some ⟨g20, 0, none⟩)), (4, .pointer (some ⟨g149, 0, none⟩)), (29, .int .i64 ((k127 : Nat) : Int)), (30, .int .i64 ((j2 : Nat) : Int)), (32, .int .i64 1)] (by omega) ⟨rfl, rfl, rfl, rfl, rfl, rfl, rfl, trivial⟩ ⟨1, x159, fb, fc, fd, fe, s160, A162, c163, by omega, by omega, (hk169.below (by omega) (hk157.below (by omega) hB_i)), (hb164.keep hk169 (by omega)), (RRow.keep hr165 (hb4_i.keep hk157 (by omega)) (by decide) hk169), hl166, by omega, ((hb3_i.keep hk157 (by omega)).keep hk169 (by omega)), ((hb2_i.keep hk157 (by omega)).keep hk169 (by omega)), hk170, (own_keep (d := (Kd.int .i64)) (own_keep (d := (Kd.int .i64)) hO1_i hbg_i (by decide) hk157) (hb4_i.keep hk157 (by omega)) (by decide) hk169), (own_keep (d := kOp) (own_keep (d := kOp) hO2_i hbg_i (by decide) hk157) (hb4_i.keep hk157 (by omega)) (by decide) hk169), (of_1 hOF_ hx158), rfl⟩
   ·
    refine w_seq ?_
    refine w_region ?_
    refine rz (.bool true) (by simp [go_sem, sEv, sLook, nbeq, i64_w, -List.getD_eq_getElem?_getD]) ?_
    refine rw_end ?_
    refine w_seq ?_
    refine w_cond_t rfl rfl rfl ?_
    refine w_skip ?_
    refine w_seq ?_
    refine w_block ?_
    refine w_seq ?_
    refine w_region ?_
    refine rv (.int .i64 1) ?_
    refine rv (.int .i64 1) ?_
    refine rw_end ?_
    refine w_region ?_
    refine rv (.int .i64 1) ?_
    refine rv (.pointer (some ⟨g, 0, none⟩)) ?_
    rcases hx175 : nextR si with ⟨x176, s177⟩
    have hl178 := next_le hx175
    refine rw_call rfl rfl rfl rfl (f := 58) (args := #[.pointer (some ⟨g, 0, none⟩)]) (by simp [go_sem, sEv, sLook, nbeq, i64_w, -List.getD_eq_getElem?_getD]) (next_k w_i g w1.heap.size si x176 s177 hx175 ⟨Ai, ci, hbg_i, hrr_i, hlo_i⟩ (by omega)) ?_
    rintro e_ w173 ⟨rfl, ⟨A179, c180, hb181, hr182, hl183⟩, hk174⟩
    refine ⟨_, rfl, ?_⟩
    have hs_w173 := hk174.size
    refine rz (.pointer (some ⟨g149, 1, none⟩)) (by first | kernel_rfl | simp [go_sem, sEv, sLook, nbeq, i64_w, -List.getD_eq_getElem?_getD, Try.underlying115]) ?_
    have hb188 := (hb4_i.keep hk174 (by omega))
    refine rw_store (g := g149) (i := 1) (l := [.int .i64 x176]) (cs' := #[.int .i64 fa, .int .i64 x176, .int .i64 fc, .int .i64 fd, .int .i64 fe]) rfl rfl rfl hb188 rfl (by have e0_ := hb188.cellv (i := 1) (v := (.int .i64 fb : Value)) rfl; have f0_ := hb188.frozen 1; simp [go_sem, sEv, sLook, nbeq, i64_w, -List.getD_eq_getElem?_getD, putCells, e0_, f0_]) ?_
    intro w185 hk186 hk187
    have hs_w185 := hk186.size
    refine rw_end ?_
    refine w_weaken (G' := [(0, .pointer (some ⟨g, 0, none⟩)), (2, .pointer (some ⟨g2, 0, none⟩)), (3, .pointer (some ⟨g20, 0, none⟩)), (4, .pointer (some ⟨g149, 0, none⟩)), (29, .int .i64 ((k127 : Nat) : Int)), (30, .int .i64 ((j2 : Nat) : Int)), (32, .int .i64 1)]) ⟨rfl, rfl, rfl, rfl, rfl, rfl, rfl, trivial⟩ ?_
    refine w_blk ?_
    refine w_region ?_
    refine rz (.int .i64 2) (by kernel_rfl) ?_
    refine rv (.int .i64 2) ?_
    refine rw_end ?_
    exact w_back (m3_ - 1) [(0, .pointer (some ⟨g, 0, none⟩)), (2, .pointer (some ⟨g2, 0, none⟩)), (3, .pointer (some ⟨g20, 0, none⟩)), (4, .pointer (some ⟨g149, 0, none⟩)), (29, .int .i64 ((k127 : Nat) : Int)), (30, .int .i64 ((j2 : Nat) : Int)), (32, .int .i64 2)] (by omega) ⟨rfl, rfl, rfl, rfl, rfl, rfl, rfl, trivial⟩ ⟨2, fa, x176, fc, fd, fe, s177, A179, c180, by omega, by omega, (hk186.below (by omega) (hk174.below (by omega) hB_i)), (hb181.keep hk186 (by omega)), (RRow.keep hr182 (hb4_i.keep hk174 (by omega)) (by decide) hk186), hl183, by omega, ((hb3_i.keep hk174 (by omega)).keep hk186 (by omega)), ((hb2_i.keep hk174 (by omega)).keep hk186 (by omega)), hk187, (own_keep (d := (Kd.int .i64)) (own_keep (d := (Kd.int .i64)) hO1_i hbg_i (by decide) hk174) (hb4_i.keep hk174 (by omega)) (by decide) hk186), (own_keep (d := kOp) (own_keep (d := kOp) hO2_i hbg_i (by decide) hk174) (hb4_i.keep hk174 (by omega)) (by decide) hk186), (of_2 hOF_ hx175), rfl⟩
   ·
    refine w_seq ?_
    refine w_region ?_
    refine rz (.bool true) (by simp [go_sem, sEv, sLook, nbeq, i64_w, -List.getD_eq_getElem?_getD]) ?_
    refine rw_end ?_
    refine w_seq ?_
    refine w_cond_t rfl rfl rfl ?_
    refine w_skip ?_
    refine w_seq ?_
    refine w_block ?_
    refine w_seq ?_
    refine w_region ?_
    refine rv (.int .i64 2) ?_
    refine rv (.int .i64 2) ?_
    refine rw_end ?_
    refine w_region ?_
    refine rv (.int .i64 2) ?_
    refine rv (.pointer (some ⟨g, 0, none⟩)) ?_
    rcases hx192 : nextR si with ⟨x193, s194⟩
    have hl195 := next_le hx192
    refine rw_call rfl rfl rfl rfl (f := 58) (args := #[.pointer (some ⟨g, 0, none⟩)]) (by simp [go_sem, sEv, sLook, nbeq, i64_w, -List.getD_eq_getElem?_getD]) (next_k w_i g w1.heap.size si x193 s194 hx192 ⟨Ai, ci, hbg_i, hrr_i, hlo_i⟩ (by omega)) ?_
    rintro e_ w190 ⟨rfl, ⟨A196, c197, hb198, hr199, hl200⟩, hk191⟩
    refine ⟨_, rfl, ?_⟩
    have hs_w190 := hk191.size
    refine rz (.pointer (some ⟨g149, 2, none⟩)) (by first | kernel_rfl | simp [go_sem, sEv, sLook, nbeq, i64_w, -List.getD_eq_getElem?_getD, Try.underlying115]) ?_
    have hb205 := (hb4_i.keep hk191 (by omega))
    refine rw_store (g := g149) (i := 2) (l := [.int .i64 x193]) (cs' := #[.int .i64 fa, .int .i64 fb, .int .i64 x193, .int .i64 fd, .int .i64 fe]) rfl rfl rfl hb205 rfl (by have e0_ := hb205.cellv (i := 2) (v := (.int .i64 fc : Value)) rfl; have f0_ := hb205.frozen 2; simp [go_sem, sEv, sLook, nbeq, i64_w, -List.getD_eq_getElem?_getD, putCells, e0_, f0_]) ?_
    intro w202 hk203 hk204
    have hs_w202 := hk203.size
    refine rw_end ?_
    refine w_weaken (G' := [(0, .pointer (some ⟨g, 0, none⟩)), (2, .pointer (some ⟨g2, 0, none⟩)), (3, .pointer (some ⟨g20, 0, none⟩)), (4, .pointer (some ⟨g149, 0, none⟩)), (29, .int .i64 ((k127 : Nat) : Int)), (30, .int .i64 ((j2 : Nat) : Int)), (32, .int .i64 2)]) ⟨rfl, rfl, rfl, rfl, rfl, rfl, rfl, trivial⟩ ?_
    refine w_blk ?_
    refine w_region ?_
    refine rz (.int .i64 3) (by kernel_rfl) ?_
    refine rv (.int .i64 3) ?_
    refine rw_end ?_
    exact w_back (m3_ - 1) [(0, .pointer (some ⟨g, 0, none⟩)), (2, .pointer (some ⟨g2, 0, none⟩)), (3, .pointer (some ⟨g20, 0, none⟩)), (4, .pointer (some ⟨g149, 0, none⟩)), (29, .int .i64 ((k127 : Nat) : Int)), (30, .int .i64 ((j2 : Nat) : Int)), (32, .int .i64 3)] (by omega) ⟨rfl, rfl, rfl, rfl, rfl, rfl, rfl, trivial⟩ ⟨3, fa, fb, x193, fd, fe, s194, A196, c197, by omega, by omega, (hk203.below (by omega) (hk191.below (by omega) hB_i)), (hb198.keep hk203 (by omega)), (RRow.keep hr199 (hb4_i.keep hk191 (by omega)) (by decide) hk203), hl200, by omega, ((hb3_i.keep hk191 (by omega)).keep hk203 (by omega)), ((hb2_i.keep hk191 (by omega)).keep hk203 (by omega)), hk204, (own_keep (d := (Kd.int .i64)) (own_keep (d := (Kd.int .i64)) hO1_i hbg_i (by decide) hk191) (hb4_i.keep hk191 (by omega)) (by decide) hk203), (own_keep (d := kOp) (own_keep (d := kOp) hO2_i hbg_i (by decide) hk191) (hb4_i.keep hk191 (by omega)) (by decide) hk203), (of_3 hOF_ hx192), rfl⟩
   ·
    refine w_seq ?_
    refine w_region ?_
    refine rz (.bool true) (by simp [go_sem, sEv, sLook, nbeq, i64_w, -List.getD_eq_getElem?_getD]) ?_
    refine rw_end ?_
    refine w_seq ?_
    refine w_cond_t rfl rfl rfl ?_
    refine w_skip ?_
    refine w_seq ?_
    refine w_block ?_
    refine w_seq ?_
    refine w_region ?_
    refine rv (.int .i64 3) ?_
    refine rv (.int .i64 3) ?_
    refine rw_end ?_
    refine w_region ?_
    refine rv (.int .i64 3) ?_
    refine rv (.pointer (some ⟨g, 0, none⟩)) ?_
    rcases hx209 : nextR si with ⟨x210, s211⟩
    have hl212 := next_le hx209
    refine rw_call rfl rfl rfl rfl (f := 58) (args := #[.pointer (some ⟨g, 0, none⟩)]) (by simp [go_sem, sEv, sLook, nbeq, i64_w, -List.getD_eq_getElem?_getD]) (next_k w_i g w1.heap.size si x210 s211 hx209 ⟨Ai, ci, hbg_i, hrr_i, hlo_i⟩ (by omega)) ?_
    rintro e_ w207 ⟨rfl, ⟨A213, c214, hb215, hr216, hl217⟩, hk208⟩
    refine ⟨_, rfl, ?_⟩
    have hs_w207 := hk208.size
    refine rz (.pointer (some ⟨g149, 3, none⟩)) (by first | kernel_rfl | simp [go_sem, sEv, sLook, nbeq, i64_w, -List.getD_eq_getElem?_getD, Try.underlying115]) ?_
    have hb222 := (hb4_i.keep hk208 (by omega))
    refine rw_store (g := g149) (i := 3) (l := [.int .i64 x210]) (cs' := #[.int .i64 fa, .int .i64 fb, .int .i64 fc, .int .i64 x210, .int .i64 fe]) rfl rfl rfl hb222 rfl (by have e0_ := hb222.cellv (i := 3) (v := (.int .i64 fd : Value)) rfl; have f0_ := hb222.frozen 3; simp [go_sem, sEv, sLook, nbeq, i64_w, -List.getD_eq_getElem?_getD, putCells, e0_, f0_]) ?_
    intro w219 hk220 hk221
    have hs_w219 := hk220.size
    refine rw_end ?_
    refine w_weaken (G' := [(0, .pointer (some ⟨g, 0, none⟩)), (2, .pointer (some ⟨g2, 0, none⟩)), (3, .pointer (some ⟨g20, 0, none⟩)), (4, .pointer (some ⟨g149, 0, none⟩)), (29, .int .i64 ((k127 : Nat) : Int)), (30, .int .i64 ((j2 : Nat) : Int)), (32, .int .i64 3)]) ⟨rfl, rfl, rfl, rfl, rfl, rfl, rfl, trivial⟩ ?_
    refine w_blk ?_
    refine w_region ?_
    refine rz (.int .i64 4) (by kernel_rfl) ?_
    refine rv (.int .i64 4) ?_
    refine rw_end ?_
    exact w_back (m3_ - 1) [(0, .pointer (some ⟨g, 0, none⟩)), (2, .pointer (some ⟨g2, 0, none⟩)), (3, .pointer (some ⟨g20, 0, none⟩)), (4, .pointer (some ⟨g149, 0, none⟩)), (29, .int .i64 ((k127 : Nat) : Int)), (30, .int .i64 ((j2 : Nat) : Int)), (32, .int .i64 4)] (by omega) ⟨rfl, rfl, rfl, rfl, rfl, rfl, rfl, trivial⟩ ⟨4, fa, fb, fc, x210, fe, s211, A213, c214, by omega, by omega, (hk220.below (by omega) (hk208.below (by omega) hB_i)), (hb215.keep hk220 (by omega)), (RRow.keep hr216 (hb4_i.keep hk208 (by omega)) (by decide) hk220), hl217, by omega, ((hb3_i.keep hk208 (by omega)).keep hk220 (by omega)), ((hb2_i.keep hk208 (by omega)).keep hk220 (by omega)), hk221, (own_keep (d := (Kd.int .i64)) (own_keep (d := (Kd.int .i64)) hO1_i hbg_i (by decide) hk208) (hb4_i.keep hk208 (by omega)) (by decide) hk220), (own_keep (d := kOp) (own_keep (d := kOp) hO2_i hbg_i (by decide) hk208) (hb4_i.keep hk208 (by omega)) (by decide) hk220), (of_4 hOF_ hx209), rfl⟩
   ·
    refine w_seq ?_
    refine w_region ?_
    refine rz (.bool true) (by simp [go_sem, sEv, sLook, nbeq, i64_w, -List.getD_eq_getElem?_getD]) ?_
    refine rw_end ?_
    refine w_seq ?_
    refine w_cond_t rfl rfl rfl ?_
    refine w_skip ?_
    refine w_seq ?_
    refine w_block ?_
    refine w_seq ?_
    refine w_region ?_
    refine rv (.int .i64 4) ?_
    refine rv (.int .i64 4) ?_
    refine rw_end ?_
    refine w_region ?_
    refine rv (.int .i64 4) ?_
    refine rv (.pointer (some ⟨g, 0, none⟩)) ?_
    rcases hx226 : nextR si with ⟨x227, s228⟩
    have hl229 := next_le hx226
    refine rw_call rfl rfl rfl rfl (f := 58) (args := #[.pointer (some ⟨g, 0, none⟩)]) (by simp [go_sem, sEv, sLook, nbeq, i64_w, -List.getD_eq_getElem?_getD]) (next_k w_i g w1.heap.size si x227 s228 hx226 ⟨Ai, ci, hbg_i, hrr_i, hlo_i⟩ (by omega)) ?_
    rintro e_ w224 ⟨rfl, ⟨A230, c231, hb232, hr233, hl234⟩, hk225⟩
    refine ⟨_, rfl, ?_⟩
    have hs_w224 := hk225.size
    refine rz (.pointer (some ⟨g149, 4, none⟩)) (by first | kernel_rfl | simp [go_sem, sEv, sLook, nbeq, i64_w, -List.getD_eq_getElem?_getD, Try.underlying115]) ?_
    have hb239 := (hb4_i.keep hk225 (by omega))
    refine rw_store (g := g149) (i := 4) (l := [.int .i64 x227]) (cs' := #[.int .i64 fa, .int .i64 fb, .int .i64 fc, .int .i64 fd, .int .i64 x227]) rfl rfl rfl hb239 rfl (by have e0_ := hb239.cellv (i := 4) (v := (.int .i64 fe : Value)) rfl; have f0_ := hb239.frozen 4; simp [go_sem, sEv, sLook, nbeq, i64_w, -List.getD_eq_getElem?_getD, putCells, e0_, f0_]) ?_
    intro w236 hk237 hk238
    have hs_w236 := hk237.size
    refine rw_end ?_
    refine w_weaken (G' := [(0, .pointer (some ⟨g, 0, none⟩)), (2, .pointer (some ⟨g2, 0, none⟩)), (3, .pointer (some ⟨g20, 0, none⟩)), (4, .pointer (some ⟨g149, 0, none⟩)), (29, .int .i64 ((k127 : Nat) : Int)), (30, .int .i64 ((j2 : Nat) : Int)), (32, .int .i64 4)]) ⟨rfl, rfl, rfl, rfl, rfl, rfl, rfl, trivial⟩ ?_
    refine w_blk ?_
    refine w_region ?_
    refine rz (.int .i64 5) (by kernel_rfl) ?_
    refine rv (.int .i64 5) ?_
    refine rw_end ?_
    exact w_back (m3_ - 1) [(0, .pointer (some ⟨g, 0, none⟩)), (2, .pointer (some ⟨g2, 0, none⟩)), (3, .pointer (some ⟨g20, 0, none⟩)), (4, .pointer (some ⟨g149, 0, none⟩)), (29, .int .i64 ((k127 : Nat) : Int)), (30, .int .i64 ((j2 : Nat) : Int)), (32, .int .i64 5)] (by omega) ⟨rfl, rfl, rfl, rfl, rfl, rfl, rfl, trivial⟩ ⟨5, fa, fb, fc, fd, x227, s228, A230, c231, by omega, by omega, (hk237.below (by omega) (hk225.below (by omega) hB_i)), (hb232.keep hk237 (by omega)), (RRow.keep hr233 (hb4_i.keep hk225 (by omega)) (by decide) hk237), hl234, by omega, ((hb3_i.keep hk225 (by omega)).keep hk237 (by omega)), ((hb2_i.keep hk225 (by omega)).keep hk237 (by omega)), hk238, (own_keep (d := (Kd.int .i64)) (own_keep (d := (Kd.int .i64)) hO1_i hbg_i (by decide) hk225) (hb4_i.keep hk225 (by omega)) (by decide) hk237), (own_keep (d := kOp) (own_keep (d := kOp) hO2_i hbg_i (by decide) hk225) (hb4_i.keep hk225 (by omega)) (by decide) hk237), (of_5 hOF_ hx226), rfl⟩
   ·
    refine w_seq ?_
    refine w_region ?_
    refine rz (.bool false) (by simp [go_sem, sEv, sLook, nbeq, i64_w, -List.getD_eq_getElem?_getD]) ?_
    refine rw_end ?_
    refine w_seq ?_
    refine w_cond_f rfl rfl rfl ?_
    refine w_exit rfl ?_
    refine w_region ?_
    refine rz (.pointer (some ⟨g20, 4, none⟩)) (by simp [go_sem, sEv, sLook, nbeq, i64_w, -List.getD_eq_getElem?_getD, Try.underlying26]) ?_
    refine rz (.slice Ap l2.length cp) (by have eb_ := hb3_i; have e0_ := eb_.cellv (i := 4) (v := (.slice Ap l2.length cp : Value)) rfl; simp [go_sem, sEv, sLook, nbeq, i64_w, -List.getD_eq_getElem?_getD, e0_, Try.underlying23]) ?_
    refine rz (.pointer (some ⟨g149, 0, none⟩)) (by first | kernel_rfl | simp [go_sem, sEv, sLook, nbeq, i64_w, -List.getD_eq_getElem?_getD, Try.underlying115]) ?_
    refine rz (.int .i64 fa) (by have eb_ := hb4_i; have e0_ := eb_.cellv (i := 0) (v := (.int .i64 fa : Value)) rfl; simp [go_sem, sEv, sLook, nbeq, i64_w, -List.getD_eq_getElem?_getD, e0_]) ?_
    refine rz (.pointer (some ⟨g149, 1, none⟩)) (by first | kernel_rfl | simp [go_sem, sEv, sLook, nbeq, i64_w, -List.getD_eq_getElem?_getD, Try.underlying115]) ?_
    refine rz (.int .i64 fb) (by have eb_ := hb4_i; have e0_ := eb_.cellv (i := 1) (v := (.int .i64 fb : Value)) rfl; simp [go_sem, sEv, sLook, nbeq, i64_w, -List.getD_eq_getElem?_getD, e0_]) ?_
    refine rz (.pointer (some ⟨g149, 2, none⟩)) (by first | kernel_rfl | simp [go_sem, sEv, sLook, nbeq, i64_w, -List.getD_eq_getElem?_getD, Try.underlying115]) ?_
    refine rz (.int .i64 fc) (by have eb_ := hb4_i; have e0_ := eb_.cellv (i := 2) (v := (.int .i64 fc : Value)) rfl; simp [go_sem, sEv, sLook, nbeq, i64_w, -List.getD_eq_getElem?_getD, e0_]) ?_
    refine rz (.pointer (some ⟨g149, 3, none⟩)) (by first | kernel_rfl | simp [go_sem, sEv, sLook, nbeq, i64_w, -List.getD_eq_getElem?_getD, Try.underlying115]) ?_
    refine rz (.int .i64 fd) (by have eb_ := hb4_i; have e0_ := eb_.cellv (i := 3) (v := (.int .i64 fd : Value)) rfl; simp [go_sem, sEv, sLook, nbeq, i64_w, -List.getD_eq_getElem?_getD, e0_]) ?_
    refine rz (.pointer (some ⟨g149, 4, none⟩)) (by first | kernel_rfl | simp [go_sem, sEv, sLook, nbeq, i64_w, -List.getD_eq_getElem?_getD, Try.underlying115]) ?_
    refine rz (.int .i64 fe) (by have eb_ := hb4_i; have e0_ := eb_.cellv (i := 4) (v := (.int .i64 fe : Value)) rfl; simp [go_sem, sEv, sLook, nbeq, i64_w, -List.getD_eq_getElem?_getD, e0_]) ?_
    refine rz (.agg #[.int .i64 fa, .int .i64 fb, .int .i64 fc, .int .i64 fd, .int .i64 fe]) (by kernel_rfl) ?_
    refine rw_new (cs := #[.int .i64 fa, .int .i64 fb, .int .i64 fc, .int .i64 fd, .int .i64 fe]) (t := 73) (fun g => .slice (some ⟨g, 0, none⟩) 1 1) rfl rfl rfl rfl (by kernel_rfl) ?_
    intro g241 w242 hg246 hz245 hb243 hk244
    have hs_w242 := hb243.size
    have hk244r : OwnK kOp 73 w242 w.heap.size g241 (some ⟨g241, 0, none⟩) 1 1 ([(fa, fb, fc, fd, fe)] : List OpL) := flat_own w.heap.size hk244 (by omega) rfl rfl (by simp) (by simp)
    have oA253 : OwnK kOp 73 w242 w.heap.size w1.heap.size Ap l2.length cp l2 := (OwnK.on (d := kOp) hO2_i hb243)
    refine rw_append_kd (d := kOp) w.heap.size rfl rfl rfl (.tmp 41) (.tmp 53) rfl rfl 23 73 (.agg #[.int .i64 0, .int .i64 0, .int .i64 0, .int .i64 0, .int .i64 0]) 40 rfl (by kernel_rfl) (by kernel_rfl) rfl (show 0 < 5 by decide) (by decide) (fun _ _ h => h) (b := w1.heap.size) rfl rfl (by omega) oA253 (OwnK.Cn (d := kOp) hk244r) (chain hB_i hb243) (by omega) (by first | omega | (simp only [List.length_append, List.length_nil, List.length_cons]; omega)) ?_
    intro A247 c248 w249 hO250 hB251 hG252
    have hs_w249 := hB251.size
    have hgs_w249 := hG252.size
    have hO255 := OwnK.grown (d := (Kd.int .i64)) (OwnK.on (d := (Kd.int .i64)) hO1_i hb243) oA253 (by decide) hG252
    have hk257 := OwnK.blk_grown (hbg_i.on hb243) oA253 (.inr (by decide)) hG252
    have hk258 := OwnK.blk_grown (hb3_i.on hb243) oA253 (.inr (by decide)) hG252
    have hk259 := OwnK.blk_grown (hb2_i.on hb243) oA253 (.inr (by decide)) hG252
    have hk260 := OwnK.blk_grown (hb4_i.on hb243) oA253 (.inr (by decide)) hG252
    have hr254 := RRow.own (RRow.on hrr_i hb243) oA253 (by decide) hG252
    refine rz (.pointer (some ⟨g20, 4, none⟩)) (by simp [go_sem, sEv, sLook, nbeq, i64_w, -List.getD_eq_getElem?_getD, Try.underlying26]) ?_
    have hb265 := hk258
    refine rw_store (g := g20) (i := 4) (l := [.slice A247 ((l2 ++ ([(fa, fb, fc, fd, fe)] : List OpL)).length) c248]) (cs' := #[.int .i64 x11, .int .i64 x33, .int .i64 x49, .slice Aq l1.length cq, .slice A247 ((l2 ++ ([(fa, fb, fc, fd, fe)] : List OpL)).length) c248, .slice none 0 0]) rfl rfl rfl hb265 rfl (by have e0_ := hb265.cellv (i := 4) (v := (.slice Ap l2.length cp : Value)) rfl; have f0_ := hb265.frozen 4; simp [go_sem, sEv, sLook, nbeq, i64_w, -List.getD_eq_getElem?_getD, putCells, e0_, f0_, Try.underlying23]) ?_
    intro w262 hk263 hk264
    have hs_w262 := hk263.size
    refine rw_end ?_
    refine w_weaken (G' := [(0, .pointer (some ⟨g, 0, none⟩)), (2, .pointer (some ⟨g2, 0, none⟩)), (3, .pointer (some ⟨g20, 0, none⟩)), (29, .int .i64 ((k127 : Nat) : Int)), (30, .int .i64 ((j2 : Nat) : Int))]) ⟨rfl, rfl, rfl, rfl, rfl, trivial⟩ ?_
    refine w_blk ?_
    refine w_region ?_
    refine rz (.int .i64 ((j2 + 1 : Nat) : Int)) (by simp [go_sem, sEv, sLook, nbeq, i64_w, -List.getD_eq_getElem?_getD]; exact wrap_id (by omega) (by omega)) ?_
    refine rv (.int .i64 ((j2 + 1 : Nat) : Int)) ?_
    refine rw_end ?_
    exact w_back (m2_ - 1) [(0, .pointer (some ⟨g, 0, none⟩)), (2, .pointer (some ⟨g2, 0, none⟩)), (3, .pointer (some ⟨g20, 0, none⟩)), (29, .int .i64 ((k127 : Nat) : Int)), (30, .int .i64 ((j2 + 1 : Nat) : Int))] (by omega) ⟨rfl, rfl, rfl, rfl, rfl, trivial⟩ ⟨(j2 + 1), (l2 ++ [(fa, fb, fc, fd, fe)]), si, Ai, ci, A247, c248, by omega, (hk263.below (by omega) hB251), (hk257.keep hk263 (by omega)), hk264, (hk259.keep hk263 (by omega)), (OwnK.mono (d := (Kd.int .i64)) (own_keep (d := (Kd.int .i64)) hO255 hk258 (by decide) hk263) (by omega)), (OwnK.mono (d := kOp) (own_keep (d := kOp) hO250 hk258 (by decide) hk263) (by omega)), ⟨(RRow.keep hr254 hk258 (by decide) hk263), hlo_i⟩, (by omega), (opsR_step hX1_0 hOF_), (by simp only [List.length_append, List.length_cons, List.length_nil]; omega), rfl⟩
  ·
   have l266 : ¬ (((j2 : Nat) : Int) < ((k127 : Nat) : Int)) := of_decide_eq_false c147
   refine w_exit rfl ?_
   refine w_seq ?_
   refine w_label ?_
   refine w_seq ?_
   refine w_seq ?_
   refine w_region ?_
   refine rv (.pointer (some ⟨g, 0, none⟩)) ?_
   rcases hx269 : countR 16 sk with ⟨x270, s271⟩
   obtain ⟨k273, hm274, rfl, hl272⟩ := count_nat hx269 (by decide)
   refine rw_call rfl rfl rfl rfl (f := 59) (args := #[.pointer (some ⟨g, 0, none⟩), .int .i64 16]) (by simp [go_sem, sEv, sLook, nbeq, i64_w, -List.getD_eq_getElem?_getD]) (count_k w_L135 g w1.heap.size sk 16 _ s271 hx269 ⟨Ar2, cr2, hf137, hrr_w_L135, hlo_w_L135⟩ (by omega)) ?_
   rintro e_ w267 ⟨rfl, ⟨A275, c276, hb277, hr278, hl279⟩, hk268⟩
   refine ⟨_, rfl, ?_⟩
   have hs_w267 := hk268.size
   refine rv (.int .i64 0) ?_
   refine rw_end ?_
   refine w_block ?_
   have hE1_ : opsR k127 s125 = (l2, sk) := by rw [← (by omega : j2 = k127)]; exact hX1_0
   refine w_loop (fun m_ G W_ => ∃ (j3 : Nat) (l3 : List EL) (sl : RS) (Ar3 : Option Addr) (cr3 : Nat) (Ao : Option Addr) (co : Nat) (Bq : Nat), j3 + m_ = k273 ∧ Below w.heap.size w W_ ∧ (Blk W_ g 90 #[.slice Ar3 sl.xs.length cr3, .bool sl.bad]) ∧ (Blk W_ g20 26 #[.int .i64 x11, .int .i64 x33, .int .i64 x49, .slice Aq l1.length cq, .slice Ap l2.length cp, .slice Ao l3.length co]) ∧ (Blk W_ g2 26 #[.int .i64 0, .int .i64 0, .int .i64 0, .slice none 0 0, .slice none 0 0, .slice none 0 0]) ∧ (OwnK (Kd.int .i64) 3 W_ w.heap.size w1.heap.size Aq l1.length cq l1) ∧ (OwnK kOp 73 W_ w.heap.size w1.heap.size Ap l2.length cp l2) ∧ (OwnK kEntry 83 W_ w.heap.size w1.heap.size Ao l3.length co l3) ∧ (RRow W_ Ar3 sl.xs.length cr3 sl.xs ∧ Low Bq Ar3) ∧ (sl.xs.length ≤ 100000) ∧ (entsR j3 s271 = (l3, sl)) ∧ (l3.length = j3) ∧ G = [(0, .pointer (some ⟨g, 0, none⟩)), (2, .pointer (some ⟨g2, 0, none⟩)), (3, .pointer (some ⟨g20, 0, none⟩)), (58, .int .i64 ((k273 : Nat) : Int)), (59, .int .i64 ((j3 : Nat) : Int))]) k273 [(0, .pointer (some ⟨g, 0, none⟩)), (2, .pointer (some ⟨g2, 0, none⟩)), (3, .pointer (some ⟨g20, 0, none⟩)), (58, .int .i64 ((k273 : Nat) : Int)), (59, .int .i64 0)] ⟨0, [], s271, A275, c276, none, 0, w1.heap.size, by omega, (hk268.below (by omega) hB_L135), hb277, (hf138.keep hk268 (by omega)), (hf139.keep hk268 (by omega)), (OwnK.mono (d := (Kd.int .i64)) (own_keep (d := (Kd.int .i64)) hf140 hf137 (by decide) hk268) (by omega)), (OwnK.mono (d := kOp) (own_keep (d := kOp) hf141 hf137 (by decide) hk268) (by omega)), (OwnK.nil _ _ _ _ _), ⟨hr278, hl279⟩, (by omega), rfl, rfl, rfl⟩ ⟨rfl, rfl, rfl, rfl, rfl, trivial⟩ ?_
   rintro m4_ G w_L281 ⟨j3, l3, sl, Ar3, cr3, Ao, co, Bq, hp282, hB_L281, hf283, hf284, hf285, hf286, hf287, hf288, hf289, hf290, hf291, hf292, rfl⟩
   have hs_w_L281 := hB_L281.size
   obtain ⟨hrr_w_L281, hlo_w_L281⟩ := hf289
   have hlt_g20_w_L281 := hf284.lt
   have hlt_g2_w_L281 := hf285.lt
   have hX3_0 := hf291
   have hX3_1 := hf292
   refine w_seq ?_
   refine w_region ?_
   refine rz (.bool (decide (((j3 : Nat) : Int) < ((k273 : Nat) : Int)))) (by simp [go_sem, sEv, sLook, nbeq, i64_w, -List.getD_eq_getElem?_getD]) ?_
   refine rw_end ?_
   refine w_seq ?_
   refine w_cond rfl rfl (fun c294 => ?_) (fun c294 => ?_)
   ·
    have l295 : (((j3 : Nat) : Int) < ((k273 : Nat) : Int)) := of_decide_eq_true c294
    refine w_skip ?_
    refine w_seq ?_
    refine w_block ?_
    refine w_seq ?_
    refine w_seq ?_
    refine w_region ?_
    refine rv (.pointer (some ⟨g, 0, none⟩)) ?_
    refine rz (.pointer (some ⟨g, 0, none⟩)) (by simp [go_sem, sEv, sLook, nbeq, i64_w, -List.getD_eq_getElem?_getD]) ?_
    refine rz (.pointer (some ⟨g, 1, none⟩)) (by simp [go_sem, sEv, sLook, nbeq, i64_w, -List.getD_eq_getElem?_getD, Try.underlying90]) ?_
    refine rz (.bool sl.bad) (by have eb_ := hf283; have e0_ := eb_.cellv (i := 1) (v := (.bool sl.bad : Value)) rfl; simp [go_sem, sEv, sLook, nbeq, i64_w, -List.getD_eq_getElem?_getD, e0_]) ?_
    refine rw_end ?_
    refine w_weaken (G' := [(0, .pointer (some ⟨g, 0, none⟩)), (2, .pointer (some ⟨g2, 0, none⟩)), (3, .pointer (some ⟨g20, 0, none⟩)), (58, .int .i64 ((k273 : Nat) : Int)), (59, .int .i64 ((j3 : Nat) : Int)), (64, .bool sl.bad)]) ⟨rfl, rfl, rfl, rfl, rfl, rfl, trivial⟩ ?_
    refine w_cond rfl rfl (fun cBad => ?_) (fun cBad => ?_)
    ·
     refine w_exit rfl ?_
     refine w_seq ?_
     refine w_region ?_
     refine rz (.agg #[.int .i64 x11, .int .i64 x33, .int .i64 x49, .slice Aq l1.length cq, .slice Ap l2.length cp, .slice Ao l3.length co]) (by have eb_ := hf284; have e0_ := eb_.cellv (i := 0) (v := (.int .i64 x11 : Value)) rfl; have e1_ := eb_.cellv (i := 1) (v := (.int .i64 x33 : Value)) rfl; have e2_ := eb_.cellv (i := 2) (v := (.int .i64 x49 : Value)) rfl; have e3_ := eb_.cellv (i := 3) (v := (.slice Aq l1.length cq : Value)) rfl; have e4_ := eb_.cellv (i := 4) (v := (.slice Ap l2.length cp : Value)) rfl; have e5_ := eb_.cellv (i := 5) (v := (.slice Ao l3.length co : Value)) rfl; simp [go_sem, sEv, sLook, nbeq, i64_w, -List.getD_eq_getElem?_getD, e0_, e1_, e2_, e3_, e4_, e5_, Try.underlying26]) ?_
     have hb299 := hf285
     refine rw_store (g := g2) (i := 0) (l := [.int .i64 x11, .int .i64 x33, .int .i64 x49, .slice Aq l1.length cq, .slice Ap l2.length cp, .slice Ao l3.length co]) (cs' := #[.int .i64 x11, .int .i64 x33, .int .i64 x49, .slice Aq l1.length cq, .slice Ap l2.length cp, .slice Ao l3.length co]) rfl rfl rfl hb299 rfl (by have e0_ := hb299.cellv (i := 0) (v := (.int .i64 0 : Value)) rfl; have f0_ := hb299.frozen 0; have e1_ := hb299.cellv (i := 1) (v := (.int .i64 0 : Value)) rfl; have f1_ := hb299.frozen 1; have e2_ := hb299.cellv (i := 2) (v := (.int .i64 0 : Value)) rfl; have f2_ := hb299.frozen 2; have e3_ := hb299.cellv (i := 3) (v := (.slice none 0 0 : Value)) rfl; have f3_ := hb299.frozen 3; have e4_ := hb299.cellv (i := 4) (v := (.slice none 0 0 : Value)) rfl; have f4_ := hb299.frozen 4; have e5_ := hb299.cellv (i := 5) (v := (.slice none 0 0 : Value)) rfl; have f5_ := hb299.frozen 5; simp [go_sem, sEv, sLook, nbeq, i64_w, -List.getD_eq_getElem?_getD, putCells, e0_, f0_, e1_, f1_, e2_, f2_, e3_, f3_, e4_, f4_, e5_, f5_, Try.underlying26]) ?_
     intro w296 hk297 hk298
     have hs_w296 := hk297.size
     refine rw_end ?_
     refine w_retG (post_retc (v := .agg #[.int .i64 x11, .int .i64 x33, .int .i64 x49, .slice Aq l1.length cq, .slice Ap l2.length cp, .slice Ao l3.length co]) rfl rfl (by have eb_ := hk298; have e0_ := eb_.cellv (i := 0) (v := (.int .i64 x11 : Value)) rfl; have e1_ := eb_.cellv (i := 1) (v := (.int .i64 x33 : Value)) rfl; have e2_ := eb_.cellv (i := 2) (v := (.int .i64 x49 : Value)) rfl; have e3_ := eb_.cellv (i := 3) (v := (.slice Aq l1.length cq : Value)) rfl; have e4_ := eb_.cellv (i := 4) (v := (.slice Ap l2.length cp : Value)) rfl; have e5_ := eb_.cellv (i := 5) (v := (.slice Ao l3.length co : Value)) rfl; simp [go_sem, e0_, e1_, e2_, e3_, e4_, e5_, Try.underlying26]) ?_)
     have hE2_ : entsR k273 s271 = (l3, sl) := entsR_bad hX3_0 (by simpa using cBad) _ (by omega)
     rw [note_eq hx10 hx32 hx48 hx64 hE0_ hx123 hE1_ hx269 hE2_]
     exact ⟨_, _, _, _, _, _, rfl, (OwnK.mono (d := (Kd.int .i64)) (own_keep (d := (Kd.int .i64)) hf286 hf285 (by decide) hk297) (by omega)), (OwnK.mono (d := kOp) (own_keep (d := kOp) hf287 hf285 (by decide) hk297) (by omega)), (OwnK.mono (d := kEntry) (own_keep (d := kEntry) hf288 hf285 (by decide) hk297) (by omega)), ⟨_, _, (hf283.keep hk297 (by omega)), (RRow.keep hrr_w_L281 hf285 (by decide) hk297)⟩, (hk297.below (by omega) hB_L281)⟩
    ·
     refine w_skip ?_
     refine w_seq ?_
     refine w_region ?_
     refine rv (.pointer (some ⟨g, 0, none⟩)) ?_
     rcases hx302 : nextR sl with ⟨x303, s304⟩
     have hl305 := next_le hx302
     refine rw_call rfl rfl rfl rfl (f := 58) (args := #[.pointer (some ⟨g, 0, none⟩)]) (by simp [go_sem, sEv, sLook, nbeq, i64_w, -List.getD_eq_getElem?_getD]) (next_k w_L281 g Bq sl x303 s304 hx302 ⟨Ar3, cr3, hf283, hrr_w_L281, hlo_w_L281⟩ (by omega)) ?_
     rintro e_ w300 ⟨rfl, ⟨A306, c307, hb308, hr309, hl310⟩, hk301⟩
     refine ⟨_, rfl, ?_⟩
     have hs_w300 := hk301.size
     refine rz (.agg #[.int .i64 x303, .int .i64 0]) (by kernel_rfl) ?_
     refine rz (.agg (earr (⟨x303, 0, CL.unit⟩ : EL))) (by kernel_rfl) ?_
     refine rw_new (cs := earr EL.zero) (t := 83) (fun g => .pointer (some ⟨g, 0, none⟩)) rfl rfl rfl rfl (by kernel_rfl) ?_
     intro g312 w313 hg317 hz316 hb314 hk315
     have hs_w313 := hb314.size
     refine rw_seg (g := g312) (off := 0) (ty := 83) (p := .tmp 6) (x := .tmp 68) (v := .agg (earr (⟨x303, 0, CL.unit⟩ : EL))) (cs' := earr (⟨x303, 0, CL.unit⟩ : EL)) rfl rfl rfl rfl rfl rfl hk315 (by show (sizeOf 83).run _ _ = .ok (earr _).size _; rw [earr_size]; kernel_rfl) (Nat.le_of_eq (by rw [Nat.zero_add]; exact (earr_size _).trans (earr_size _).symm)) (encE_one _) (seg_eall EL.zero (⟨x303, 0, CL.unit⟩ : EL)) ?_
     intro w318 hk319 hb320
     have hs_w318 := hk319.size
     refine rw_end ?_
     refine w_weaken (G' := [(0, .pointer (some ⟨g, 0, none⟩)), (2, .pointer (some ⟨g2, 0, none⟩)), (3, .pointer (some ⟨g20, 0, none⟩)), (6, .pointer (some ⟨g312, 0, none⟩)), (58, .int .i64 ((k273 : Nat) : Int)), (59, .int .i64 ((j3 : Nat) : Int))]) ⟨rfl, rfl, rfl, rfl, rfl, rfl, trivial⟩ ?_
     refine w_seq ?_
     refine w_region ?_
     refine rv (.pointer (some ⟨g, 0, none⟩)) ?_
     rcases hx323 : nextR s304 with ⟨x324, s325⟩
     have hl326 := next_le hx323
     refine rw_call rfl rfl rfl rfl (f := 58) (args := #[.pointer (some ⟨g, 0, none⟩)]) (by simp [go_sem, sEv, sLook, nbeq, i64_w, -List.getD_eq_getElem?_getD]) (next_k w318 g Bq s304 x324 s325 hx323 ⟨A306, c307, ((hb308.on hb314).keep hk319 (by omega)), (RRow.keep (RRow.on hr309 hb314) hk315 (by decide) hk319), hl310⟩ (by omega)) ?_
     rintro e_ w321 ⟨rfl, ⟨A327, c328, hb329, hr330, hl331⟩, hk322⟩
     refine ⟨_, rfl, ?_⟩
     have hs_w321 := hk322.size
     refine rz (.pointer (some ⟨g312, 0, none⟩)) (by simp [go_sem, sEv, sLook, nbeq, i64_w, -List.getD_eq_getElem?_getD, Try.underlying83]) ?_
     refine rz (.pointer (some ⟨g312, 1, none⟩)) (by simp [go_sem, sEv, sLook, nbeq, i64_w, -List.getD_eq_getElem?_getD, Try.underlying55]) ?_
     refine rw_seg (g := g312) (off := 1) (ty := 3) (p := .tmp 72) (x := .tmp 70) (v := .int .i64 x324) (cs' := earr (⟨x303, x324, CL.unit⟩ : EL)) rfl rfl rfl rfl rfl rfl (hb320.keep hk322 (by omega)) (by kernel_rfl) (by rw [earr_size]; show 1 + 1 ≤ 76; decide) (by intro q hq; simp only [List.mem_cons, List.not_mem_nil, or_false, Value.cells] at hq; subst hq; rfl) (seg_ekey (⟨x303, 0, CL.unit⟩ : EL) x324) ?_
     intro w333 hk334 hb335
     have hs_w333 := hk334.size
     refine rw_end ?_
     refine w_weaken (G' := [(0, .pointer (some ⟨g, 0, none⟩)), (2, .pointer (some ⟨g2, 0, none⟩)), (3, .pointer (some ⟨g20, 0, none⟩)), (6, .pointer (some ⟨g312, 0, none⟩)), (58, .int .i64 ((k273 : Nat) : Int)), (59, .int .i64 ((j3 : Nat) : Int))]) ⟨rfl, rfl, rfl, rfl, rfl, rfl, trivial⟩ ?_
     refine w_seq ?_
     refine w_region ?_
     refine rv (.pointer (some ⟨g, 0, none⟩)) ?_
     rcases hx338 : cellR s325 with ⟨cc339, s340⟩
     have hl341 := cell_le hx338
     refine rw_call rfl rfl rfl rfl (f := 60) (args := #[.pointer (some ⟨g, 0, none⟩)]) (by simp [go_sem, sEv, sLook, nbeq, i64_w, -List.getD_eq_getElem?_getD]) (cell_k w333 g s325 cc339 s340 hx338 (RDB.rd (B := Bq) ⟨A327, c328, (hb329.keep hk334 (by omega)), (RRow.keep hr330 (hb320.keep hk322 (by omega)) (by decide) hk334), hl331⟩) (by omega)) ?_
     rintro e_ w336 ⟨rfl, hrd343, hk337⟩
     refine ⟨_, rfl, ?_⟩
     obtain ⟨B342, A344, c345, hb346, hr347, hl348⟩ := hrd343.b
     have hB349 : Below w.heap.size w w336 := kg_below (hk334.below (by omega) (hk322.below (by omega) (hk319.below (by omega) (chain (hk301.below (by omega) hB_L281) hb314)))) hg0 hk337
     have hs_w336 := hB349.size
     have hgs_w336 := hk337.size
     have hb350 := (hb329.keep hk334 (by omega))
     have hk351 := blk_kg (((((hf284.keep hk301 (by omega)).on hb314).keep hk319 (by omega)).keep hk322 (by omega)).keep hk334 (by omega)) hk337 (by omega)
     have hk352 := blk_kg (((((hf285.keep hk301 (by omega)).on hb314).keep hk319 (by omega)).keep hk322 (by omega)).keep hk334 (by omega)) hk337 (by omega)
     have hk353 := blk_kg hb335 hk337 (by omega)
     have hO354 := own_kg (d := (Kd.int .i64)) (own_keep (d := (Kd.int .i64)) (own_keep (d := (Kd.int .i64)) (own_keep (d := (Kd.int .i64)) (OwnK.on (d := (Kd.int .i64)) (own_keep (d := (Kd.int .i64)) hf286 hf283 (by decide) hk301) hb314) hk315 (by decide) hk319) ((hb308.on hb314).keep hk319 (by omega)) (by decide) hk322) (hb320.keep hk322 (by omega)) (by decide) hk334) hb350 (by decide) hk337
     have hO355 := own_kg (d := kOp) (own_keep (d := kOp) (own_keep (d := kOp) (own_keep (d := kOp) (OwnK.on (d := kOp) (own_keep (d := kOp) hf287 hf283 (by decide) hk301) hb314) hk315 (by decide) hk319) ((hb308.on hb314).keep hk319 (by omega)) (by decide) hk322) (hb320.keep hk322 (by omega)) (by decide) hk334) hb350 (by decide) hk337
     refine rz (.pointer (some ⟨g312, 2, none⟩)) (by simp [go_sem, sEv, sLook, nbeq, i64_w, -List.getD_eq_getElem?_getD, Try.underlying83]) ?_
     refine rw_seg (g := g312) (off := 2) (ty := 81) (p := .tmp 75) (x := .tmp 74) (v := .agg (carr cc339)) (cs' := earr (⟨x303, x324, cc339⟩ : EL)) rfl rfl rfl rfl rfl rfl hk353 (by show (sizeOf 81).run _ _ = .ok (carr _).size _; rw [carr_size]; kernel_rfl) (by show 2 + (carr _).size ≤ _; rw [earr_size, carr_size]; decide) (encC_one _) (seg_ecell (⟨x303, x324, CL.unit⟩ : EL) cc339) ?_
     intro w357 hk358 hb359
     have hs_w357 := hk358.size
     refine rw_end ?_
     refine w_weaken (G' := [(0, .pointer (some ⟨g, 0, none⟩)), (2, .pointer (some ⟨g2, 0, none⟩)), (3, .pointer (some ⟨g20, 0, none⟩)), (6, .pointer (some ⟨g312, 0, none⟩)), (58, .int .i64 ((k273 : Nat) : Int)), (59, .int .i64 ((j3 : Nat) : Int))]) ⟨rfl, rfl, rfl, rfl, rfl, rfl, trivial⟩ ?_
     refine w_region ?_
     refine rz (.pointer (some ⟨g20, 5, none⟩)) (by simp [go_sem, sEv, sLook, nbeq, i64_w, -List.getD_eq_getElem?_getD, Try.underlying26]) ?_
     refine rz (.slice Ao l3.length co) (by have eb_ := (hk351.keep hk358 (by omega)); have e0_ := eb_.cellv (i := 5) (v := (.slice Ao l3.length co : Value)) rfl; simp [go_sem, sEv, sLook, nbeq, i64_w, -List.getD_eq_getElem?_getD, e0_, Try.underlying24]) ?_
     refine rz (.agg (earr (⟨x303, x324, cc339⟩ : EL))) (run_as (load_entry (x := (⟨x303, x324, cc339⟩ : EL)) hb359)) ?_
     refine rw_new (cs := (encE (⟨x303, x324, cc339⟩ : EL) : List Value).toArray) (t := 83) (fun g => .slice (some ⟨g, 0, none⟩) 1 1) rfl rfl rfl rfl (by kernel_rfl) ?_
     intro g360 w361 hg365 hz364 hb362 hk363
     have hs_w361 := hb362.size
     have hk363r : OwnK kEntry 83 w361 w.heap.size g360 (some ⟨g360, 0, none⟩) 1 1 ([(⟨x303, x324, cc339⟩ : EL)] : List EL) := flat_own (enc := encE) (hl1 := encE_len) (h1 := encE_one) (xs := ([(⟨x303, x324, cc339⟩ : EL)] : List EL)) (cap := 1) w.heap.size hk363 (by omega) (by simp) rfl (by simp) (by simp)
     have oA372 : OwnK kEntry 83 w361 w.heap.size w1.heap.size Ao l3.length co l3 := (own_kg (d := kEntry) hf288 hf283 (by decide) (kg_b (kg_s (kg_k (kg_s (kg_s (kg_s (kg_b (kg_s (kg_refl g w_L281) hk301 (.inl rfl)) hb314) hk319 (.inr (by omega))) hk322 (.inl rfl)) hk334 (.inr (by omega))) hk337) hk358 (.inr (by omega))) hb362))
     refine rw_append_kd (d := kEntry) w.heap.size rfl rfl rfl (.tmp 77) (.tmp 79) rfl rfl 24 83 (.agg (earr EL.zero)) 608 rfl (by kernel_rfl) (by kernel_rfl) rfl (show 0 < 76 by decide) (by decide) (fun _ _ h => h) (b := w1.heap.size) rfl rfl (by omega) oA372 (OwnK.Cn (d := kEntry) hk363r) (chain (hk358.below (by omega) hB349) hb362) (by omega) (by first | omega | (simp only [List.length_append, List.length_nil, List.length_cons]; omega)) ?_
     intro A366 c367 w368 hO369 hB370 hG371
     have hs_w368 := hB370.size
     have hgs_w368 := hG371.size
     have hO374 := OwnK.grown (d := (Kd.int .i64)) (OwnK.on (d := (Kd.int .i64)) (own_keep (d := (Kd.int .i64)) hO354 hk353 (by decide) hk358) hb362) oA372 (by decide) hG371
     have hO375 := OwnK.grown (d := kOp) (OwnK.on (d := kOp) (own_keep (d := kOp) hO355 hk353 (by decide) hk358) hb362) oA372 (by decide) hG371
     have hk377 := OwnK.blk_grown ((hk351.keep hk358 (by omega)).on hb362) oA372 (.inr (by decide)) hG371
     have hk378 := OwnK.blk_grown ((hk352.keep hk358 (by omega)).on hb362) oA372 (.inr (by decide)) hG371
     have hk379 := OwnK.blk_grown ((hb346.keep hk358 (by omega)).on hb362) oA372 (.inr (by decide)) hG371
     have hr373 := RRow.own (RRow.on (RRow.keep hr347 hk353 (by decide) hk358) hb362) oA372 (by decide) hG371
     refine rz (.pointer (some ⟨g20, 5, none⟩)) (by simp [go_sem, sEv, sLook, nbeq, i64_w, -List.getD_eq_getElem?_getD, Try.underlying26]) ?_
     have hb384 := hk377
     refine rw_store (g := g20) (i := 5) (l := [.slice A366 ((l3 ++ ([(⟨x303, x324, cc339⟩ : EL)] : List EL)).length) c367]) (cs' := #[.int .i64 x11, .int .i64 x33, .int .i64 x49, .slice Aq l1.length cq, .slice Ap l2.length cp, .slice A366 ((l3 ++ ([(⟨x303, x324, cc339⟩ : EL)] : List EL)).length) c367]) rfl rfl rfl hb384 rfl (by have e0_ := hb384.cellv (i := 5) (v := (.slice Ao l3.length co : Value)) rfl; have f0_ := hb384.frozen 5; simp [go_sem, sEv, sLook, nbeq, i64_w, -List.getD_eq_getElem?_getD, putCells, e0_, f0_, Try.underlying24]) ?_
     intro w381 hk382 hk383
     have hs_w381 := hk382.size
     refine rw_end ?_
     refine w_weaken (G' := [(0, .pointer (some ⟨g, 0, none⟩)), (2, .pointer (some ⟨g2, 0, none⟩)), (3, .pointer (some ⟨g20, 0, none⟩)), (58, .int .i64 ((k273 : Nat) : Int)), (59, .int .i64 ((j3 : Nat) : Int))]) ⟨rfl, rfl, rfl, rfl, rfl, trivial⟩ ?_
     refine w_blk ?_
     refine w_region ?_
     refine rz (.int .i64 ((j3 + 1 : Nat) : Int)) (by simp [go_sem, sEv, sLook, nbeq, i64_w, -List.getD_eq_getElem?_getD]; exact wrap_id (by omega) (by omega)) ?_
     refine rv (.int .i64 ((j3 + 1 : Nat) : Int)) ?_
     refine rw_end ?_
     exact w_back (m4_ - 1) [(0, .pointer (some ⟨g, 0, none⟩)), (2, .pointer (some ⟨g2, 0, none⟩)), (3, .pointer (some ⟨g20, 0, none⟩)), (58, .int .i64 ((k273 : Nat) : Int)), (59, .int .i64 ((j3 + 1 : Nat) : Int))] (by omega) ⟨rfl, rfl, rfl, rfl, rfl, trivial⟩ ⟨(j3 + 1), (l3 ++ [(⟨x303, x324, cc339⟩ : EL)]), s340, A344, c345, A366, c367, B342, by omega, (hk382.below (by omega) hB370), (hk379.keep hk382 (by omega)), hk383, (hk378.keep hk382 (by omega)), (OwnK.mono (d := (Kd.int .i64)) (own_keep (d := (Kd.int .i64)) hO374 hk377 (by decide) hk382) (by omega)), (OwnK.mono (d := kOp) (own_keep (d := kOp) hO375 hk377 (by decide) hk382) (by omega)), (OwnK.mono (d := kEntry) (own_keep (d := kEntry) hO369 hk377 (by decide) hk382) (by omega)), ⟨(RRow.keep hr373 hk377 (by decide) hk382), hl348⟩, (by omega), (entsR_step hX3_0 (by simpa using cBad) hx302 hx323 hx338), (by simp only [List.length_append, List.length_cons, List.length_nil]; omega), rfl⟩
   ·
    have l385 : ¬ (((j3 : Nat) : Int) < ((k273 : Nat) : Int)) := of_decide_eq_false c294
    refine w_exit rfl ?_
    refine w_seq ?_
    refine w_region ?_
    refine rz (.agg #[.int .i64 x11, .int .i64 x33, .int .i64 x49, .slice Aq l1.length cq, .slice Ap l2.length cp, .slice Ao l3.length co]) (by have eb_ := hf284; have e0_ := eb_.cellv (i := 0) (v := (.int .i64 x11 : Value)) rfl; have e1_ := eb_.cellv (i := 1) (v := (.int .i64 x33 : Value)) rfl; have e2_ := eb_.cellv (i := 2) (v := (.int .i64 x49 : Value)) rfl; have e3_ := eb_.cellv (i := 3) (v := (.slice Aq l1.length cq : Value)) rfl; have e4_ := eb_.cellv (i := 4) (v := (.slice Ap l2.length cp : Value)) rfl; have e5_ := eb_.cellv (i := 5) (v := (.slice Ao l3.length co : Value)) rfl; simp [go_sem, sEv, sLook, nbeq, i64_w, -List.getD_eq_getElem?_getD, e0_, e1_, e2_, e3_, e4_, e5_, Try.underlying26]) ?_
    have hb389 := hf285
    refine rw_store (g := g2) (i := 0) (l := [.int .i64 x11, .int .i64 x33, .int .i64 x49, .slice Aq l1.length cq, .slice Ap l2.length cp, .slice Ao l3.length co]) (cs' := #[.int .i64 x11, .int .i64 x33, .int .i64 x49, .slice Aq l1.length cq, .slice Ap l2.length cp, .slice Ao l3.length co]) rfl rfl rfl hb389 rfl (by have e0_ := hb389.cellv (i := 0) (v := (.int .i64 0 : Value)) rfl; have f0_ := hb389.frozen 0; have e1_ := hb389.cellv (i := 1) (v := (.int .i64 0 : Value)) rfl; have f1_ := hb389.frozen 1; have e2_ := hb389.cellv (i := 2) (v := (.int .i64 0 : Value)) rfl; have f2_ := hb389.frozen 2; have e3_ := hb389.cellv (i := 3) (v := (.slice none 0 0 : Value)) rfl; have f3_ := hb389.frozen 3; have e4_ := hb389.cellv (i := 4) (v := (.slice none 0 0 : Value)) rfl; have f4_ := hb389.frozen 4; have e5_ := hb389.cellv (i := 5) (v := (.slice none 0 0 : Value)) rfl; have f5_ := hb389.frozen 5; simp [go_sem, sEv, sLook, nbeq, i64_w, -List.getD_eq_getElem?_getD, putCells, e0_, f0_, e1_, f1_, e2_, f2_, e3_, f3_, e4_, f4_, e5_, f5_, Try.underlying26]) ?_
    intro w386 hk387 hk388
    have hs_w386 := hk387.size
    refine rw_end ?_
    refine w_retG (post_retc (v := .agg #[.int .i64 x11, .int .i64 x33, .int .i64 x49, .slice Aq l1.length cq, .slice Ap l2.length cp, .slice Ao l3.length co]) rfl rfl (by have eb_ := hk388; have e0_ := eb_.cellv (i := 0) (v := (.int .i64 x11 : Value)) rfl; have e1_ := eb_.cellv (i := 1) (v := (.int .i64 x33 : Value)) rfl; have e2_ := eb_.cellv (i := 2) (v := (.int .i64 x49 : Value)) rfl; have e3_ := eb_.cellv (i := 3) (v := (.slice Aq l1.length cq : Value)) rfl; have e4_ := eb_.cellv (i := 4) (v := (.slice Ap l2.length cp : Value)) rfl; have e5_ := eb_.cellv (i := 5) (v := (.slice Ao l3.length co : Value)) rfl; simp [go_sem, e0_, e1_, e2_, e3_, e4_, e5_, Try.underlying26]) ?_)
    have hE2_ : entsR k273 s271 = (l3, sl) := by rw [← (by omega : j3 = k273)]; exact hX3_0
    rw [note_eq hx10 hx32 hx48 hx64 hE0_ hx123 hE1_ hx269 hE2_]
    exact ⟨_, _, _, _, _, _, rfl, (OwnK.mono (d := (Kd.int .i64)) (own_keep (d := (Kd.int .i64)) hf286 hf285 (by decide) hk387) (by omega)), (OwnK.mono (d := kOp) (own_keep (d := kOp) hf287 hf285 (by decide) hk387) (by omega)), (OwnK.mono (d := kEntry) (own_keep (d := kEntry) hf288 hf285 (by decide) hk387) (by omega)), ⟨_, _, (hf283.keep hk387 (by omega)), (RRow.keep hrr_w_L281 hf285 (by decide) hk387)⟩, (hk387.below (by omega) hB_L281)⟩
end Go.Proofs.Ytbbhdohjhipalaa.Ce
end
section
namespace Go.Proofs.Ytbbhdohjhipalaa.Ce
open Go.RowKit Go.Proofs.YtbbhdohjhipalaaW.PrintWords Go.Proofs.YtbbhdohjhipalaaW.PrintLast Go.Proofs.YtbbhdohjhipalaaW.PrintMore
open Go.Proofs.Ytbbhdohjhipalaa.Flow Go.Proofs.Ytbbhdohjhipalaa.PNoteReads
set_option linter.unusedVariables false
set_option linter.unusedSimpArgs false
theorem err_same (o : Option Int) : PNoteReads.errW o = errT o := by cases o <;> rfl
def NL (b : List Int) : List Int := (numsP (b.length + 1) b 4096 []).1
def NO (b : List Int) : Bool := (numsP (b.length + 1) b 4096 []).2
theorem NL_len (b : List Int) (hb : Bytes b) (hl : b.length ≤ 1000000) : (NL b).length ≤ 1000000 := (nums_both b.length b [] 4096 (b.length + 32) (b.length + 1) (Nat.le_refl _) hb (Nat.le_refl _) (by omega) (.inl rfl) (by simpa using hl)).2
theorem fnums (w : World) (A0 : Option Addr) (c0 : Nat) (b : List Int) (base bb : Nat) (hO : OwnK (Kd.int .u8) 5 w base bb A0 b.length c0 b) (hb : Bytes b) (hl : b.length ≤ 1000000) : Calls Try.prog 37 #[.slice A0 b.length c0, .int .i64 4096] w fun e w' => ∃ A' c', e = .returned (.tuple #[.slice A' (NL b).length c', errT (if NO b = true then none else some 3)]) ∧ OwnK (Kd.int .i64) 3 w' w.heap.size w.heap.size A' (NL b).length c' (NL b) ∧ Below w.heap.size w w' := by
  have h := (nums_both b.length b [] 4096 (b.length + 32) (b.length + 1) (Nat.le_refl _) hb (Nat.le_refl _) (by omega) (.inl rfl) (by simpa using hl)).1
  refine (frame_Nums.calls (b.length + 32) (fun q => bb ≤ q) A0 c0 b 4096 _ _ w (Kd.R_V hO) h).mono ?_
  rintro e w' ⟨v0, rfl, hR, hB⟩
  obtain ⟨A', c', rfl, hle, hR2⟩ := R_shape hR
  exact ⟨A', c', by rw [err_same]; rfl, hR2, hB⟩
theorem fnums_no (w : World) (A0 : Option Addr) (c0 : Nat) (b : List Int) (base bb : Nat) (hO : OwnK (Kd.int .u8) 5 w base bb A0 b.length c0 b) (hb : Bytes b) (hl : b.length ≤ 1000000) (ho : NO b = false) : Calls Try.prog 37 #[.slice A0 b.length c0, .int .i64 4096] w fun e w' => ∃ A' c', e = .returned (.tuple #[.slice A' (NL b).length c', errT (some 3)]) ∧ OwnK (Kd.int .i64) 3 w' w.heap.size w.heap.size A' (NL b).length c' (NL b) ∧ Below w.heap.size w w' := by
  have h := fnums w A0 c0 b base bb hO hb hl
  rw [ho] at h
  exact h
theorem fnums_yes (w : World) (A0 : Option Addr) (c0 : Nat) (b : List Int) (base bb : Nat) (hO : OwnK (Kd.int .u8) 5 w base bb A0 b.length c0 b) (hb : Bytes b) (hl : b.length ≤ 1000000) (ho : NO b = true) : Calls Try.prog 37 #[.slice A0 b.length c0, .int .i64 4096] w fun e w' => ∃ A' c', e = .returned (.tuple #[.slice A' (NL b).length c', .nilIface]) ∧ OwnK (Kd.int .i64) 3 w' w.heap.size w.heap.size A' (NL b).length c' (NL b) ∧ Below w.heap.size w w' := by
  have h := fnums w A0 c0 b base bb hO hb hl
  rw [ho] at h
  exact h
theorem funwrap_no (w : World) (A0 : Option Addr) (c0 : Nat) (b : List Int) (hC : (Kd.int .u8).C w A0 b.length b) (hc : b.length ≤ c0) (hb : Bytes b) (hl : b.length ≤ 1000000) (hw : wholeP b = 0) : Calls Try.prog 36 #[.slice A0 b.length c0] w fun e w' => ∃ A1 n1 c1 A2 n2 c2, e = .returned (.tuple #[.slice A1 n1 c1, .slice A2 n2 c2, errT (some 3)]) ∧ Below w.heap.size w w' := by
  refine (unwrap_calls w A0 c0 b hC hc hb hl).mono ?_
  rintro e w' ⟨A1, n1, c1, A2, n2, c2, m, rfl, h1, h2, h3, h4, h5, h6⟩
  exact ⟨A1, n1, c1, A2, n2, c2, by rw [err_same]; unfold UE; rw [if_pos hw], h6⟩
theorem funwrap_yes (w : World) (A0 : Option Addr) (c0 : Nat) (b : List Int) (hC : (Kd.int .u8).C w A0 b.length b) (hc : b.length ≤ c0) (hb : Bytes b) (hl : b.length ≤ 1000000) (hw : wholeP b ≠ 0) : Calls Try.prog 36 #[.slice A0 b.length c0] w fun e w' => ∃ A1 c1 A2 c2, e = .returned (.tuple #[.slice A1 (UN b).length c1, .slice A2 (UR b).length c2, .nilIface]) ∧ OwnK (Kd.int .u8) 5 w' w.heap.size w.heap.size A1 (UN b).length c1 (UN b) ∧ Below w.heap.size w w' := by
  refine (unwrap_calls w A0 c0 b hC hc hb hl).mono ?_
  rintro e w' ⟨A1, n1, c1, A2, n2, c2, m, rfl, h1, h2, h3, h4, h5, h6⟩
  have e1 := OwnK.len (d := Kd.int .u8) h1
  have e2 := OwnK.len (d := Kd.int .u8) h2
  subst e1
  subst e2
  exact ⟨A1, c1, A2, c2, by rw [err_same]; unfold UE; rw [if_neg hw]; rfl, h1, h6⟩
theorem UN_le (b : List Int) : (UN b).length ≤ b.length := by
  unfold UN
  split
  · simp
  · rw [List.length_drop, List.length_take]
    omega
theorem UN_bytes {b : List Int} (hb : Bytes b) : Bytes (UN b) := by
  unfold UN
  split
  · intro x hx
    simp at hx
  · exact (hb.take _).drop _
theorem fput0 (w : World) (DA : Option Addr) (dc : Nat) (ys : List Int) (hC1 : (Kd.int .i64).C w DA ys.length ys) (hc1 : ys.length ≤ dc) (hy : ∀ y ∈ ys, I64 y) (hl : ys.length ≤ 1000000) : Calls Try.prog 28 #[.slice none 0 0, .slice DA ys.length dc] w fun e w' => ∃ A' c', e = .returned (.slice A' (PB ys).length c') ∧ OwnK (Kd.int .u8) 5 w' w.heap.size w.heap.size A' (PB ys).length c' (PB ys) ∧ Below w.heap.size w w' := by
  refine (put_behind w none 0 0 [] ⟨rfl, by simp, fun h => absurd h (by decide)⟩ (by simp) rfl DA dc ys hC1 hc1 hy hl).mono ?_
  rintro e w' ⟨A', n', c', rfl, h1, h2⟩
  have e1 := OwnK.len (d := Kd.int .u8) h1
  rw [List.nil_append] at h1 e1
  subst e1
  exact ⟨A', c', rfl, h1, h2⟩
theorem fwrap1 (w : World) (A0 : Option Addr) (c0 : Nat) (p : List Int) (hP : (Kd.slice 5 (Kd.int .u8)).C w A0 [p].length [p]) (hc0 : 1 ≤ c0) (hl : p.length ≤ 140737488355328) : Calls Try.prog 27 #[.slice A0 1 c0] w fun e w' => ∃ A' c', e = .returned (.tuple #[.slice A' (frameB p).length c', errT (frameE p)]) ∧ OwnK (Kd.int .u8) 5 w' w.heap.size w.heap.size A' (frameB p).length c' (frameB p) ∧ Below w.heap.size w w' := by
  refine (wrap_calls w A0 c0 [p] hP hc0 (by simp) (by simpa using hl)).mono ?_
  rintro e w' ⟨A', n', c', rfl, h1, h2⟩
  rw [show [p].flatten = p by simp] at h1 ⊢
  have e1 := OwnK.len (d := Kd.int .u8) h1
  subst e1
  exact ⟨A', c', by rw [err_same], h1, h2⟩
theorem low_own {w : World} {base b : Nat} {A : Option Addr} {n c : Nat} {xs : List Int} (h : OwnK (Kd.int .i64) 3 w base b A n c xs) : Low w.heap.size A := fun ad e => by
  subst e
  exact (own_lt h (q := ad.block) rfl).2
def EB (n : NT) : List Int := if goodN n = true then frameB (PB (listN n)) else []
def EE (n : NT) : Option Int := if goodN n = true then frameE (PB (listN n)) else some 2
def decN (b : List Int) : NT × Option Int :=
  if wholeP b = 0 ∨ 0 < (UR b).length then (NT.zero, some 3)
  else if NO (UN b) = false then (NT.zero, some 4)
  else if (noteR ⟨NL (UN b), false⟩).2.bad = true ∨ 0 < (noteR ⟨NL (UN b), false⟩).2.xs.length ∨ goodN (noteR ⟨NL (UN b), false⟩).1 = false then (NT.zero, some 4)
  else ((noteR ⟨NL (UN b), false⟩).1, none)
theorem good_sz {n : NT} (h : goodN n = true) : n.nums.length ≤ 39 ∧ n.ops.length ≤ 16 ∧ n.ents.length ≤ 16 := by
  have hs : shapeK n.kind ≠ none := fun e => by rw [good_no e] at h; cases h
  rcases e : shapeK n.kind with _ | ⟨a, b, c⟩
  · exact absurd e hs
  · obtain ⟨⟨h1, h2, h3, h4, h5, h6, h7, h8, h9, h10, h11⟩, h12⟩ := (good_iff e).1 h
    refine ⟨?_, h8, h10⟩
    unfold shapeK at e
    repeat' split at e
    all_goals first | (cases e; omega) | cases e
theorem numsR_len : ∀ (k : Nat) (s : RS), (numsR k s).1.length = k
  | 0, s => rfl
  | k + 1, s => by simp only [numsR, List.length_append, List.length_cons, List.length_nil, numsR_len k s]
theorem opsR_len : ∀ (k : Nat) (s : RS), (opsR k s).1.length = k
  | 0, s => rfl
  | k + 1, s => by simp only [opsR, List.length_append, List.length_cons, List.length_nil, opsR_len k s]
theorem entsR_len : ∀ (k : Nat) (s : RS), (entsR k s).1.length ≤ k
  | 0, s => Nat.le_refl _
  | k + 1, s => by
    have h := entsR_len k s
    simp only [entsR]
    split
    · omega
    · simp only [List.length_append, List.length_cons, List.length_nil]
      omega
theorem countR_le (m : Int) (s : RS) (hm : 0 ≤ m) : (countR m s).1.toNat ≤ m.toNat := by
  rcases h : countR m s with ⟨y, s2⟩
  obtain ⟨k, h1, rfl, _⟩ := count_nat h hm
  simp only [Int.toNat_natCast]
  omega
theorem note_sz (s : RS) : (noteR s).1.nums.length ≤ 64 ∧ (noteR s).1.ops.length ≤ 16 ∧ (noteR s).1.ents.length ≤ 16 := by
  simp only [noteR]
  refine ⟨?_, ?_, ?_⟩
  · rw [numsR_len]
    exact countR_le 64 _ (by decide)
  · rw [opsR_len]
    exact countR_le 16 _ (by decide)
  · exact Nat.le_trans (entsR_len _ _) (countR_le 16 _ (by decide))
end Go.Proofs.Ytbbhdohjhipalaa.Ce
end
section
namespace Go.Proofs.Ytbbhdohjhipalaa.Ce
open Go.RowKit Go.Proofs.YtbbhdohjhipalaaW.PrintWords Go.Proofs.YtbbhdohjhipalaaW.PrintLast Go.Proofs.YtbbhdohjhipalaaW.PrintMore
open Go.Proofs.Ytbbhdohjhipalaa.Flow
open Go.Proofs.Ytbbhdohjhipalaa.PNoteReads
set_option linter.unusedVariables false
set_option linter.unusedSimpArgs false
theorem check_no (w : World) (n : NT) (A3 : Option Addr) (c3 : Nat) (A4 : Option Addr) (c4 : Nat) (A5 : Option Addr) (c5 : Nat) (hn3 : (Kd.int .i64).C w A3 n.nums.length n.nums) (hc3 : n.nums.length ≤ c3) (hn4 : kOp.C w A4 n.ops.length n.ops) (hc4 : n.ops.length ≤ c4) (hn5 : kEntry.C w A5 n.ents.length n.ents) (hc5 : n.ents.length ≤ c5) (hk3 : n.nums.length ≤ 140737488355328) (hk4 : n.ops.length ≤ 140737488355328) (hk5 : n.ents.length ≤ 140737488355328) (hg : goodN n = false) : Calls Try.prog 15 #[.agg #[.int .i64 n.kind, .int .i64 n.fr, .int .i64 n.tw, .slice A3 n.nums.length c3, .slice A4 n.ops.length c4, .slice A5 n.ents.length c5]] w fun e w' => e = .returned (errT (some 2)) ∧ Below w.heap.size w w' := by
  have h := check_calls w n A3 c3 A4 c4 A5 c5 hn3 hc3 hn4 hc4 hn5 hc5 hk3 hk4 hk5
  rw [hg] at h
  exact h
theorem check_yes (w : World) (n : NT) (A3 : Option Addr) (c3 : Nat) (A4 : Option Addr) (c4 : Nat) (A5 : Option Addr) (c5 : Nat) (hn3 : (Kd.int .i64).C w A3 n.nums.length n.nums) (hc3 : n.nums.length ≤ c3) (hn4 : kOp.C w A4 n.ops.length n.ops) (hc4 : n.ops.length ≤ c4) (hn5 : kEntry.C w A5 n.ents.length n.ents) (hc5 : n.ents.length ≤ c5) (hk3 : n.nums.length ≤ 140737488355328) (hk4 : n.ops.length ≤ 140737488355328) (hk5 : n.ents.length ≤ 140737488355328) (hg : goodN n = true) : Calls Try.prog 15 #[.agg #[.int .i64 n.kind, .int .i64 n.fr, .int .i64 n.tw, .slice A3 n.nums.length c3, .slice A4 n.ops.length c4, .slice A5 n.ents.length c5]] w fun e w' => e = .returned .nilIface ∧ Below w.heap.size w w' := by
  have h := check_calls w n A3 c3 A4 c4 A5 c5 hn3 hc3 hn4 hc4 hn5 hc5 hk3 hk4 hk5
  rw [hg] at h
  exact h
theorem note_k (w w1 : World) (g : Nat) (s : RS) (n : NT) (s2 : RS) (hx : noteR s = (n, s2)) (hb0 : Below w.heap.size w w1) (hg0 : w.heap.size ≤ g) (A : Option Addr) (c : Nat) (hb : Blk w1 g 90 #[.slice A s.xs.length c, .bool s.bad]) (hr : RRow w1 A s.xs.length c s.xs) (hl : Low w1.heap.size A) (hln : s.xs.length ≤ 100000) :
    Calls Try.prog 38 #[.pointer (some ⟨g, 0, none⟩)] w1 fun e w' => ∃ A3 c3 A4 c4 A5 c5, e = .returned (.agg #[.int .i64 n.kind, .int .i64 n.fr, .int .i64 n.tw, .slice A3 n.nums.length c3, .slice A4 n.ops.length c4, .slice A5 n.ents.length c5]) ∧ OwnK (Kd.int .i64) 3 w' w.heap.size w1.heap.size A3 n.nums.length c3 n.nums ∧ OwnK kOp 73 w' w.heap.size w1.heap.size A4 n.ops.length c4 n.ops ∧ OwnK kEntry 83 w' w.heap.size w1.heap.size A5 n.ents.length c5 n.ents ∧ RD w' g s2 ∧ Below w.heap.size w w' := by
  have h := note_raw w w1 g s hb0 hb0.size hg0 hb.lt A c hb hr hl hln
  rw [hx] at h
  exact h
theorem eb_no {n : NT} (h : goodN n = false) : EB n = [] ∧ EE n = some 2 := by unfold EB EE; rw [h]; exact ⟨rfl, rfl⟩
theorem eb_yes {n : NT} (h : goodN n = true) : EB n = frameB (PB (listN n)) ∧ EE n = frameE (PB (listN n)) := by unfold EB EE; rw [h]; exact ⟨rfl, rfl⟩
theorem listN_len (n : NT) (hk3 : n.nums.length ≤ 1000) (hk4 : n.ops.length ≤ 1000) (hk5 : n.ents.length ≤ 1000) : (listN n).length ≤ 160000 := by
  unfold listN
  have h1 := opsL_len n.ops
  have h2 := entsL_len n.ents
  simp only [List.length_append, List.length_cons, List.length_nil]
  omega
set_option maxHeartbeats 4000000 in
theorem enc_calls (w : World) (n : NT) (A3 : Option Addr) (c3 : Nat) (A4 : Option Addr) (c4 : Nat) (A5 : Option Addr) (c5 : Nat) (hn3 : (Kd.int .i64).C w A3 n.nums.length n.nums) (hc3 : n.nums.length ≤ c3) (hn4 : kOp.C w A4 n.ops.length n.ops) (hc4 : n.ops.length ≤ c4) (hn5 : kEntry.C w A5 n.ents.length n.ents) (hc5 : n.ents.length ≤ c5) (hk3 : n.nums.length ≤ 140737488355328) (hk4 : n.ops.length ≤ 140737488355328) (hk5 : n.ents.length ≤ 140737488355328) (hI : ∀ y ∈ listN n, I64 y) :
  Calls Try.prog 12 #[.agg #[.int .i64 n.kind, .int .i64 n.fr, .int .i64 n.tw, .slice A3 n.nums.length c3, .slice A4 n.ops.length c4, .slice A5 n.ents.length c5]] w fun e w' => ∃ A' c', e = .returned (.tuple #[.slice A' (EB n).length c', errT (EE n)]) ∧ OwnK (Kd.int .u8) 5 w' w.heap.size w.heap.size A' (EB n).length c' (EB n) ∧ Below w.heap.size w w' := by
 refine calls_flow Try.func12 rfl 17 rfl (Nat.le_of_ble_eq_true rfl) [(0, .agg #[.int .i64 n.kind, .int .i64 n.fr, .int .i64 n.tw, .slice A3 n.nums.length c3, .slice A4 n.ops.length c4, .slice A5 n.ents.length c5])] ?_ ?_
 ·
  intro t v h; exact args_look rfl t v h
 refine w_seq ?_
 refine w_region ?_
 refine rw_new (cs := #[.int .i64 n.kind, .int .i64 n.fr, .int .i64 n.tw, .slice A3 n.nums.length c3, .slice A4 n.ops.length c4, .slice A5 n.ents.length c5]) (t := 26) (fun g => .pointer (some ⟨g, 0, none⟩)) rfl rfl rfl rfl (by simp [go_sem, sEv, sLook, nbeq, i64_w, -List.getD_eq_getElem?_getD]) ?_
 intro g1 w2 hg6 hz5 hb3 hk4
 have hs_w2 := hb3.size
 refine rv (.slice none 0 0) ?_
 refine rv .nilIface ?_
 refine rw_end ?_
 refine w_seq ?_
 refine w_seq ?_
 refine w_region ?_
 refine rz (.agg #[.int .i64 n.kind, .int .i64 n.fr, .int .i64 n.tw, .slice A3 n.nums.length c3, .slice A4 n.ops.length c4, .slice A5 n.ents.length c5]) (by have eb_ := hk4; have e0_ := eb_.cellv (i := 0) (v := (.int .i64 n.kind : Value)) rfl; have e1_ := eb_.cellv (i := 1) (v := (.int .i64 n.fr : Value)) rfl; have e2_ := eb_.cellv (i := 2) (v := (.int .i64 n.tw : Value)) rfl; have e3_ := eb_.cellv (i := 3) (v := (.slice A3 n.nums.length c3 : Value)) rfl; have e4_ := eb_.cellv (i := 4) (v := (.slice A4 n.ops.length c4 : Value)) rfl; have e5_ := eb_.cellv (i := 5) (v := (.slice A5 n.ents.length c5 : Value)) rfl; simp [go_sem, sEv, sLook, nbeq, i64_w, -List.getD_eq_getElem?_getD, e0_, e1_, e2_, e3_, e4_, e5_, Try.underlying26]) ?_
 rcases hg_ : goodN n with _ | _
 ·
  refine rw_call rfl rfl rfl rfl (f := 15) (args := #[.agg #[.int .i64 n.kind, .int .i64 n.fr, .int .i64 n.tw, .slice A3 n.nums.length c3, .slice A4 n.ops.length c4, .slice A5 n.ents.length c5]]) (by simp [go_sem, sEv, sLook, nbeq, i64_w, -List.getD_eq_getElem?_getD]) (check_no w2 n A3 c3 A4 c4 A5 c5 (Kd.C_below hn3 hb3) hc3 (Kd.C_below hn4 hb3) hc4 (Kd.C_below hn5 hb3) hc5 (by omega) (by omega) (by omega) hg_) ?_
  rintro e_ w7 ⟨rfl, hb8⟩
  refine ⟨_, rfl, ?_⟩
  have hs_w7 := hb8.size
  refine rv (errT (some 2)) ?_
  refine rw_end ?_
  refine w_seq ?_
  refine w_region ?_
  refine rv (errT (some 2)) ?_
  refine rz (.bool ((some 2).isSome)) (run_as (guard_err_neq _ (some 2) _)) ?_
  refine rw_end ?_
  have hq9 : ((some 2).isSome) = true := by rfl
  refine w_cond_t rfl rfl hq9 ?_
  refine w_seq ?_
  refine w_region ?_
  refine rv (errT (some 2)) ?_
  refine rv (.slice none 0 0) ?_
  refine rv (errT (some 2)) ?_
  refine rw_end ?_
  refine w_ret (post_ret2 rfl rfl rfl ?_)
  rw [(eb_no hg_).1, (eb_no hg_).2]
  exact ⟨_, _, rfl, OwnK.nil _ _ _ _ _, (chain hb3 hb8)⟩
 ·
  refine rw_call rfl rfl rfl rfl (f := 15) (args := #[.agg #[.int .i64 n.kind, .int .i64 n.fr, .int .i64 n.tw, .slice A3 n.nums.length c3, .slice A4 n.ops.length c4, .slice A5 n.ents.length c5]]) (by simp [go_sem, sEv, sLook, nbeq, i64_w, -List.getD_eq_getElem?_getD]) (check_yes w2 n A3 c3 A4 c4 A5 c5 (Kd.C_below hn3 hb3) hc3 (Kd.C_below hn4 hb3) hc4 (Kd.C_below hn5 hb3) hc5 (by omega) (by omega) (by omega) hg_) ?_
  rintro e_ w10 ⟨rfl, hb11⟩
  refine ⟨_, rfl, ?_⟩
  have hs_w10 := hb11.size
  refine rv .nilIface ?_
  refine rw_end ?_
  refine w_seq ?_
  refine w_region ?_
  refine rv .nilIface ?_
  refine rz (.bool ((none : Option Int).isSome)) (run_as (guard_err_neq _ (none : Option Int) _)) ?_
  refine rw_end ?_
  have hq12 : ((none : Option Int).isSome) = false := by rfl
  refine w_cond_f rfl rfl hq12 ?_
  refine w_skip ?_
  refine w_seq ?_
  refine w_region ?_
  refine rz (.agg #[.int .i64 n.kind, .int .i64 n.fr, .int .i64 n.tw, .slice A3 n.nums.length c3, .slice A4 n.ops.length c4, .slice A5 n.ents.length c5]) (by have eb_ := (hk4.on hb11); have e0_ := eb_.cellv (i := 0) (v := (.int .i64 n.kind : Value)) rfl; have e1_ := eb_.cellv (i := 1) (v := (.int .i64 n.fr : Value)) rfl; have e2_ := eb_.cellv (i := 2) (v := (.int .i64 n.tw : Value)) rfl; have e3_ := eb_.cellv (i := 3) (v := (.slice A3 n.nums.length c3 : Value)) rfl; have e4_ := eb_.cellv (i := 4) (v := (.slice A4 n.ops.length c4 : Value)) rfl; have e5_ := eb_.cellv (i := 5) (v := (.slice A5 n.ents.length c5 : Value)) rfl; simp [go_sem, sEv, sLook, nbeq, i64_w, -List.getD_eq_getElem?_getD, e0_, e1_, e2_, e3_, e4_, e5_, Try.underlying26]) ?_
  have hz_ := good_sz hg_
  have hll_ := listN_len n (by omega) (by omega) (by omega)
  refine rw_call rfl rfl rfl rfl (f := 29) (args := #[.agg #[.int .i64 n.kind, .int .i64 n.fr, .int .i64 n.tw, .slice A3 n.nums.length c3, .slice A4 n.ops.length c4, .slice A5 n.ents.length c5]]) (by simp [go_sem, sEv, sLook, nbeq, i64_w, -List.getD_eq_getElem?_getD]) (notenums_calls w10 n A3 c3 A4 c4 A5 c5 (Kd.C_below hn3 (chain hb3 hb11)) hc3 (Kd.C_below hn4 (chain hb3 hb11)) hc4 (Kd.C_below hn5 (chain hb3 hb11)) hc5 (by omega) (by omega) (by omega)) ?_
  rintro e_ w13 ⟨A15, c16, rfl, hO170, hb14⟩
  refine ⟨_, rfl, ?_⟩
  have hs_w13 := hb14.size
  have hO17 := OwnK.lower (base' := w.heap.size) (d := (Kd.int .i64)) hO170 (by omega)
  refine rw_call rfl rfl rfl rfl (f := 28) (args := #[.slice none 0 0, .slice A15 ((listN n).length) c16]) (by simp [go_sem, sEv, sLook, nbeq, i64_w, -List.getD_eq_getElem?_getD]) (fput0 w13 A15 c16 (listN n) (OwnK.C (d := (Kd.int .i64)) hO17) (by have q_ := OwnK.cap (d := (Kd.int .i64)) hO17; omega) hI (by omega)) ?_
  rintro e_ w18 ⟨A20, c21, rfl, hO220, hb19⟩
  refine ⟨_, rfl, ?_⟩
  have hs_w18 := hb19.size
  have hO22 := OwnK.lower (base' := w.heap.size) (d := (Kd.int .u8)) hO220 (by omega)
  refine rw_new (cs := #[.slice A20 ((PB (listN n)).length) c21]) (t := 30) (fun g => .slice (some ⟨g, 0, none⟩) 1 1) rfl rfl rfl rfl (by kernel_rfl) ?_
  intro g23 w24 hg28 hz27 hb25 hk26
  have hs_w24 := hb25.size
  have hpl_ := PB_len (listN n) hI
  refine rw_call rfl rfl rfl rfl (f := 27) (args := #[.slice (some ⟨g23, 0, none⟩) 1 1]) (by simp [go_sem, sEv, sLook, nbeq, i64_w, -List.getD_eq_getElem?_getD]) (fwrap1 w24 _ 1 (PB (listN n)) (rows1 (e := 5) hk26 (by have q_ := OwnK.cap (d := (Kd.int .u8)) (OwnK.on (d := (Kd.int .u8)) hO22 hb25); omega) (OwnK.C (d := (Kd.int .u8)) (OwnK.on (d := (Kd.int .u8)) hO22 hb25))) (by decide) (by omega)) ?_
  rintro e_ w29 ⟨A31, c32, rfl, hO330, hb30⟩
  refine ⟨_, rfl, ?_⟩
  have hs_w29 := hb30.size
  have hO33 := OwnK.lower (base' := w.heap.size) (d := (Kd.int .u8)) hO330 (by omega)
  refine rz (.slice A31 ((frameB (PB (listN n))).length) c32) (by simp [go_sem, sEv, sLook, nbeq, i64_w, -List.getD_eq_getElem?_getD]) ?_
  refine rz (errT (frameE (PB (listN n)))) (by simp [go_sem, sEv, sLook, nbeq, i64_w, -List.getD_eq_getElem?_getD]) ?_
  refine rv (.slice A31 ((frameB (PB (listN n))).length) c32) ?_
  refine rv (errT (frameE (PB (listN n)))) ?_
  refine rw_end ?_
  refine w_weaken (G' := [(2, .slice A31 ((frameB (PB (listN n))).length) c32), (3, errT (frameE (PB (listN n))))]) ⟨rfl, rfl, trivial⟩ ?_
  refine w_ret (post_ret2 rfl rfl rfl ?_)
  rw [(eb_yes hg_).1, (eb_yes hg_).2]
  exact ⟨_, _, rfl, OwnK.mono (d := (Kd.int .u8)) hO33 (by omega), (chain (chain (chain (chain (chain hb3 hb11) hb14) hb19) hb25) hb30)⟩
end Go.Proofs.Ytbbhdohjhipalaa.Ce
end
section
namespace Go.Proofs.Ytbbhdohjhipalaa.Ce
open Go.RowKit Go.Proofs.YtbbhdohjhipalaaW.PrintWords Go.Proofs.YtbbhdohjhipalaaW.PrintLast Go.Proofs.YtbbhdohjhipalaaW.PrintMore
open Go.Proofs.Ytbbhdohjhipalaa.Flow
open Go.Proofs.Ytbbhdohjhipalaa.PNoteReads
set_option linter.unusedVariables false
set_option linter.unusedSimpArgs false
theorem numsP_le : ∀ (K : Nat) (b x : List Int), (numsP K b 4096 x).1.length ≤ 4096
  | 0, b, x => by simp [numsP]
  | K + 1, b, x => by
    rw [numsP]
    split
    · split
      · simp
      · show x.length ≤ 4096
        omega
    · split
      · simp
      · exact numsP_le K _ _
theorem NL_4096 (b : List Int) : (NL b).length ≤ 4096 := numsP_le _ _ _
theorem dec_no (b : List Int) (h : wholeP b = 0 ∨ 0 < (UR b).length) : decN b = (NT.zero, some 3) := if_pos h
theorem dec_bad (b : List Int) (h1 : wholeP b ≠ 0) (h2 : (UR b).length = 0) (h : NO (UN b) = false) : decN b = (NT.zero, some 4) := by
  unfold decN
  rw [if_neg (by omega), if_pos h]
theorem dec_bad2 (b : List Int) {n : NT} {s : RS} (h1 : wholeP b ≠ 0) (h2 : (UR b).length = 0) (h3 : NO (UN b) = true) (hn : noteR ⟨NL (UN b), false⟩ = (n, s)) (h : s.bad = true ∨ 0 < s.xs.length ∨ goodN n = false) : decN b = (NT.zero, some 4) := by
  unfold decN
  rw [if_neg (by omega), if_neg (by rw [h3]; simp), hn, if_pos h]
theorem dec_ok (b : List Int) {n : NT} {s : RS} (h1 : wholeP b ≠ 0) (h2 : (UR b).length = 0) (h3 : NO (UN b) = true) (hn : noteR ⟨NL (UN b), false⟩ = (n, s)) (h4 : s.bad = false) (h5 : s.xs.length = 0) (h6 : goodN n = true) : decN b = (n, none) := by
  unfold decN
  rw [if_neg (by omega), if_neg (by rw [h3]; simp), hn, if_neg (by rw [h4, h6]; simp; exact List.length_eq_zero_iff.1 h5)]
theorem note_sz2 {s s2 : RS} {n : NT} (h : noteR s = (n, s2)) : n.nums.length ≤ 64 ∧ n.ops.length ≤ 16 ∧ n.ents.length ≤ 16 := by
  have q := note_sz s
  rw [h] at q
  exact q
set_option maxHeartbeats 4000000 in
theorem dec_calls (w : World) (A0 : Option Addr) (c0 : Nat) (b : List Int) (hC : (Kd.int .u8).C w A0 b.length b) (hc : b.length ≤ c0) (hb : Bytes b) (hl : b.length ≤ 1000000) :
  Calls Try.prog 19 #[.slice A0 b.length c0] w fun e w' => ∃ A3 c3 A4 c4 A5 c5, e = .returned (.tuple #[.agg #[.int .i64 (decN b).1.kind, .int .i64 (decN b).1.fr, .int .i64 (decN b).1.tw, .slice A3 (decN b).1.nums.length c3, .slice A4 (decN b).1.ops.length c4, .slice A5 (decN b).1.ents.length c5], errT (decN b).2]) ∧ OwnK (Kd.int .i64) 3 w' w.heap.size w.heap.size A3 (decN b).1.nums.length c3 (decN b).1.nums ∧ OwnK kOp 73 w' w.heap.size w.heap.size A4 (decN b).1.ops.length c4 (decN b).1.ops ∧ OwnK kEntry 83 w' w.heap.size w.heap.size A5 (decN b).1.ents.length c5 (decN b).1.ents ∧ Below w.heap.size w w' := by
 refine calls_flow Try.func19 rfl 59 rfl (Nat.le_of_ble_eq_true rfl) [(0, .slice A0 b.length c0)] ?_ ?_
 ·
  intro t v h; exact args_look rfl t v h
 refine w_seq ?_
 refine w_region ?_
 refine rw_new (cs := #[.int .i64 0, .int .i64 0, .int .i64 0, .slice none 0 0, .slice none 0 0, .slice none 0 0]) (t := 26) (fun g => .pointer (some ⟨g, 0, none⟩)) rfl rfl rfl rfl (by kernel_rfl) ?_
 intro g1 w2 hg6 hz5 hb3 hk4
 have hs_w2 := hb3.size
 refine rv .nilIface ?_
 refine rw_end ?_
 refine w_seq ?_
 refine w_region ?_
 refine rv (.slice A0 b.length c0) ?_
 by_cases hw_ : wholeP b = 0
 ·
  refine rw_call rfl rfl rfl rfl (f := 36) (args := #[.slice A0 b.length c0]) (by simp [go_sem, sEv, sLook, nbeq, i64_w, -List.getD_eq_getElem?_getD]) (funwrap_no w2 A0 c0 b (Kd.C_below hC hb3) hc hb hl hw_) ?_
  rintro e_ w7 ⟨A9, n10, c11, A12, n13, c14, rfl, hb8⟩
  refine ⟨_, rfl, ?_⟩
  have hs_w7 := hb8.size
  refine rv (.tuple #[.slice A9 n10 c11, .slice A12 n13 c14, errT (some 3)]) ?_
  refine rz (.slice A9 n10 c11) (by simp [go_sem, sEv, sLook, nbeq, i64_w, -List.getD_eq_getElem?_getD]) ?_
  refine rz (.slice A12 n13 c14) (by simp [go_sem, sEv, sLook, nbeq, i64_w, -List.getD_eq_getElem?_getD]) ?_
  refine rz (errT (some 3)) (by simp [go_sem, sEv, sLook, nbeq, i64_w, -List.getD_eq_getElem?_getD]) ?_
  refine rv (.slice A9 n10 c11) ?_
  refine rv (.slice A12 n13 c14) ?_
  refine rv (errT (some 3)) ?_
  refine rw_end ?_
  refine w_weaken (G' := [(2, .pointer (some ⟨g1, 0, none⟩)), (3, .nilIface), (4, .slice A9 n10 c11), (5, .slice A12 n13 c14), (6, errT (some 3))]) ⟨rfl, rfl, rfl, rfl, rfl, trivial⟩ ?_
  refine w_seq ?_
  refine w_seq ?_
  refine w_region ?_
  refine rv (errT (some 3)) ?_
  refine rz (.bool ((some 3).isSome)) (run_as (guard_err_neq _ (some 3) _)) ?_
  refine rv (.bool ((some 3).isSome)) ?_
  have hq15 : ((some 3).isSome) = true := by rfl
  refine rw_off (c := (some 3).isSome) rfl rfl rfl (by first | (rw [hq15]; rfl) | simp [hq15]) rfl rfl ?_
  refine rw_off (c := (some 3).isSome) rfl rfl rfl (by first | (rw [hq15]; rfl) | simp [hq15]) rfl rfl ?_
  refine rw_off (c := (some 3).isSome) rfl rfl rfl (by first | (rw [hq15]; rfl) | simp [hq15]) rfl rfl ?_
  refine rz (.bool true) (by first | (simp [go_sem, sEv, sLook, nbeq, i64_w, -List.getD_eq_getElem?_getD, hq15]; done) | (rw [hq15]; simp [go_sem, sEv, sLook, nbeq, i64_w, -List.getD_eq_getElem?_getD]; done) | (simp [go_sem, sEv, sLook, nbeq, i64_w, -List.getD_eq_getElem?_getD] <;> omega) | (simp [go_sem, sEv, sLook, nbeq, i64_w, -List.getD_eq_getElem?_getD]; intro h_; exact absurd (by omega) h_)) ?_
  refine rw_end ?_
  refine w_weaken (G' := [(2, .pointer (some ⟨g1, 0, none⟩)), (3, .nilIface), (4, .slice A9 n10 c11), (6, errT (some 3)), (22, .bool true)]) ⟨rfl, rfl, rfl, rfl, rfl, trivial⟩ ?_
  refine w_cond_t rfl rfl rfl ?_
  refine w_seq ?_
  refine w_region ?_
  refine rz (.agg #[.int .i64 0, .int .i64 0, .int .i64 0, .slice none 0 0, .slice none 0 0, .slice none 0 0]) (by kernel_rfl) ?_
  refine rz (errT (some 3)) (by simp [go_sem, sEv, sLook, nbeq, i64_w, -List.getD_eq_getElem?_getD, errT]) ?_
  have hb19 := (hk4.on hb8)
  refine rw_store (g := g1) (i := 0) (l := [.int .i64 0, .int .i64 0, .int .i64 0, .slice none 0 0, .slice none 0 0, .slice none 0 0]) (cs' := #[.int .i64 0, .int .i64 0, .int .i64 0, .slice none 0 0, .slice none 0 0, .slice none 0 0]) rfl rfl rfl hb19 rfl (by have e0_ := hb19.cellv (i := 0) (v := (.int .i64 0 : Value)) rfl; have f0_ := hb19.frozen 0; have e1_ := hb19.cellv (i := 1) (v := (.int .i64 0 : Value)) rfl; have f1_ := hb19.frozen 1; have e2_ := hb19.cellv (i := 2) (v := (.int .i64 0 : Value)) rfl; have f2_ := hb19.frozen 2; have e3_ := hb19.cellv (i := 3) (v := (.slice none 0 0 : Value)) rfl; have f3_ := hb19.frozen 3; have e4_ := hb19.cellv (i := 4) (v := (.slice none 0 0 : Value)) rfl; have f4_ := hb19.frozen 4; have e5_ := hb19.cellv (i := 5) (v := (.slice none 0 0 : Value)) rfl; have f5_ := hb19.frozen 5; simp [go_sem, sEv, sLook, nbeq, i64_w, -List.getD_eq_getElem?_getD, putCells, e0_, f0_, e1_, f1_, e2_, f2_, e3_, f3_, e4_, f4_, e5_, f5_, Try.underlying26]) ?_
  intro w16 hk17 hk18
  have hs_w16 := hk17.size
  refine rv (errT (some 3)) ?_
  refine rw_end ?_
  refine w_weaken (G' := [(2, .pointer (some ⟨g1, 0, none⟩)), (3, errT (some 3)), (4, .slice A9 n10 c11), (6, errT (some 3))]) ⟨rfl, rfl, rfl, rfl, trivial⟩ ?_
  refine w_ret (post_retct (v := .agg #[.int .i64 0, .int .i64 0, .int .i64 0, .slice none 0 0, .slice none 0 0, .slice none 0 0]) rfl rfl rfl (by have eb_ := hk18; have e0_ := eb_.cellv (i := 0) (v := (.int .i64 0 : Value)) rfl; have e1_ := eb_.cellv (i := 1) (v := (.int .i64 0 : Value)) rfl; have e2_ := eb_.cellv (i := 2) (v := (.int .i64 0 : Value)) rfl; have e3_ := eb_.cellv (i := 3) (v := (.slice none 0 0 : Value)) rfl; have e4_ := eb_.cellv (i := 4) (v := (.slice none 0 0 : Value)) rfl; have e5_ := eb_.cellv (i := 5) (v := (.slice none 0 0 : Value)) rfl; simp [go_sem, e0_, e1_, e2_, e3_, e4_, e5_, Try.underlying26]) ?_)
  rw [dec_no b (.inl hw_)]
  exact ⟨_, _, _, _, _, _, rfl, OwnK.nil _ _ _ _ _, OwnK.nil _ _ _ _ _, OwnK.nil _ _ _ _ _, (hk17.below (by omega) (chain hb3 hb8))⟩
 ·
  refine rw_call rfl rfl rfl rfl (f := 36) (args := #[.slice A0 b.length c0]) (by simp [go_sem, sEv, sLook, nbeq, i64_w, -List.getD_eq_getElem?_getD]) (funwrap_yes w2 A0 c0 b (Kd.C_below hC hb3) hc hb hl hw_) ?_
  rintro e_ w20 ⟨A23, c24, A25, c26, rfl, hO220, hb21⟩
  refine ⟨_, rfl, ?_⟩
  have hs_w20 := hb21.size
  have hO22 := OwnK.lower (base' := w.heap.size) (d := (Kd.int .u8)) hO220 (by omega)
  refine rv (.tuple #[.slice A23 ((UN b).length) c24, .slice A25 ((UR b).length) c26, .nilIface]) ?_
  refine rz (.slice A23 ((UN b).length) c24) (by simp [go_sem, sEv, sLook, nbeq, i64_w, -List.getD_eq_getElem?_getD]) ?_
  refine rz (.slice A25 ((UR b).length) c26) (by simp [go_sem, sEv, sLook, nbeq, i64_w, -List.getD_eq_getElem?_getD]) ?_
  refine rz .nilIface (by simp [go_sem, sEv, sLook, nbeq, i64_w, -List.getD_eq_getElem?_getD]) ?_
  refine rv (.slice A23 ((UN b).length) c24) ?_
  refine rv (.slice A25 ((UR b).length) c26) ?_
  refine rv .nilIface ?_
  refine rw_end ?_
  refine w_weaken (G' := [(2, .pointer (some ⟨g1, 0, none⟩)), (3, .nilIface), (4, .slice A23 ((UN b).length) c24), (5, .slice A25 ((UR b).length) c26), (6, .nilIface)]) ⟨rfl, rfl, rfl, rfl, rfl, trivial⟩ ?_
  refine w_seq ?_
  refine w_seq ?_
  refine w_region ?_
  refine rv .nilIface ?_
  refine rz (.bool ((none : Option Int).isSome)) (run_as (guard_err_neq _ (none : Option Int) _)) ?_
  refine rv (.bool ((none : Option Int).isSome)) ?_
  have hq27 : ((none : Option Int).isSome) = false := by rfl
  refine rw_on (c := (none : Option Int).isSome) rfl rfl rfl (by first | (rw [hq27]; rfl) | simp [hq27]) ?_
  refine rv (.slice A25 ((UR b).length) c26) ?_
  refine rw_on (c := (none : Option Int).isSome) rfl rfl rfl (by first | (rw [hq27]; rfl) | simp [hq27]) ?_
  refine rz (.int .i64 (((UR b).length : Nat) : Int)) (by simp [go_sem, sEv, sLook, nbeq, i64_w, -List.getD_eq_getElem?_getD]) ?_
  refine rw_on (c := (none : Option Int).isSome) rfl rfl rfl (by first | (rw [hq27]; rfl) | simp [hq27]) ?_
  refine rz (.bool (decide (0 < (((UR b).length : Nat) : Int)))) (by simp [go_sem, sEv, sLook, nbeq, i64_w, -List.getD_eq_getElem?_getD]) ?_
  refine rz (.bool (decide (0 < (((UR b).length : Nat) : Int)))) (by first | (simp [go_sem, sEv, sLook, nbeq, i64_w, -List.getD_eq_getElem?_getD, hq27]; done) | (rw [hq27]; simp [go_sem, sEv, sLook, nbeq, i64_w, -List.getD_eq_getElem?_getD]; done) | (simp [go_sem, sEv, sLook, nbeq, i64_w, -List.getD_eq_getElem?_getD] <;> omega) | (simp [go_sem, sEv, sLook, nbeq, i64_w, -List.getD_eq_getElem?_getD]; intro h_; exact absurd (by omega) h_)) ?_
  refine rw_end ?_
  refine w_weaken (G' := [(2, .pointer (some ⟨g1, 0, none⟩)), (3, .nilIface), (4, .slice A23 ((UN b).length) c24), (6, .nilIface), (22, .bool (decide (0 < (((UR b).length : Nat) : Int))))]) ⟨rfl, rfl, rfl, rfl, rfl, trivial⟩ ?_
  refine w_cond rfl rfl (fun cU => ?_) (fun cU => ?_)
  ·
   have l28 : (0 < (((UR b).length : Nat) : Int)) := of_decide_eq_true cU
   refine w_seq ?_
   refine w_region ?_
   refine rz (.agg #[.int .i64 0, .int .i64 0, .int .i64 0, .slice none 0 0, .slice none 0 0, .slice none 0 0]) (by kernel_rfl) ?_
   refine rz (errT (some 3)) (by simp [go_sem, sEv, sLook, nbeq, i64_w, -List.getD_eq_getElem?_getD, errT]) ?_
   have hb32 := (hk4.on hb21)
   refine rw_store (g := g1) (i := 0) (l := [.int .i64 0, .int .i64 0, .int .i64 0, .slice none 0 0, .slice none 0 0, .slice none 0 0]) (cs' := #[.int .i64 0, .int .i64 0, .int .i64 0, .slice none 0 0, .slice none 0 0, .slice none 0 0]) rfl rfl rfl hb32 rfl (by have e0_ := hb32.cellv (i := 0) (v := (.int .i64 0 : Value)) rfl; have f0_ := hb32.frozen 0; have e1_ := hb32.cellv (i := 1) (v := (.int .i64 0 : Value)) rfl; have f1_ := hb32.frozen 1; have e2_ := hb32.cellv (i := 2) (v := (.int .i64 0 : Value)) rfl; have f2_ := hb32.frozen 2; have e3_ := hb32.cellv (i := 3) (v := (.slice none 0 0 : Value)) rfl; have f3_ := hb32.frozen 3; have e4_ := hb32.cellv (i := 4) (v := (.slice none 0 0 : Value)) rfl; have f4_ := hb32.frozen 4; have e5_ := hb32.cellv (i := 5) (v := (.slice none 0 0 : Value)) rfl; have f5_ := hb32.frozen 5; simp [go_sem, sEv, sLook, nbeq, i64_w, -List.getD_eq_getElem?_getD, putCells, e0_, f0_, e1_, f1_, e2_, f2_, e3_, f3_, e4_, f4_, e5_, f5_, Try.underlying26]) ?_
   intro w29 hk30 hk31
   have hs_w29 := hk30.size
   refine rv (errT (some 3)) ?_
   refine rw_end ?_
   refine w_weaken (G' := [(2, .pointer (some ⟨g1, 0, none⟩)), (3, errT (some 3)), (4, .slice A23 ((UN b).length) c24), (6, .nilIface)]) ⟨rfl, rfl, rfl, rfl, trivial⟩ ?_
   refine w_ret (post_retct (v := .agg #[.int .i64 0, .int .i64 0, .int .i64 0, .slice none 0 0, .slice none 0 0, .slice none 0 0]) rfl rfl rfl (by have eb_ := hk31; have e0_ := eb_.cellv (i := 0) (v := (.int .i64 0 : Value)) rfl; have e1_ := eb_.cellv (i := 1) (v := (.int .i64 0 : Value)) rfl; have e2_ := eb_.cellv (i := 2) (v := (.int .i64 0 : Value)) rfl; have e3_ := eb_.cellv (i := 3) (v := (.slice none 0 0 : Value)) rfl; have e4_ := eb_.cellv (i := 4) (v := (.slice none 0 0 : Value)) rfl; have e5_ := eb_.cellv (i := 5) (v := (.slice none 0 0 : Value)) rfl; simp [go_sem, e0_, e1_, e2_, e3_, e4_, e5_, Try.underlying26]) ?_)
   rw [dec_no b (.inr (by simpa using cU))]
   exact ⟨_, _, _, _, _, _, rfl, OwnK.nil _ _ _ _ _, OwnK.nil _ _ _ _ _, OwnK.nil _ _ _ _ _, (hk30.below (by omega) (chain hb3 hb21))⟩
  ·
   have l33 : ¬ (0 < (((UR b).length : Nat) : Int)) := of_decide_eq_false cU
   refine w_skip ?_
   refine w_seq ?_
   refine w_region ?_
   refine rv (.slice A23 ((UN b).length) c24) ?_
   rcases hn_ : NO (UN b) with _ | _
   ·
    have hul_ := UN_le b
    refine rw_call rfl rfl rfl rfl (f := 37) (args := #[.slice A23 ((UN b).length) c24, .int .i64 4096]) (by simp [go_sem, sEv, sLook, nbeq, i64_w, -List.getD_eq_getElem?_getD]) (fnums_no w20 A23 c24 (UN b) _ _ hO22 (UN_bytes hb) (by omega) hn_) ?_
    rintro e_ w34 ⟨A37, c38, rfl, hO360, hb35⟩
    refine ⟨_, rfl, ?_⟩
    have hs_w34 := hb35.size
    have hO36 := OwnK.lower (base' := w.heap.size) (d := (Kd.int .i64)) hO360 (by omega)
    refine rv (.tuple #[.slice A37 ((NL (UN b)).length) c38, errT (some 3)]) ?_
    refine rz (.slice A37 ((NL (UN b)).length) c38) (by simp [go_sem, sEv, sLook, nbeq, i64_w, -List.getD_eq_getElem?_getD]) ?_
    refine rz (errT (some 3)) (by simp [go_sem, sEv, sLook, nbeq, i64_w, -List.getD_eq_getElem?_getD]) ?_
    refine rv (.slice A37 ((NL (UN b)).length) c38) ?_
    refine rv (errT (some 3)) ?_
    refine rw_end ?_
    refine w_weaken (G' := [(2, .pointer (some ⟨g1, 0, none⟩)), (3, .nilIface), (6, errT (some 3)), (7, .slice A37 ((NL (UN b)).length) c38)]) ⟨rfl, rfl, rfl, rfl, trivial⟩ ?_
    refine w_seq ?_
    refine w_seq ?_
    refine w_region ?_
    refine rv (errT (some 3)) ?_
    refine rz (.bool ((some 3).isSome)) (run_as (guard_err_neq _ (some 3) _)) ?_
    refine rw_end ?_
    have hq39 : ((some 3).isSome) = true := by rfl
    refine w_cond_t rfl rfl hq39 ?_
    refine w_seq ?_
    refine w_region ?_
    refine rz (.agg #[.int .i64 0, .int .i64 0, .int .i64 0, .slice none 0 0, .slice none 0 0, .slice none 0 0]) (by kernel_rfl) ?_
    refine rz (errT (some 4)) (by simp [go_sem, sEv, sLook, nbeq, i64_w, -List.getD_eq_getElem?_getD, errT]) ?_
    have hb43 := ((hk4.on hb21).on hb35)
    refine rw_store (g := g1) (i := 0) (l := [.int .i64 0, .int .i64 0, .int .i64 0, .slice none 0 0, .slice none 0 0, .slice none 0 0]) (cs' := #[.int .i64 0, .int .i64 0, .int .i64 0, .slice none 0 0, .slice none 0 0, .slice none 0 0]) rfl rfl rfl hb43 rfl (by have e0_ := hb43.cellv (i := 0) (v := (.int .i64 0 : Value)) rfl; have f0_ := hb43.frozen 0; have e1_ := hb43.cellv (i := 1) (v := (.int .i64 0 : Value)) rfl; have f1_ := hb43.frozen 1; have e2_ := hb43.cellv (i := 2) (v := (.int .i64 0 : Value)) rfl; have f2_ := hb43.frozen 2; have e3_ := hb43.cellv (i := 3) (v := (.slice none 0 0 : Value)) rfl; have f3_ := hb43.frozen 3; have e4_ := hb43.cellv (i := 4) (v := (.slice none 0 0 : Value)) rfl; have f4_ := hb43.frozen 4; have e5_ := hb43.cellv (i := 5) (v := (.slice none 0 0 : Value)) rfl; have f5_ := hb43.frozen 5; simp [go_sem, sEv, sLook, nbeq, i64_w, -List.getD_eq_getElem?_getD, putCells, e0_, f0_, e1_, f1_, e2_, f2_, e3_, f3_, e4_, f4_, e5_, f5_, Try.underlying26]) ?_
    intro w40 hk41 hk42
    have hs_w40 := hk41.size
    refine rv (errT (some 4)) ?_
    refine rw_end ?_
    refine w_weaken (G' := [(2, .pointer (some ⟨g1, 0, none⟩)), (3, errT (some 4)), (7, .slice A37 ((NL (UN b)).length) c38)]) ⟨rfl, rfl, rfl, trivial⟩ ?_
    refine w_ret (post_retct (v := .agg #[.int .i64 0, .int .i64 0, .int .i64 0, .slice none 0 0, .slice none 0 0, .slice none 0 0]) rfl rfl rfl (by have eb_ := hk42; have e0_ := eb_.cellv (i := 0) (v := (.int .i64 0 : Value)) rfl; have e1_ := eb_.cellv (i := 1) (v := (.int .i64 0 : Value)) rfl; have e2_ := eb_.cellv (i := 2) (v := (.int .i64 0 : Value)) rfl; have e3_ := eb_.cellv (i := 3) (v := (.slice none 0 0 : Value)) rfl; have e4_ := eb_.cellv (i := 4) (v := (.slice none 0 0 : Value)) rfl; have e5_ := eb_.cellv (i := 5) (v := (.slice none 0 0 : Value)) rfl; simp [go_sem, e0_, e1_, e2_, e3_, e4_, e5_, Try.underlying26]) ?_)
    rw [dec_bad b hw_ (by simpa using cU) hn_]
    exact ⟨_, _, _, _, _, _, rfl, OwnK.nil _ _ _ _ _, OwnK.nil _ _ _ _ _, OwnK.nil _ _ _ _ _, (hk41.below (by omega) (chain (chain hb3 hb21) hb35))⟩
   ·
    have hul_ := UN_le b
    refine rw_call rfl rfl rfl rfl (f := 37) (args := #[.slice A23 ((UN b).length) c24, .int .i64 4096]) (by simp [go_sem, sEv, sLook, nbeq, i64_w, -List.getD_eq_getElem?_getD]) (fnums_yes w20 A23 c24 (UN b) _ _ hO22 (UN_bytes hb) (by omega) hn_) ?_
    rintro e_ w44 ⟨A47, c48, rfl, hO460, hb45⟩
    refine ⟨_, rfl, ?_⟩
    have hs_w44 := hb45.size
    have hO46 := OwnK.lower (base' := w.heap.size) (d := (Kd.int .i64)) hO460 (by omega)
    refine rv (.tuple #[.slice A47 ((NL (UN b)).length) c48, .nilIface]) ?_
    refine rz (.slice A47 ((NL (UN b)).length) c48) (by simp [go_sem, sEv, sLook, nbeq, i64_w, -List.getD_eq_getElem?_getD]) ?_
    refine rz .nilIface (by simp [go_sem, sEv, sLook, nbeq, i64_w, -List.getD_eq_getElem?_getD]) ?_
    refine rv (.slice A47 ((NL (UN b)).length) c48) ?_
    refine rv .nilIface ?_
    refine rw_end ?_
    refine w_weaken (G' := [(2, .pointer (some ⟨g1, 0, none⟩)), (3, .nilIface), (6, .nilIface), (7, .slice A47 ((NL (UN b)).length) c48)]) ⟨rfl, rfl, rfl, rfl, trivial⟩ ?_
    refine w_seq ?_
    refine w_seq ?_
    refine w_region ?_
    refine rv .nilIface ?_
    refine rz (.bool ((none : Option Int).isSome)) (run_as (guard_err_neq _ (none : Option Int) _)) ?_
    refine rw_end ?_
    refine w_cond_f rfl rfl hq27 ?_
    refine w_skip ?_
    refine w_seq ?_
    refine w_region ?_
    refine rv (.slice A47 ((NL (UN b)).length) c48) ?_
    refine rz (.agg #[.slice A47 ((NL (UN b)).length) c48, .bool false]) (by kernel_rfl) ?_
    refine rw_new (cs := #[.slice A47 ((NL (UN b)).length) c48, .bool false]) (t := 90) (fun g => .pointer (some ⟨g, 0, none⟩)) rfl rfl rfl rfl (by simp [go_sem, sEv, sLook, nbeq, i64_w, -List.getD_eq_getElem?_getD]) ?_
    intro g49 w50 hg54 hz53 hb51 hk52
    have hs_w50 := hb51.size
    refine rv (.pointer (some ⟨g49, 0, none⟩)) ?_
    refine rw_end ?_
    refine w_weaken (G' := [(2, .pointer (some ⟨g1, 0, none⟩)), (3, .nilIface), (8, .pointer (some ⟨g49, 0, none⟩))]) ⟨rfl, rfl, rfl, trivial⟩ ?_
    refine w_seq ?_
    refine w_region ?_
    refine rv (.pointer (some ⟨g49, 0, none⟩)) ?_
    rcases hN_ : noteR (⟨NL (UN b), false⟩ : RS) with ⟨n9, s9⟩
    obtain ⟨hz3_, hz4_, hz5_⟩ := note_sz2 hN_
    have hnl_ := NL_4096 (UN b)
    have hlow_ := low_own (OwnK.on (d := (Kd.int .i64)) hO46 hb51)
    refine rw_call rfl rfl rfl rfl (f := 38) (args := #[.pointer (some ⟨g49, 0, none⟩)]) (by simp [go_sem, sEv, sLook, nbeq, i64_w, -List.getD_eq_getElem?_getD]) (note_k w44 w50 g49 (⟨NL (UN b), false⟩ : RS) n9 s9 hN_ hb51 (by omega) A47 c48 hk52 (rrow_own (OwnK.on (d := (Kd.int .i64)) hO46 hb51)) (fun ad_ e_ => hlow_ ad_ e_) (by show (NL (UN b)).length ≤ 100000; omega)) ?_
    rintro e_ w55 ⟨A62, c63, A64, c65, A66, c67, rfl, hO680, hO690, hO700, hrd57, hB56⟩
    refine ⟨_, rfl, ?_⟩
    obtain ⟨A58, c59, hb60, hr61⟩ := hrd57
    have hlt9_ := hb60.lt
    have hs_w55 := hB56.size
    have hO68 := OwnK.mono (b' := w44.heap.size) (d := (Kd.int .i64)) (OwnK.lower (base' := w.heap.size) (d := (Kd.int .i64)) hO680 (by omega)) (by omega)
    have hO69 := OwnK.mono (b' := w44.heap.size) (d := kOp) (OwnK.lower (base' := w.heap.size) (d := kOp) hO690 (by omega)) (by omega)
    have hO70 := OwnK.mono (b' := w44.heap.size) (d := kEntry) (OwnK.lower (base' := w.heap.size) (d := kEntry) hO700 (by omega)) (by omega)
    refine rw_new (cs := #[.int .i64 0, .int .i64 0, .int .i64 0, .slice none 0 0, .slice none 0 0, .slice none 0 0]) (t := 26) (fun g => .pointer (some ⟨g, 0, none⟩)) rfl rfl rfl rfl (by kernel_rfl) ?_
    intro g72 w73 hg77 hz76 hb74 hk75
    have hs_w73 := hb74.size
    have hb81 := hk75
    refine rw_store (g := g72) (i := 0) (l := [.int .i64 n9.kind, .int .i64 n9.fr, .int .i64 n9.tw, .slice A62 n9.nums.length c63, .slice A64 n9.ops.length c65, .slice A66 n9.ents.length c67]) (cs' := #[.int .i64 n9.kind, .int .i64 n9.fr, .int .i64 n9.tw, .slice A62 n9.nums.length c63, .slice A64 n9.ops.length c65, .slice A66 n9.ents.length c67]) rfl rfl rfl hb81 rfl (by have e0_ := hb81.cellv (i := 0) (v := (.int .i64 0 : Value)) rfl; have f0_ := hb81.frozen 0; have e1_ := hb81.cellv (i := 1) (v := (.int .i64 0 : Value)) rfl; have f1_ := hb81.frozen 1; have e2_ := hb81.cellv (i := 2) (v := (.int .i64 0 : Value)) rfl; have f2_ := hb81.frozen 2; have e3_ := hb81.cellv (i := 3) (v := (.slice none 0 0 : Value)) rfl; have f3_ := hb81.frozen 3; have e4_ := hb81.cellv (i := 4) (v := (.slice none 0 0 : Value)) rfl; have f4_ := hb81.frozen 4; have e5_ := hb81.cellv (i := 5) (v := (.slice none 0 0 : Value)) rfl; have f5_ := hb81.frozen 5; simp [go_sem, sEv, sLook, nbeq, i64_w, -List.getD_eq_getElem?_getD, putCells, e0_, f0_, e1_, f1_, e2_, f2_, e3_, f3_, e4_, f4_, e5_, f5_, Try.underlying26]) ?_
    intro w78 hk79 hk80
    have hs_w78 := hk79.size
    refine rw_end ?_
    refine w_weaken (G' := [(2, .pointer (some ⟨g1, 0, none⟩)), (3, .nilIface), (8, .pointer (some ⟨g49, 0, none⟩)), (9, .pointer (some ⟨g72, 0, none⟩))]) ⟨rfl, rfl, rfl, rfl, trivial⟩ ?_
    refine w_seq ?_
    refine w_seq ?_
    refine w_region ?_
    refine rv (.pointer (some ⟨g49, 0, none⟩)) ?_
    refine rz (.pointer (some ⟨g49, 0, none⟩)) (by simp [go_sem, sEv, sLook, nbeq, i64_w, -List.getD_eq_getElem?_getD]) ?_
    refine rz (.pointer (some ⟨g49, 1, none⟩)) (by simp [go_sem, sEv, sLook, nbeq, i64_w, -List.getD_eq_getElem?_getD, Try.underlying90]) ?_
    refine rz (.bool s9.bad) (by have eb_ := ((hb60.on hb74).keep hk79 (by omega)); have e0_ := eb_.cellv (i := 1) (v := (.bool s9.bad : Value)) rfl; simp [go_sem, sEv, sLook, nbeq, i64_w, -List.getD_eq_getElem?_getD, e0_]) ?_
    refine rv (.bool s9.bad) ?_
    rcases bcase s9.bad with cB | cB
    ·
     refine rw_on (c := s9.bad) rfl rfl rfl (by first | (rw [cB]; rfl) | simp [cB]) ?_
     refine rv (.pointer (some ⟨g49, 0, none⟩)) ?_
     refine rw_on (c := s9.bad) rfl rfl rfl (by first | (rw [cB]; rfl) | simp [cB]) ?_
     refine rz (.pointer (some ⟨g49, 0, none⟩)) (by simp [go_sem, sEv, sLook, nbeq, i64_w, -List.getD_eq_getElem?_getD]) ?_
     refine rw_on (c := s9.bad) rfl rfl rfl (by first | (rw [cB]; rfl) | simp [cB]) ?_
     refine rz (.pointer (some ⟨g49, 0, none⟩)) (by simp [go_sem, sEv, sLook, nbeq, i64_w, -List.getD_eq_getElem?_getD, Try.underlying90]) ?_
     refine rw_on (c := s9.bad) rfl rfl rfl (by first | (rw [cB]; rfl) | simp [cB]) ?_
     refine rz (.slice A58 s9.xs.length c59) (by have eb_ := ((hb60.on hb74).keep hk79 (by omega)); have e0_ := eb_.cellv (i := 0) (v := (.slice A58 s9.xs.length c59 : Value)) rfl; simp [go_sem, sEv, sLook, nbeq, i64_w, -List.getD_eq_getElem?_getD, e0_, Try.underlying22]) ?_
     refine rw_on (c := s9.bad) rfl rfl rfl (by first | (rw [cB]; rfl) | simp [cB]) ?_
     refine rz (.int .i64 ((s9.xs.length : Nat) : Int)) (by simp [go_sem, sEv, sLook, nbeq, i64_w, -List.getD_eq_getElem?_getD]) ?_
     refine rw_on (c := s9.bad) rfl rfl rfl (by first | (rw [cB]; rfl) | simp [cB]) ?_
     refine rz (.bool (decide (0 < ((s9.xs.length : Nat) : Int)))) (by simp [go_sem, sEv, sLook, nbeq, i64_w, -List.getD_eq_getElem?_getD]) ?_
     refine rz (.bool (decide (0 < ((s9.xs.length : Nat) : Int)))) (by first | (simp [go_sem, sEv, sLook, nbeq, i64_w, -List.getD_eq_getElem?_getD, cB]; done) | (rw [cB]; simp [go_sem, sEv, sLook, nbeq, i64_w, -List.getD_eq_getElem?_getD]; done) | (simp [go_sem, sEv, sLook, nbeq, i64_w, -List.getD_eq_getElem?_getD] <;> omega) | (simp [go_sem, sEv, sLook, nbeq, i64_w, -List.getD_eq_getElem?_getD]; intro h_; exact absurd (by omega) h_)) ?_
     refine rv (.bool (decide (0 < ((s9.xs.length : Nat) : Int)))) ?_
     rcases bcase (decide (0 < ((s9.xs.length : Nat) : Int))) with cL | cL
     ·
      have l82 : ¬ (0 < ((s9.xs.length : Nat) : Int)) := of_decide_eq_false cL
      refine rw_on (c := decide (0 < ((s9.xs.length : Nat) : Int))) rfl rfl rfl (by first | (rw [cL]; rfl) | simp [cL]) ?_
      refine rz (.agg #[.int .i64 n9.kind, .int .i64 n9.fr, .int .i64 n9.tw, .slice A62 n9.nums.length c63, .slice A64 n9.ops.length c65, .slice A66 n9.ents.length c67]) (by have eb_ := hk80; have e0_ := eb_.cellv (i := 0) (v := (.int .i64 n9.kind : Value)) rfl; have e1_ := eb_.cellv (i := 1) (v := (.int .i64 n9.fr : Value)) rfl; have e2_ := eb_.cellv (i := 2) (v := (.int .i64 n9.tw : Value)) rfl; have e3_ := eb_.cellv (i := 3) (v := (.slice A62 n9.nums.length c63 : Value)) rfl; have e4_ := eb_.cellv (i := 4) (v := (.slice A64 n9.ops.length c65 : Value)) rfl; have e5_ := eb_.cellv (i := 5) (v := (.slice A66 n9.ents.length c67 : Value)) rfl; simp [go_sem, sEv, sLook, nbeq, i64_w, -List.getD_eq_getElem?_getD, e0_, e1_, e2_, e3_, e4_, e5_, Try.underlying26]) ?_
      refine rw_on (c := decide (0 < ((s9.xs.length : Nat) : Int))) rfl rfl rfl (by first | (rw [cL]; rfl) | simp [cL]) ?_
      rcases hg_ : goodN n9 with _ | _
      ·
       refine rw_call rfl rfl rfl rfl (f := 15) (args := #[.agg #[.int .i64 n9.kind, .int .i64 n9.fr, .int .i64 n9.tw, .slice A62 n9.nums.length c63, .slice A64 n9.ops.length c65, .slice A66 n9.ents.length c67]]) (by simp [go_sem, sEv, sLook, nbeq, i64_w, -List.getD_eq_getElem?_getD]) (check_no w78 n9 A62 c63 A64 c65 A66 c67 (OwnK.C (d := (Kd.int .i64)) (own_keep (d := (Kd.int .i64)) (OwnK.on (d := (Kd.int .i64)) hO68 hb74) hk75 (by decide) hk79)) (OwnK.cap (d := (Kd.int .i64)) hO68) (OwnK.C (d := kOp) (own_keep (d := kOp) (OwnK.on (d := kOp) hO69 hb74) hk75 (by decide) hk79)) (OwnK.cap (d := kOp) hO69) (OwnK.C (d := kEntry) (own_keep (d := kEntry) (OwnK.on (d := kEntry) hO70 hb74) hk75 (by decide) hk79)) (OwnK.cap (d := kEntry) hO70) (by omega) (by omega) (by omega) hg_) ?_
       rintro e_ w83 ⟨rfl, hb84⟩
       refine ⟨_, rfl, ?_⟩
       have hs_w83 := hb84.size
       refine rw_on (c := decide (0 < ((s9.xs.length : Nat) : Int))) rfl rfl rfl (by first | (rw [cL]; rfl) | simp [cL]) ?_
       refine rz (.bool ((some 2).isSome)) (run_as (guard_err_neq _ (some 2) _)) ?_
       refine rz (.bool ((some 2).isSome)) (by first | (simp [go_sem, sEv, sLook, nbeq, i64_w, -List.getD_eq_getElem?_getD, cL]; done) | (rw [cL]; simp [go_sem, sEv, sLook, nbeq, i64_w, -List.getD_eq_getElem?_getD]; done) | (simp [go_sem, sEv, sLook, nbeq, i64_w, -List.getD_eq_getElem?_getD] <;> omega) | (simp [go_sem, sEv, sLook, nbeq, i64_w, -List.getD_eq_getElem?_getD]; intro h_; exact absurd (by omega) h_)) ?_
       refine rw_end ?_
       refine w_weaken (G' := [(2, .pointer (some ⟨g1, 0, none⟩)), (3, .nilIface), (9, .pointer (some ⟨g72, 0, none⟩)), (55, .bool ((some 2).isSome))]) ⟨rfl, rfl, rfl, rfl, trivial⟩ ?_
       have hq85 : ((some 2).isSome) = true := by rfl
       refine w_cond_t rfl rfl hq85 ?_
       refine w_seq ?_
       refine w_region ?_
       refine rz (.agg #[.int .i64 0, .int .i64 0, .int .i64 0, .slice none 0 0, .slice none 0 0, .slice none 0 0]) (by kernel_rfl) ?_
       refine rz (errT (some 4)) (by simp [go_sem, sEv, sLook, nbeq, i64_w, -List.getD_eq_getElem?_getD, errT]) ?_
       have hb89 := ((((((hk4.on hb21).on hb45).on hB56).on hb74).keep hk79 (by omega)).on hb84)
       refine rw_store (g := g1) (i := 0) (l := [.int .i64 0, .int .i64 0, .int .i64 0, .slice none 0 0, .slice none 0 0, .slice none 0 0]) (cs' := #[.int .i64 0, .int .i64 0, .int .i64 0, .slice none 0 0, .slice none 0 0, .slice none 0 0]) rfl rfl rfl hb89 rfl (by have e0_ := hb89.cellv (i := 0) (v := (.int .i64 0 : Value)) rfl; have f0_ := hb89.frozen 0; have e1_ := hb89.cellv (i := 1) (v := (.int .i64 0 : Value)) rfl; have f1_ := hb89.frozen 1; have e2_ := hb89.cellv (i := 2) (v := (.int .i64 0 : Value)) rfl; have f2_ := hb89.frozen 2; have e3_ := hb89.cellv (i := 3) (v := (.slice none 0 0 : Value)) rfl; have f3_ := hb89.frozen 3; have e4_ := hb89.cellv (i := 4) (v := (.slice none 0 0 : Value)) rfl; have f4_ := hb89.frozen 4; have e5_ := hb89.cellv (i := 5) (v := (.slice none 0 0 : Value)) rfl; have f5_ := hb89.frozen 5; simp [go_sem, sEv, sLook, nbeq, i64_w, -List.getD_eq_getElem?_getD, putCells, e0_, f0_, e1_, f1_, e2_, f2_, e3_, f3_, e4_, f4_, e5_, f5_, Try.underlying26]) ?_
       intro w86 hk87 hk88
       have hs_w86 := hk87.size
       refine rv (errT (some 4)) ?_
       refine rw_end ?_
       refine w_weaken (G' := [(2, .pointer (some ⟨g1, 0, none⟩)), (3, errT (some 4)), (9, .pointer (some ⟨g72, 0, none⟩))]) ⟨rfl, rfl, rfl, trivial⟩ ?_
       refine w_ret (post_retct (v := .agg #[.int .i64 0, .int .i64 0, .int .i64 0, .slice none 0 0, .slice none 0 0, .slice none 0 0]) rfl rfl rfl (by have eb_ := hk88; have e0_ := eb_.cellv (i := 0) (v := (.int .i64 0 : Value)) rfl; have e1_ := eb_.cellv (i := 1) (v := (.int .i64 0 : Value)) rfl; have e2_ := eb_.cellv (i := 2) (v := (.int .i64 0 : Value)) rfl; have e3_ := eb_.cellv (i := 3) (v := (.slice none 0 0 : Value)) rfl; have e4_ := eb_.cellv (i := 4) (v := (.slice none 0 0 : Value)) rfl; have e5_ := eb_.cellv (i := 5) (v := (.slice none 0 0 : Value)) rfl; simp [go_sem, e0_, e1_, e2_, e3_, e4_, e5_, Try.underlying26]) ?_)
       rw [dec_bad2 b hw_ (by simpa using cU) hn_ hN_ (by first | exact .inl (by simpa using cB) | exact .inr (.inl (by simpa using cL)) | exact .inr (.inr hg_))]
       exact ⟨_, _, _, _, _, _, rfl, OwnK.nil _ _ _ _ _, OwnK.nil _ _ _ _ _, OwnK.nil _ _ _ _ _, (hk87.below (by omega) (chain (hk79.below (by omega) (chain (chain (chain (chain hb3 hb21) hb45) hB56) hb74)) hb84))⟩
      ·
       refine rw_call rfl rfl rfl rfl (f := 15) (args := #[.agg #[.int .i64 n9.kind, .int .i64 n9.fr, .int .i64 n9.tw, .slice A62 n9.nums.length c63, .slice A64 n9.ops.length c65, .slice A66 n9.ents.length c67]]) (by simp [go_sem, sEv, sLook, nbeq, i64_w, -List.getD_eq_getElem?_getD]) (check_yes w78 n9 A62 c63 A64 c65 A66 c67 (OwnK.C (d := (Kd.int .i64)) (own_keep (d := (Kd.int .i64)) (OwnK.on (d := (Kd.int .i64)) hO68 hb74) hk75 (by decide) hk79)) (OwnK.cap (d := (Kd.int .i64)) hO68) (OwnK.C (d := kOp) (own_keep (d := kOp) (OwnK.on (d := kOp) hO69 hb74) hk75 (by decide) hk79)) (OwnK.cap (d := kOp) hO69) (OwnK.C (d := kEntry) (own_keep (d := kEntry) (OwnK.on (d := kEntry) hO70 hb74) hk75 (by decide) hk79)) (OwnK.cap (d := kEntry) hO70) (by omega) (by omega) (by omega) hg_) ?_
       rintro e_ w90 ⟨rfl, hb91⟩
       refine ⟨_, rfl, ?_⟩
       have hs_w90 := hb91.size
       refine rw_on (c := decide (0 < ((s9.xs.length : Nat) : Int))) rfl rfl rfl (by first | (rw [cL]; rfl) | simp [cL]) ?_
       refine rz (.bool ((none : Option Int).isSome)) (run_as (guard_err_neq _ (none : Option Int) _)) ?_
       refine rz (.bool ((none : Option Int).isSome)) (by first | (simp [go_sem, sEv, sLook, nbeq, i64_w, -List.getD_eq_getElem?_getD, cL]; done) | (rw [cL]; simp [go_sem, sEv, sLook, nbeq, i64_w, -List.getD_eq_getElem?_getD]; done) | (simp [go_sem, sEv, sLook, nbeq, i64_w, -List.getD_eq_getElem?_getD] <;> omega) | (simp [go_sem, sEv, sLook, nbeq, i64_w, -List.getD_eq_getElem?_getD]; intro h_; exact absurd (by omega) h_)) ?_
       refine rw_end ?_
       refine w_weaken (G' := [(2, .pointer (some ⟨g1, 0, none⟩)), (3, .nilIface), (9, .pointer (some ⟨g72, 0, none⟩)), (55, .bool ((none : Option Int).isSome))]) ⟨rfl, rfl, rfl, rfl, trivial⟩ ?_
       refine w_cond_f rfl rfl hq27 ?_
       refine w_skip ?_
       refine w_seq ?_
       refine w_region ?_
       refine rz (.agg #[.int .i64 n9.kind, .int .i64 n9.fr, .int .i64 n9.tw, .slice A62 n9.nums.length c63, .slice A64 n9.ops.length c65, .slice A66 n9.ents.length c67]) (by have eb_ := (hk80.on hb91); have e0_ := eb_.cellv (i := 0) (v := (.int .i64 n9.kind : Value)) rfl; have e1_ := eb_.cellv (i := 1) (v := (.int .i64 n9.fr : Value)) rfl; have e2_ := eb_.cellv (i := 2) (v := (.int .i64 n9.tw : Value)) rfl; have e3_ := eb_.cellv (i := 3) (v := (.slice A62 n9.nums.length c63 : Value)) rfl; have e4_ := eb_.cellv (i := 4) (v := (.slice A64 n9.ops.length c65 : Value)) rfl; have e5_ := eb_.cellv (i := 5) (v := (.slice A66 n9.ents.length c67 : Value)) rfl; simp [go_sem, sEv, sLook, nbeq, i64_w, -List.getD_eq_getElem?_getD, e0_, e1_, e2_, e3_, e4_, e5_, Try.underlying26]) ?_
       have hb95 := ((((((hk4.on hb21).on hb45).on hB56).on hb74).keep hk79 (by omega)).on hb91)
       refine rw_store (g := g1) (i := 0) (l := [.int .i64 n9.kind, .int .i64 n9.fr, .int .i64 n9.tw, .slice A62 n9.nums.length c63, .slice A64 n9.ops.length c65, .slice A66 n9.ents.length c67]) (cs' := #[.int .i64 n9.kind, .int .i64 n9.fr, .int .i64 n9.tw, .slice A62 n9.nums.length c63, .slice A64 n9.ops.length c65, .slice A66 n9.ents.length c67]) rfl rfl rfl hb95 rfl (by have e0_ := hb95.cellv (i := 0) (v := (.int .i64 0 : Value)) rfl; have f0_ := hb95.frozen 0; have e1_ := hb95.cellv (i := 1) (v := (.int .i64 0 : Value)) rfl; have f1_ := hb95.frozen 1; have e2_ := hb95.cellv (i := 2) (v := (.int .i64 0 : Value)) rfl; have f2_ := hb95.frozen 2; have e3_ := hb95.cellv (i := 3) (v := (.slice none 0 0 : Value)) rfl; have f3_ := hb95.frozen 3; have e4_ := hb95.cellv (i := 4) (v := (.slice none 0 0 : Value)) rfl; have f4_ := hb95.frozen 4; have e5_ := hb95.cellv (i := 5) (v := (.slice none 0 0 : Value)) rfl; have f5_ := hb95.frozen 5; simp [go_sem, sEv, sLook, nbeq, i64_w, -List.getD_eq_getElem?_getD, putCells, e0_, f0_, e1_, f1_, e2_, f2_, e3_, f3_, e4_, f4_, e5_, f5_, Try.underlying26]) ?_
       intro w92 hk93 hk94
       have hs_w92 := hk93.size
       refine rv .nilIface ?_
       refine rw_end ?_
       refine w_ret (post_retct (v := .agg #[.int .i64 n9.kind, .int .i64 n9.fr, .int .i64 n9.tw, .slice A62 n9.nums.length c63, .slice A64 n9.ops.length c65, .slice A66 n9.ents.length c67]) rfl rfl rfl (by have eb_ := hk94; have e0_ := eb_.cellv (i := 0) (v := (.int .i64 n9.kind : Value)) rfl; have e1_ := eb_.cellv (i := 1) (v := (.int .i64 n9.fr : Value)) rfl; have e2_ := eb_.cellv (i := 2) (v := (.int .i64 n9.tw : Value)) rfl; have e3_ := eb_.cellv (i := 3) (v := (.slice A62 n9.nums.length c63 : Value)) rfl; have e4_ := eb_.cellv (i := 4) (v := (.slice A64 n9.ops.length c65 : Value)) rfl; have e5_ := eb_.cellv (i := 5) (v := (.slice A66 n9.ents.length c67 : Value)) rfl; simp [go_sem, e0_, e1_, e2_, e3_, e4_, e5_, Try.underlying26]) ?_)
       rw [dec_ok b hw_ (by simpa using cU) hn_ hN_ (by simpa using cB) (by simpa using cL) hg_]
       exact ⟨_, _, _, _, _, _, rfl, (OwnK.mono (d := (Kd.int .i64)) (own_keep (d := (Kd.int .i64)) (OwnK.on (d := (Kd.int .i64)) (own_keep (d := (Kd.int .i64)) (OwnK.on (d := (Kd.int .i64)) hO68 hb74) hk75 (by decide) hk79) hb91) ((((((hk4.on hb21).on hb45).on hB56).on hb74).keep hk79 (by omega)).on hb91) (by decide) hk93) (by omega)), (OwnK.mono (d := kOp) (own_keep (d := kOp) (OwnK.on (d := kOp) (own_keep (d := kOp) (OwnK.on (d := kOp) hO69 hb74) hk75 (by decide) hk79) hb91) ((((((hk4.on hb21).on hb45).on hB56).on hb74).keep hk79 (by omega)).on hb91) (by decide) hk93) (by omega)), (OwnK.mono (d := kEntry) (own_keep (d := kEntry) (OwnK.on (d := kEntry) (own_keep (d := kEntry) (OwnK.on (d := kEntry) hO70 hb74) hk75 (by decide) hk79) hb91) ((((((hk4.on hb21).on hb45).on hB56).on hb74).keep hk79 (by omega)).on hb91) (by decide) hk93) (by omega)), (hk93.below (by omega) (chain (hk79.below (by omega) (chain (chain (chain (chain hb3 hb21) hb45) hB56) hb74)) hb91))⟩
     ·
      have l96 : (0 < ((s9.xs.length : Nat) : Int)) := of_decide_eq_true cL
      refine rw_off (c := decide (0 < ((s9.xs.length : Nat) : Int))) rfl rfl rfl (by first | (rw [cL]; rfl) | simp [cL]) rfl rfl ?_
      refine rw_off (c := decide (0 < ((s9.xs.length : Nat) : Int))) rfl rfl rfl (by first | (rw [cL]; rfl) | simp [cL]) rfl rfl ?_
      refine rw_off (c := decide (0 < ((s9.xs.length : Nat) : Int))) rfl rfl rfl (by first | (rw [cL]; rfl) | simp [cL]) rfl rfl ?_
      refine rz (.bool true) (by first | (simp [go_sem, sEv, sLook, nbeq, i64_w, -List.getD_eq_getElem?_getD, cL]; done) | (rw [cL]; simp [go_sem, sEv, sLook, nbeq, i64_w, -List.getD_eq_getElem?_getD]; done) | (simp [go_sem, sEv, sLook, nbeq, i64_w, -List.getD_eq_getElem?_getD] <;> omega) | (simp [go_sem, sEv, sLook, nbeq, i64_w, -List.getD_eq_getElem?_getD]; intro h_; exact absurd (by omega) h_)) ?_
      refine rw_end ?_
      refine w_weaken (G' := [(2, .pointer (some ⟨g1, 0, none⟩)), (3, .nilIface), (9, .pointer (some ⟨g72, 0, none⟩)), (55, .bool true)]) ⟨rfl, rfl, rfl, rfl, trivial⟩ ?_
      refine w_cond_t rfl rfl rfl ?_
      refine w_seq ?_
      refine w_region ?_
      refine rz (.agg #[.int .i64 0, .int .i64 0, .int .i64 0, .slice none 0 0, .slice none 0 0, .slice none 0 0]) (by kernel_rfl) ?_
      refine rz (errT (some 4)) (by simp [go_sem, sEv, sLook, nbeq, i64_w, -List.getD_eq_getElem?_getD, errT]) ?_
      have hb100 := (((((hk4.on hb21).on hb45).on hB56).on hb74).keep hk79 (by omega))
      refine rw_store (g := g1) (i := 0) (l := [.int .i64 0, .int .i64 0, .int .i64 0, .slice none 0 0, .slice none 0 0, .slice none 0 0]) (cs' := #[.int .i64 0, .int .i64 0, .int .i64 0, .slice none 0 0, .slice none 0 0, .slice none 0 0]) rfl rfl rfl hb100 rfl (by have e0_ := hb100.cellv (i := 0) (v := (.int .i64 0 : Value)) rfl; have f0_ := hb100.frozen 0; have e1_ := hb100.cellv (i := 1) (v := (.int .i64 0 : Value)) rfl; have f1_ := hb100.frozen 1; have e2_ := hb100.cellv (i := 2) (v := (.int .i64 0 : Value)) rfl; have f2_ := hb100.frozen 2; have e3_ := hb100.cellv (i := 3) (v := (.slice none 0 0 : Value)) rfl; have f3_ := hb100.frozen 3; have e4_ := hb100.cellv (i := 4) (v := (.slice none 0 0 : Value)) rfl; have f4_ := hb100.frozen 4; have e5_ := hb100.cellv (i := 5) (v := (.slice none 0 0 : Value)) rfl; have f5_ := hb100.frozen 5; simp [go_sem, sEv, sLook, nbeq, i64_w, -List.getD_eq_getElem?_getD, putCells, e0_, f0_, e1_, f1_, e2_, f2_, e3_, f3_, e4_, f4_, e5_, f5_, Try.underlying26]) ?_
      intro w97 hk98 hk99
      have hs_w97 := hk98.size
      refine rv (errT (some 4)) ?_
      refine rw_end ?_
      refine w_weaken (G' := [(2, .pointer (some ⟨g1, 0, none⟩)), (3, errT (some 4)), (9, .pointer (some ⟨g72, 0, none⟩))]) ⟨rfl, rfl, rfl, trivial⟩ ?_
      refine w_ret (post_retct (v := .agg #[.int .i64 0, .int .i64 0, .int .i64 0, .slice none 0 0, .slice none 0 0, .slice none 0 0]) rfl rfl rfl (by have eb_ := hk99; have e0_ := eb_.cellv (i := 0) (v := (.int .i64 0 : Value)) rfl; have e1_ := eb_.cellv (i := 1) (v := (.int .i64 0 : Value)) rfl; have e2_ := eb_.cellv (i := 2) (v := (.int .i64 0 : Value)) rfl; have e3_ := eb_.cellv (i := 3) (v := (.slice none 0 0 : Value)) rfl; have e4_ := eb_.cellv (i := 4) (v := (.slice none 0 0 : Value)) rfl; have e5_ := eb_.cellv (i := 5) (v := (.slice none 0 0 : Value)) rfl; simp [go_sem, e0_, e1_, e2_, e3_, e4_, e5_, Try.underlying26]) ?_)
      rw [dec_bad2 b hw_ (by simpa using cU) hn_ hN_ (by first | exact .inl (by simpa using cB) | exact .inr (.inl (by simpa using cL)) | exact .inr (.inr hg_))]
      exact ⟨_, _, _, _, _, _, rfl, OwnK.nil _ _ _ _ _, OwnK.nil _ _ _ _ _, OwnK.nil _ _ _ _ _, (hk98.below (by omega) (hk79.below (by omega) (chain (chain (chain (chain hb3 hb21) hb45) hB56) hb74)))⟩
    ·
     refine rw_off (c := s9.bad) rfl rfl rfl (by first | (rw [cB]; rfl) | simp [cB]) rfl rfl ?_
     refine rw_off (c := s9.bad) rfl rfl rfl (by first | (rw [cB]; rfl) | simp [cB]) rfl rfl ?_
     refine rw_off (c := s9.bad) rfl rfl rfl (by first | (rw [cB]; rfl) | simp [cB]) rfl rfl ?_
     refine rw_off (c := s9.bad) rfl rfl rfl (by first | (rw [cB]; rfl) | simp [cB]) rfl rfl ?_
     refine rw_off (c := s9.bad) rfl rfl rfl (by first | (rw [cB]; rfl) | simp [cB]) rfl rfl ?_
     refine rw_off (c := s9.bad) rfl rfl rfl (by first | (rw [cB]; rfl) | simp [cB]) rfl rfl ?_
     refine rz (.bool true) (by first | (simp [go_sem, sEv, sLook, nbeq, i64_w, -List.getD_eq_getElem?_getD, cB]; done) | (rw [cB]; simp [go_sem, sEv, sLook, nbeq, i64_w, -List.getD_eq_getElem?_getD]; done) | (simp [go_sem, sEv, sLook, nbeq, i64_w, -List.getD_eq_getElem?_getD] <;> omega) | (simp [go_sem, sEv, sLook, nbeq, i64_w, -List.getD_eq_getElem?_getD]; intro h_; exact absurd (by omega) h_)) ?_
     refine rv (.bool true) ?_
     refine rw_off (c := true) rfl rfl rfl rfl rfl rfl ?_
     refine rw_off (c := true) rfl rfl rfl rfl rfl rfl ?_
     refine rw_off (c := true) rfl rfl rfl rfl rfl rfl ?_
     refine rz (.bool true) (by simp [go_sem, sEv, sLook, nbeq, i64_w, -List.getD_eq_getElem?_getD]) ?_
     refine rw_end ?_
     refine w_weaken (G' := [(2, .pointer (some ⟨g1, 0, none⟩)), (3, .nilIface), (9, .pointer (some ⟨g72, 0, none⟩)), (55, .bool true)]) ⟨rfl, rfl, rfl, rfl, trivial⟩ ?_
     refine w_cond_t rfl rfl rfl ?_
     refine w_seq ?_
     refine w_region ?_
     refine rz (.agg #[.int .i64 0, .int .i64 0, .int .i64 0, .slice none 0 0, .slice none 0 0, .slice none 0 0]) (by kernel_rfl) ?_
     refine rz (errT (some 4)) (by simp [go_sem, sEv, sLook, nbeq, i64_w, -List.getD_eq_getElem?_getD, errT]) ?_
     have hb104 := (((((hk4.on hb21).on hb45).on hB56).on hb74).keep hk79 (by omega))
     refine rw_store (g := g1) (i := 0) (l := [.int .i64 0, .int .i64 0, .int .i64 0, .slice none 0 0, .slice none 0 0, .slice none 0 0]) (cs' := #[.int .i64 0, .int .i64 0, .int .i64 0, .slice none 0 0, .slice none 0 0, .slice none 0 0]) rfl rfl rfl hb104 rfl (by have e0_ := hb104.cellv (i := 0) (v := (.int .i64 0 : Value)) rfl; have f0_ := hb104.frozen 0; have e1_ := hb104.cellv (i := 1) (v := (.int .i64 0 : Value)) rfl; have f1_ := hb104.frozen 1; have e2_ := hb104.cellv (i := 2) (v := (.int .i64 0 : Value)) rfl; have f2_ := hb104.frozen 2; have e3_ := hb104.cellv (i := 3) (v := (.slice none 0 0 : Value)) rfl; have f3_ := hb104.frozen 3; have e4_ := hb104.cellv (i := 4) (v := (.slice none 0 0 : Value)) rfl; have f4_ := hb104.frozen 4; have e5_ := hb104.cellv (i := 5) (v := (.slice none 0 0 : Value)) rfl; have f5_ := hb104.frozen 5; simp [go_sem, sEv, sLook, nbeq, i64_w, -List.getD_eq_getElem?_getD, putCells, e0_, f0_, e1_, f1_, e2_, f2_, e3_, f3_, e4_, f4_, e5_, f5_, Try.underlying26]) ?_
     intro w101 hk102 hk103
     have hs_w101 := hk102.size
     refine rv (errT (some 4)) ?_
     refine rw_end ?_
     refine w_weaken (G' := [(2, .pointer (some ⟨g1, 0, none⟩)), (3, errT (some 4)), (9, .pointer (some ⟨g72, 0, none⟩))]) ⟨rfl, rfl, rfl, trivial⟩ ?_
     refine w_ret (post_retct (v := .agg #[.int .i64 0, .int .i64 0, .int .i64 0, .slice none 0 0, .slice none 0 0, .slice none 0 0]) rfl rfl rfl (by have eb_ := hk103; have e0_ := eb_.cellv (i := 0) (v := (.int .i64 0 : Value)) rfl; have e1_ := eb_.cellv (i := 1) (v := (.int .i64 0 : Value)) rfl; have e2_ := eb_.cellv (i := 2) (v := (.int .i64 0 : Value)) rfl; have e3_ := eb_.cellv (i := 3) (v := (.slice none 0 0 : Value)) rfl; have e4_ := eb_.cellv (i := 4) (v := (.slice none 0 0 : Value)) rfl; have e5_ := eb_.cellv (i := 5) (v := (.slice none 0 0 : Value)) rfl; simp [go_sem, e0_, e1_, e2_, e3_, e4_, e5_, Try.underlying26]) ?_)
     rw [dec_bad2 b hw_ (by simpa using cU) hn_ hN_ (by first | exact .inl (by simpa using cB) | exact .inr (.inl (by simpa using cL)) | exact .inr (.inr hg_))]
     exact ⟨_, _, _, _, _, _, rfl, OwnK.nil _ _ _ _ _, OwnK.nil _ _ _ _ _, OwnK.nil _ _ _ _ _, (hk102.below (by omega) (hk79.below (by omega) (chain (chain (chain (chain hb3 hb21) hb45) hB56) hb74)))⟩
end Go.Proofs.Ytbbhdohjhipalaa.Ce
end
section
namespace Go.Proofs.Ytbbhdohjhipalaa.Ce
open Go.RowKit Go.Proofs.YtbbhdohjhipalaaW.PrintWords Go.Proofs.YtbbhdohjhipalaaW.PrintLast Go.Proofs.YtbbhdohjhipalaaW.PrintMore
open Go.Proofs.Ytbbhdohjhipalaa.Flow Go.Proofs.Ytbbhdohjhipalaa.PNoteReads
set_option linter.unusedVariables false
set_option maxRecDepth 100000
def n0 : NT := ⟨4, 3, 1, [7, 2, 1, 0], [], []⟩
theorem good0 : goodN n0 = true := by decide +kernel
theorem list0 : listN n0 = [4, 3, 1, 4, 7, 2, 1, 0, 0, 0] := by rfl
theorem pb0 : PB (listN n0) = [1, 8, 1, 6, 1, 2, 1, 8, 1, 14, 1, 4, 1, 2, 0, 0, 0] := by rw [list0]; decide +kernel
theorem ee0 : EE n0 = none := by rw [(eb_yes good0).2, pb0]; rfl
theorem eb0_len : (EB n0).length = 25 := by rw [(eb_yes good0).1, pb0]; decide +kernel
theorem bytes0 : Bytes (EB n0) := by
  rw [(eb_yes good0).1, pb0]
  have h : ∀ x ∈ frameB [1, 8, 1, 6, 1, 2, 1, 8, 1, 14, 1, 4, 1, 2, 0, 0, 0], 0 ≤ x ∧ x < 256 := by decide +kernel
  exact h
theorem i64_0 : ∀ y ∈ listN n0, I64 y := by
  rw [list0]
  have h : ∀ y ∈ ([4, 3, 1, 4, 7, 2, 1, 0, 0, 0] : List Int), -9223372036854775808 ≤ y ∧ y ≤ 9223372036854775807 := by decide +kernel
  exact h
theorem dec0 : decN (EB n0) = (n0, none) := by
  have e1 : wholeP (EB n0) = 25 := by rw [(eb_yes good0).1, pb0]; decide +kernel
  have e2 : UN (EB n0) = [1, 8, 1, 6, 1, 2, 1, 8, 1, 14, 1, 4, 1, 2, 0, 0, 0] := by unfold UN; rw [e1, (eb_yes good0).1, pb0]; decide +kernel
  have e3 : (UR (EB n0)).length = 0 := by unfold UR; rw [e1, (eb_yes good0).1, pb0]; decide +kernel
  have e4 : NO (UN (EB n0)) = true := by rw [e2]; decide +kernel
  have e5 : NL (UN (EB n0)) = [4, 3, 1, 4, 7, 2, 1, 0, 0, 0] := by rw [e2]; decide +kernel
  have e6 : noteR ⟨NL (UN (EB n0)), false⟩ = (n0, ⟨[], false⟩) := by rw [e5]; rfl
  exact dec_ok _ (by omega) e3 e4 e6 rfl rfl good0
end Go.Proofs.Ytbbhdohjhipalaa.Ce
end
section
namespace Go.Proofs.Ytbbhdohjhipalaa.Ce
open Go.RowKit Go.Proofs.YtbbhdohjhipalaaW.PrintWords Go.Proofs.YtbbhdohjhipalaaW.PrintLast Go.Proofs.YtbbhdohjhipalaaW.PrintMore
open Go.Proofs.Ytbbhdohjhipalaa.Flow
open Go.Proofs.Ytbbhdohjhipalaa.PNoteReads
set_option linter.unusedVariables false
set_option linter.unusedSimpArgs false
theorem enc_0 (w : World) (A3 : Option Addr) (c3 : Nat) (hn3 : (Kd.int .i64).C w A3 4 [7, 2, 1, 0]) (hc3 : 4 ≤ c3) : Calls Try.prog 12 #[.agg #[.int .i64 4, .int .i64 3, .int .i64 1, .slice A3 4 c3, .slice none 0 0, .slice none 0 0]] w fun e w' => ∃ A' c', e = .returned (.tuple #[.slice A' (EB n0).length c', .nilIface]) ∧ OwnK (Kd.int .u8) 5 w' w.heap.size w.heap.size A' (EB n0).length c' (EB n0) ∧ Below w.heap.size w w' := by
  have h := enc_calls w n0 A3 c3 none 0 none 0 hn3 hc3 (C_nilK kOp w none) (Nat.le_refl 0) (C_nilK kEntry w none) (Nat.le_refl 0) (by decide) (by decide) (by decide) i64_0
  rw [ee0] at h
  exact h
theorem dec_0 (w : World) (A0 : Option Addr) (c0 : Nat) (hC : (Kd.int .u8).C w A0 (EB n0).length (EB n0)) (hc : (EB n0).length ≤ c0) : Calls Try.prog 19 #[.slice A0 (EB n0).length c0] w fun e w' => ∃ A3 c3 A4 c4 A5 c5, e = .returned (.tuple #[.agg #[.int .i64 4, .int .i64 3, .int .i64 1, .slice A3 4 c3, .slice A4 0 c4, .slice A5 0 c5], .nilIface]) ∧ OwnK (Kd.int .i64) 3 w' w.heap.size w.heap.size A3 4 c3 [7, 2, 1, 0] ∧ Below w.heap.size w w' := by
  have h := dec_calls w A0 c0 (EB n0) hC hc bytes0 (by rw [eb0_len]; decide)
  rw [dec0] at h
  refine h.mono ?_
  rintro e w' ⟨A3, c3, A4, c4, A5, c5, rfl, h1, h2, h3, h4⟩
  exact ⟨A3, c3, A4, c4, A5, c5, rfl, h1, h4⟩
set_option maxHeartbeats 4000000 in
theorem alive_calls (w : World) :
  Calls Try.prog 9 #[] w fun e w' => e = .returned (.bool true) ∧ Below w.heap.size w w' := by
 refine calls_flow Try.func9 rfl 52 rfl (Nat.le_of_ble_eq_true rfl) [] ?_ ?_
 ·
  intro t v h; exact args_look rfl t v h
 refine w_seq ?_
 refine w_region ?_
 refine rv (.bool false) ?_
 refine rw_end ?_
 refine w_seq ?_
 refine w_region ?_
 refine rw_new (cs := #[.int .i64 7, .int .i64 2, .int .i64 1, .int .i64 0]) (t := 3) (fun g => .slice (some ⟨g, 0, none⟩) 4 4) rfl rfl rfl rfl (by kernel_rfl) ?_
 intro g1 w2 hg6 hz5 hb3 hk4
 have hs_w2 := hb3.size
 have hk4r : OwnK (Kd.int .i64) 3 w2 w.heap.size g1 (some ⟨g1, 0, none⟩) 4 4 ([7, 2, 1, 0] : List Int) := scal_own w.heap.size hk4 (by omega) rfl rfl (by simp)
 refine rz (.agg #[.int .i64 4, .int .i64 3, .int .i64 1, .slice (some ⟨g1, 0, none⟩) 4 4, .slice none 0 0, .slice none 0 0]) (by kernel_rfl) ?_
 refine rw_new (cs := #[.int .i64 0, .int .i64 0, .int .i64 0, .slice none 0 0, .slice none 0 0, .slice none 0 0]) (t := 26) (fun g => .pointer (some ⟨g, 0, none⟩)) rfl rfl rfl rfl (by kernel_rfl) ?_
 intro g7 w8 hg12 hz11 hb9 hk10
 have hs_w8 := hb9.size
 have hb16 := hk10
 refine rw_store (g := g7) (i := 0) (l := [.int .i64 4, .int .i64 3, .int .i64 1, .slice (some ⟨g1, 0, none⟩) 4 4, .slice none 0 0, .slice none 0 0]) (cs' := #[.int .i64 4, .int .i64 3, .int .i64 1, .slice (some ⟨g1, 0, none⟩) 4 4, .slice none 0 0, .slice none 0 0]) rfl rfl rfl hb16 rfl (by have e0_ := hb16.cellv (i := 0) (v := (.int .i64 0 : Value)) rfl; have f0_ := hb16.frozen 0; have e1_ := hb16.cellv (i := 1) (v := (.int .i64 0 : Value)) rfl; have f1_ := hb16.frozen 1; have e2_ := hb16.cellv (i := 2) (v := (.int .i64 0 : Value)) rfl; have f2_ := hb16.frozen 2; have e3_ := hb16.cellv (i := 3) (v := (.slice none 0 0 : Value)) rfl; have f3_ := hb16.frozen 3; have e4_ := hb16.cellv (i := 4) (v := (.slice none 0 0 : Value)) rfl; have f4_ := hb16.frozen 4; have e5_ := hb16.cellv (i := 5) (v := (.slice none 0 0 : Value)) rfl; have f5_ := hb16.frozen 5; simp [go_sem, sEv, sLook, nbeq, i64_w, -List.getD_eq_getElem?_getD, putCells, e0_, f0_, e1_, f1_, e2_, f2_, e3_, f3_, e4_, f4_, e5_, f5_, Try.underlying26]) ?_
 intro w13 hk14 hk15
 have hs_w13 := hk14.size
 refine rw_end ?_
 refine w_weaken (G' := [(0, .bool false), (1, .pointer (some ⟨g7, 0, none⟩))]) ⟨rfl, rfl, trivial⟩ ?_
 refine w_seq ?_
 refine w_region ?_
 refine rz (.agg #[.int .i64 4, .int .i64 3, .int .i64 1, .slice (some ⟨g1, 0, none⟩) 4 4, .slice none 0 0, .slice none 0 0]) (by have eb_ := hk15; have e0_ := eb_.cellv (i := 0) (v := (.int .i64 4 : Value)) rfl; have e1_ := eb_.cellv (i := 1) (v := (.int .i64 3 : Value)) rfl; have e2_ := eb_.cellv (i := 2) (v := (.int .i64 1 : Value)) rfl; have e3_ := eb_.cellv (i := 3) (v := (.slice (some ⟨g1, 0, none⟩) 4 4 : Value)) rfl; have e4_ := eb_.cellv (i := 4) (v := (.slice none 0 0 : Value)) rfl; have e5_ := eb_.cellv (i := 5) (v := (.slice none 0 0 : Value)) rfl; simp [go_sem, sEv, sLook, nbeq, i64_w, -List.getD_eq_getElem?_getD, e0_, e1_, e2_, e3_, e4_, e5_, Try.underlying26]) ?_
 refine rw_call rfl rfl rfl rfl (f := 12) (args := #[.agg #[.int .i64 4, .int .i64 3, .int .i64 1, .slice (some ⟨g1, 0, none⟩) 4 4, .slice none 0 0, .slice none 0 0]]) (by simp [go_sem, sEv, sLook, nbeq, i64_w, -List.getD_eq_getElem?_getD]) (enc_0 w13 (some ⟨g1, 0, none⟩) 4 (OwnK.C (d := (Kd.int .i64)) (own_keep (d := (Kd.int .i64)) (OwnK.on (d := (Kd.int .i64)) hk4r hb9) hk10 (by decide) hk14)) (by decide)) ?_
 rintro e_ w17 ⟨A19, c20, rfl, hO210, hb18⟩
 refine ⟨_, rfl, ?_⟩
 have hs_w17 := hb18.size
 have hO21 := OwnK.lower (base' := w.heap.size) (d := (Kd.int .u8)) hO210 (by omega)
 have hl0_ := eb0_len
 refine rv (.tuple #[.slice A19 ((EB n0).length) c20, .nilIface]) ?_
 refine rz (.slice A19 ((EB n0).length) c20) (by simp [go_sem, sEv, sLook, nbeq, i64_w, -List.getD_eq_getElem?_getD]) ?_
 refine rz .nilIface (by simp [go_sem, sEv, sLook, nbeq, i64_w, -List.getD_eq_getElem?_getD]) ?_
 refine rv (.slice A19 ((EB n0).length) c20) ?_
 refine rv .nilIface ?_
 refine rw_end ?_
 refine w_weaken (G' := [(0, .bool false), (2, .slice A19 ((EB n0).length) c20), (3, .nilIface)]) ⟨rfl, rfl, rfl, trivial⟩ ?_
 refine w_seq ?_
 refine w_region ?_
 refine rv (.slice A19 ((EB n0).length) c20) ?_
 refine rw_call rfl rfl rfl rfl (f := 19) (args := #[.slice A19 ((EB n0).length) c20]) (by simp [go_sem, sEv, sLook, nbeq, i64_w, -List.getD_eq_getElem?_getD]) (dec_0 w17 A19 c20 (OwnK.C (d := (Kd.int .u8)) hO21) (OwnK.cap (d := (Kd.int .u8)) hO21)) ?_
 rintro e_ w22 ⟨A25, c26, A27, c28, A29, c30, rfl, hO240, hb23⟩
 refine ⟨_, rfl, ?_⟩
 have hs_w22 := hb23.size
 have hO24 := OwnK.lower (base' := w.heap.size) (d := (Kd.int .i64)) hO240 (by omega)
 refine rv (.tuple #[.agg #[.int .i64 4, .int .i64 3, .int .i64 1, .slice A25 4 c26, .slice A27 0 c28, .slice A29 0 c30], .nilIface]) ?_
 refine rz (.agg #[.int .i64 4, .int .i64 3, .int .i64 1, .slice A25 4 c26, .slice A27 0 c28, .slice A29 0 c30]) (by simp [go_sem, sEv, sLook, nbeq, i64_w, -List.getD_eq_getElem?_getD]) ?_
 refine rz .nilIface (by simp [go_sem, sEv, sLook, nbeq, i64_w, -List.getD_eq_getElem?_getD]) ?_
 refine rw_new (cs := #[.int .i64 0, .int .i64 0, .int .i64 0, .slice none 0 0, .slice none 0 0, .slice none 0 0]) (t := 26) (fun g => .pointer (some ⟨g, 0, none⟩)) rfl rfl rfl rfl (by kernel_rfl) ?_
 intro g31 w32 hg36 hz35 hb33 hk34
 have hs_w32 := hb33.size
 have hb40 := hk34
 refine rw_store (g := g31) (i := 0) (l := [.int .i64 4, .int .i64 3, .int .i64 1, .slice A25 4 c26, .slice A27 0 c28, .slice A29 0 c30]) (cs' := #[.int .i64 4, .int .i64 3, .int .i64 1, .slice A25 4 c26, .slice A27 0 c28, .slice A29 0 c30]) rfl rfl rfl hb40 rfl (by have e0_ := hb40.cellv (i := 0) (v := (.int .i64 0 : Value)) rfl; have f0_ := hb40.frozen 0; have e1_ := hb40.cellv (i := 1) (v := (.int .i64 0 : Value)) rfl; have f1_ := hb40.frozen 1; have e2_ := hb40.cellv (i := 2) (v := (.int .i64 0 : Value)) rfl; have f2_ := hb40.frozen 2; have e3_ := hb40.cellv (i := 3) (v := (.slice none 0 0 : Value)) rfl; have f3_ := hb40.frozen 3; have e4_ := hb40.cellv (i := 4) (v := (.slice none 0 0 : Value)) rfl; have f4_ := hb40.frozen 4; have e5_ := hb40.cellv (i := 5) (v := (.slice none 0 0 : Value)) rfl; have f5_ := hb40.frozen 5; simp [go_sem, sEv, sLook, nbeq, i64_w, -List.getD_eq_getElem?_getD, putCells, e0_, f0_, e1_, f1_, e2_, f2_, e3_, f3_, e4_, f4_, e5_, f5_, Try.underlying26]) ?_
 intro w37 hk38 hk39
 have hs_w37 := hk38.size
 refine rv .nilIface ?_
 refine rw_end ?_
 refine w_weaken (G' := [(0, .bool false), (2, .slice A19 ((EB n0).length) c20), (3, .nilIface), (4, .pointer (some ⟨g31, 0, none⟩)), (5, .nilIface)]) ⟨rfl, rfl, rfl, rfl, rfl, trivial⟩ ?_
 refine w_seq ?_
 refine w_region ?_
 refine rv .nilIface ?_
 refine rz (.bool ((none : Option Int).isNone)) (run_as (guard_err_eq0 _ (none : Option Int) _)) ?_
 refine rv (.bool ((none : Option Int).isNone)) ?_
 have hq41 : ((none : Option Int).isNone) = true := by rfl
 refine rw_on (c := (none : Option Int).isNone) rfl rfl rfl (by first | (rw [hq41]; rfl) | simp [hq41]) ?_
 refine rv .nilIface ?_
 refine rw_on (c := (none : Option Int).isNone) rfl rfl rfl (by first | (rw [hq41]; rfl) | simp [hq41]) ?_
 refine rz (.bool ((none : Option Int).isNone)) (run_as (guard_err_eq0 _ (none : Option Int) _)) ?_
 refine rz (.bool ((none : Option Int).isNone)) (by first | (simp [go_sem, sEv, sLook, nbeq, i64_w, -List.getD_eq_getElem?_getD, hq41]; done) | (rw [hq41]; simp [go_sem, sEv, sLook, nbeq, i64_w, -List.getD_eq_getElem?_getD]; done) | (simp [go_sem, sEv, sLook, nbeq, i64_w, -List.getD_eq_getElem?_getD] <;> omega) | (simp [go_sem, sEv, sLook, nbeq, i64_w, -List.getD_eq_getElem?_getD]; intro h_; exact absurd (by omega) h_)) ?_
 refine rv (.bool ((none : Option Int).isNone)) ?_
 refine rw_on (c := (none : Option Int).isNone) rfl rfl rfl (by first | (rw [hq41]; rfl) | simp [hq41]) ?_
 refine rv (.slice A19 ((EB n0).length) c20) ?_
 refine rw_on (c := (none : Option Int).isNone) rfl rfl rfl (by first | (rw [hq41]; rfl) | simp [hq41]) ?_
 refine rz (.int .i64 (((EB n0).length : Nat) : Int)) (by simp [go_sem, sEv, sLook, nbeq, i64_w, -List.getD_eq_getElem?_getD]) ?_
 refine rw_on (c := (none : Option Int).isNone) rfl rfl rfl (by first | (rw [hq41]; rfl) | simp [hq41]) ?_
 refine rz (.bool (decide (8 < (((EB n0).length : Nat) : Int)))) (by simp [go_sem, sEv, sLook, nbeq, i64_w, -List.getD_eq_getElem?_getD]) ?_
 refine rz (.bool (decide (8 < (((EB n0).length : Nat) : Int)))) (by first | (simp [go_sem, sEv, sLook, nbeq, i64_w, -List.getD_eq_getElem?_getD, hq41]; done) | (rw [hq41]; simp [go_sem, sEv, sLook, nbeq, i64_w, -List.getD_eq_getElem?_getD]; done) | (simp [go_sem, sEv, sLook, nbeq, i64_w, -List.getD_eq_getElem?_getD] <;> omega) | (simp [go_sem, sEv, sLook, nbeq, i64_w, -List.getD_eq_getElem?_getD]; intro h_; exact absurd (by omega) h_)) ?_
 refine rv (.bool (decide (8 < (((EB n0).length : Nat) : Int)))) ?_
 rcases bcase (decide (8 < (((EB n0).length : Nat) : Int))) with c42 | c42
 ·
  have l43 : ¬ (8 < (((EB n0).length : Nat) : Int)) := of_decide_eq_false c42
  refine rw_off (c := decide (8 < (((EB n0).length : Nat) : Int))) rfl rfl rfl (by first | (rw [c42]; rfl) | simp [c42]) rfl rfl ?_
  refine rw_off (c := decide (8 < (((EB n0).length : Nat) : Int))) rfl rfl rfl (by first | (rw [c42]; rfl) | simp [c42]) rfl rfl ?_
  refine rw_off (c := decide (8 < (((EB n0).length : Nat) : Int))) rfl rfl rfl (by first | (rw [c42]; rfl) | simp [c42]) rfl rfl ?_
  refine rz (.bool false) (by first | (simp [go_sem, sEv, sLook, nbeq, i64_w, -List.getD_eq_getElem?_getD, c42]; done) | (rw [c42]; simp [go_sem, sEv, sLook, nbeq, i64_w, -List.getD_eq_getElem?_getD]; done) | (simp [go_sem, sEv, sLook, nbeq, i64_w, -List.getD_eq_getElem?_getD] <;> omega) | (simp [go_sem, sEv, sLook, nbeq, i64_w, -List.getD_eq_getElem?_getD]; intro h_; exact absurd (by omega) h_)) ?_
  refine rv (.bool false) ?_
  refine rw_off (c := false) rfl rfl rfl rfl rfl rfl ?_
  refine rw_off (c := false) rfl rfl rfl rfl rfl rfl ?_
  refine rw_off (c := false) rfl rfl rfl rfl rfl rfl ?_
  refine rz (.bool false) (by simp [go_sem, sEv, sLook, nbeq, i64_w, -List.getD_eq_getElem?_getD]) ?_
  refine rv (.bool false) ?_
  refine rw_off (c := false) rfl rfl rfl rfl rfl rfl ?_
  refine rw_off (c := false) rfl rfl rfl rfl rfl rfl ?_
  refine rw_off (c := false) rfl rfl rfl rfl rfl rfl ?_
  refine rw_off (c := false) rfl rfl rfl rfl rfl rfl ?_
  refine rz (.bool false) (by simp [go_sem, sEv, sLook, nbeq, i64_w, -List.getD_eq_getElem?_getD]) ?_
  refine rv (.bool false) ?_
  refine rw_off (c := false) rfl rfl rfl rfl rfl rfl ?_
  refine rw_off (c := false) rfl rfl rfl rfl rfl rfl ?_
  refine rw_off (c := false) rfl rfl rfl rfl rfl rfl ?_
  refine rw_off (c := false) rfl rfl rfl rfl rfl rfl ?_
  refine rw_off (c := false) rfl rfl rfl rfl rfl rfl ?_
  refine rz (.bool false) (by simp [go_sem, sEv, sLook, nbeq, i64_w, -List.getD_eq_getElem?_getD]) ?_
  refine rv (.bool false) ?_
  refine rw_end ?_
  refine w_weaken (G' := [(0, .bool false)]) ⟨rfl, trivial⟩ ?_
  refine w_ret (post_ret1 rfl rfl ?_)
  exact ⟨by first | rfl | (exfalso; simp_all; done) | simp_all, (hk38.below (by omega) (chain (chain (chain (hk14.below (by omega) (chain hb3 hb9)) hb18) hb23) hb33))⟩
 ·
  have l44 : (8 < (((EB n0).length : Nat) : Int)) := of_decide_eq_true c42
  refine rw_on (c := decide (8 < (((EB n0).length : Nat) : Int))) rfl rfl rfl (by first | (rw [c42]; rfl) | simp [c42]) ?_
  refine rz (.pointer (some ⟨g31, 0, none⟩)) (by simp [go_sem, sEv, sLook, nbeq, i64_w, -List.getD_eq_getElem?_getD, Try.underlying26]) ?_
  refine rw_on (c := decide (8 < (((EB n0).length : Nat) : Int))) rfl rfl rfl (by first | (rw [c42]; rfl) | simp [c42]) ?_
  refine rz (.int .i64 4) (by have eb_ := hk39; have e0_ := eb_.cellv (i := 0) (v := (.int .i64 4 : Value)) rfl; simp [go_sem, sEv, sLook, nbeq, i64_w, -List.getD_eq_getElem?_getD, e0_]) ?_
  refine rw_on (c := decide (8 < (((EB n0).length : Nat) : Int))) rfl rfl rfl (by first | (rw [c42]; rfl) | simp [c42]) ?_
  refine rz (.bool true) (by simp [go_sem, sEv, sLook, nbeq, i64_w, -List.getD_eq_getElem?_getD]) ?_
  refine rz (.bool true) (by first | (simp [go_sem, sEv, sLook, nbeq, i64_w, -List.getD_eq_getElem?_getD, c42]; done) | (rw [c42]; simp [go_sem, sEv, sLook, nbeq, i64_w, -List.getD_eq_getElem?_getD]; done) | (simp [go_sem, sEv, sLook, nbeq, i64_w, -List.getD_eq_getElem?_getD] <;> omega) | (simp [go_sem, sEv, sLook, nbeq, i64_w, -List.getD_eq_getElem?_getD]; intro h_; exact absurd (by omega) h_)) ?_
  refine rv (.bool true) ?_
  refine rw_on (c := true) rfl rfl rfl rfl ?_
  refine rz (.pointer (some ⟨g31, 1, none⟩)) (by simp [go_sem, sEv, sLook, nbeq, i64_w, -List.getD_eq_getElem?_getD, Try.underlying26]) ?_
  refine rw_on (c := true) rfl rfl rfl rfl ?_
  refine rz (.int .i64 3) (by have eb_ := hk39; have e0_ := eb_.cellv (i := 1) (v := (.int .i64 3 : Value)) rfl; simp [go_sem, sEv, sLook, nbeq, i64_w, -List.getD_eq_getElem?_getD, e0_]) ?_
  refine rw_on (c := true) rfl rfl rfl rfl ?_
  refine rz (.bool true) (by simp [go_sem, sEv, sLook, nbeq, i64_w, -List.getD_eq_getElem?_getD]) ?_
  refine rz (.bool true) (by simp [go_sem, sEv, sLook, nbeq, i64_w, -List.getD_eq_getElem?_getD]) ?_
  refine rv (.bool true) ?_
  refine rw_on (c := true) rfl rfl rfl rfl ?_
  refine rz (.pointer (some ⟨g31, 3, none⟩)) (by simp [go_sem, sEv, sLook, nbeq, i64_w, -List.getD_eq_getElem?_getD, Try.underlying26]) ?_
  refine rw_on (c := true) rfl rfl rfl rfl ?_
  refine rz (.slice A25 4 c26) (by have eb_ := hk39; have e0_ := eb_.cellv (i := 3) (v := (.slice A25 4 c26 : Value)) rfl; simp [go_sem, sEv, sLook, nbeq, i64_w, -List.getD_eq_getElem?_getD, e0_, Try.underlying22]) ?_
  refine rw_on (c := true) rfl rfl rfl rfl ?_
  refine rz (.int .i64 4) (by simp [go_sem, sEv, sLook, nbeq, i64_w, -List.getD_eq_getElem?_getD]) ?_
  refine rw_on (c := true) rfl rfl rfl rfl ?_
  refine rz (.bool true) (by simp [go_sem, sEv, sLook, nbeq, i64_w, -List.getD_eq_getElem?_getD]) ?_
  refine rz (.bool true) (by simp [go_sem, sEv, sLook, nbeq, i64_w, -List.getD_eq_getElem?_getD]) ?_
  refine rv (.bool true) ?_
  refine rw_on (c := true) rfl rfl rfl rfl ?_
  refine rz (.pointer (some ⟨g31, 3, none⟩)) (by simp [go_sem, sEv, sLook, nbeq, i64_w, -List.getD_eq_getElem?_getD, Try.underlying26]) ?_
  refine rw_on (c := true) rfl rfl rfl rfl ?_
  refine rz (.slice A25 4 c26) (by have eb_ := hk39; have e0_ := eb_.cellv (i := 3) (v := (.slice A25 4 c26 : Value)) rfl; simp [go_sem, sEv, sLook, nbeq, i64_w, -List.getD_eq_getElem?_getD, e0_, Try.underlying22]) ?_
  refine rw_on (c := true) rfl rfl rfl rfl ?_
  obtain ⟨g48, rfl⟩ := OwnK.adr (d := (Kd.int .i64)) hO24 (by first | omega | decide)
  obtain ⟨ad45, hA46, hc47⟩ := int_at (OwnK.C (d := (Kd.int .i64)) (own_keep (d := (Kd.int .i64)) (OwnK.on (d := (Kd.int .i64)) hO24 hb33) hk34 (by decide) hk38)) 0 0 (by first | omega | decide)
  obtain rfl := Option.some.inj hA46
  have he49 : w37.cell? ⟨g48, 0, none⟩ = some (.int .i64 (([7, 2, 1, 0] : List Int).getD 0 0)) := cell_g (hc47 0 _ rfl) (by first | rfl | (show 0 * 1 + 0 = 0; omega) | omega)
  refine rz (.pointer (some ⟨g48, 0, none⟩)) (run_as (run_at_z (P := Try.prog) (e := 3) (sz := 1) (by kernel_rfl) (by kernel_rfl)  (by first | omega | decide) _)) ?_
  refine rw_on (c := true) rfl rfl rfl rfl ?_
  refine rz (.int .i64 (([7, 2, 1, 0] : List Int).getD 0 0)) (by have e0_ := cellOn he49 (Below.refl _ _); simp [go_sem, sEv, sLook, nbeq, i64_w, -List.getD_eq_getElem?_getD, e0_]) ?_
  refine rw_on (c := true) rfl rfl rfl rfl ?_
  refine rz (.bool ((([7, 2, 1, 0] : List Int).getD 0 0) == 7)) (by simp [go_sem, sEv, sLook, nbeq, i64_w, -List.getD_eq_getElem?_getD]) ?_
  refine rz (.bool ((([7, 2, 1, 0] : List Int).getD 0 0) == 7)) (by simp [go_sem, sEv, sLook, nbeq, i64_w, -List.getD_eq_getElem?_getD]) ?_
  refine rv (.bool ((([7, 2, 1, 0] : List Int).getD 0 0) == 7)) ?_
  refine rw_end ?_
  refine w_weaken (G' := [(0, .bool ((([7, 2, 1, 0] : List Int).getD 0 0) == 7))]) ⟨rfl, trivial⟩ ?_
  refine w_ret (post_ret1 rfl rfl ?_)
  exact ⟨by first | rfl | (exfalso; simp_all; done) | simp_all, (hk38.below (by omega) (chain (chain (chain (hk14.below (by omega) (chain hb3 hb9)) hb18) hb23) hb33))⟩
end Go.Proofs.Ytbbhdohjhipalaa.Ce
end
