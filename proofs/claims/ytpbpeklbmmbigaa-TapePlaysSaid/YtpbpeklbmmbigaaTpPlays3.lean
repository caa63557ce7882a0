/- A tape under any calls: the law's walk. -/
import Derived.Test.YtpbpeklbmmbigaaTpPlays2
namespace Go.Proofs.Ytpbpeklbmmbigaa.Tp
open Go.RowKit Go.Proofs.YtpbpeklbmmbigaaW.PrintWords Go.Proofs.YtpbpeklbmmbigaaW.PrintLast Go.Proofs.YtpbpeklbmmbigaaW.PrintMore
open Go.Proofs.Ytpbpeklbmmbigaa.Flow
set_option linter.unusedVariables false
set_option linter.unusedSimpArgs false


theorem mem_getD {α : Type} (l : List α) (j : Nat) (z : α) (h : j < l.length) : l.getD j z ∈ l := by
  rw [List.getD_eq_getElem?_getD, List.getElem?_eq_getElem h]
  exact List.getElem_mem h
set_option maxHeartbeats 4000000 in
theorem walkPlays (w : World) (A1 : Option Addr) (c1 : Nat) (sc : List (Int × List Int × Int)) (hsc : (Kd.pair (Kd.int .i64) (Kd.pair (Kd.slice 5 (Kd.int .u8)) (Kd.int .i64))).C w A1 sc.length sc) (hcs : sc.length ≤ c1) (hln : sc.length ≤ 140737488355328) (hnn : ∀ o ∈ sc, o.2.2 ≤ 9223372036854775807) :
    Calls Try.prog 8 #[.slice A1 sc.length c1] w fun e w' => e = .returned (.bool true) ∧ Below w.heap.size w w' := by
  refine calls_flow Try.func8 rfl 84 rfl (Nat.le_of_ble_eq_true rfl) [(0, .slice A1 sc.length c1)] ?_ ?_
  · intro t v h; exact args_look rfl t v h
  refine w_seq ?_
  refine w_region ?_
  refine rw_val (v := .bool false) (w' := w) rfl rfl rfl rfl rfl ?_
  refine rw_end ?_
  refine w_seq ?_
  refine w_seq ?_
  refine w_region ?_
  refine rw_call rfl rfl rfl rfl (f := 10) (args := #[]) (by simp [go_sem, sEv, sLook, nbeq, i64_w, -List.getD_eq_getElem?_getD]) (alive_calls w) ?_
  rintro e_ w1 ⟨rfl, hb2⟩
  refine ⟨_, rfl, ?_⟩
  have hs_w1 := hb2.size
  refine rw_val (v := .bool false) (w' := w1) rfl rfl rfl rfl (by simp [go_sem, sEv, sLook, nbeq, i64_w, -List.getD_eq_getElem?_getD]) ?_
  refine rw_end ?_
  refine w_cond_f rfl rfl rfl ?_
  refine w_skip ?_
  refine w_seq ?_
  refine w_seq ?_
  refine w_region ?_
  refine rw_val (v := .slice A1 sc.length c1) (w' := w1) rfl rfl rfl rfl rfl ?_
  refine rw_call rfl rfl rfl rfl (f := 25) (args := #[.slice A1 sc.length c1]) (by simp [go_sem, sEv, sLook, nbeq, i64_w, -List.getD_eq_getElem?_getD]) (long_calls w1 A1 c1 sc (Kd.C_below hsc hb2) hcs hln) ?_
  rintro e_ w3 ⟨bl, rfl, hlg, hb4⟩
  refine ⟨_, rfl, ?_⟩
  have hs_w3 := hb4.size
  refine rw_end ?_
  refine w_cond rfl rfl (fun cB => ?_) (fun cB => ?_)
  · refine w_seq ?_
    refine w_region ?_
    refine rw_val (v := .bool true) (w' := w3) rfl rfl rfl rfl rfl ?_
    refine rw_end ?_
    refine w_ret (post_ret1 rfl rfl ?_)
    exact ⟨rfl, (chain hb2 hb4)⟩
  · refine w_skip ?_
    refine w_seq ?_
    refine w_region ?_
    have hlg_ := hlg cB
    have hlg1_ := hlg_.1
    refine rw_call rfl rfl rfl rfl (f := 11) (args := #[]) (by simp [go_sem, sEv, sLook, nbeq, i64_w, -List.getD_eq_getElem?_getD]) (new_T w3) ?_
    rintro e_ w5 ⟨g, rfl, hT6, hs7⟩
    refine ⟨_, rfl, ?_⟩
    have hT6o : TapeAt w w5 g w5.heap.size (fun _ => False) TS.start := new_on (chain hb2 hb4) hT6
    have hz_w5 := hT6o.size
    refine rw_val (v := .agg #[.string (⟨#[]⟩ : ByteArray), .string (⟨#[]⟩ : ByteArray), .int .i64 0, .bool false, .bool false, .int .i64 0, .int .i64 0, .bool false]) (w' := w5) rfl rfl rfl rfl (by kernel_rfl) ?_
    refine rw_new (cs := #[.string (⟨#[]⟩ : ByteArray), .string (⟨#[]⟩ : ByteArray), .int .i64 0, .bool false, .bool false, .int .i64 0, .int .i64 0, .bool false]) (t := 51) (fun g => .pointer (some ⟨g, 0, none⟩)) rfl rfl rfl rfl (by simp [go_sem, sEv, sLook, nbeq, i64_w, -List.getD_eq_getElem?_getD]) ?_
    intro u w8 hg12 hz11 hb9 hk10
    have hs_w8 := hb9.size
    have hku : Blk w8 u 51 (rcells ⟨[], [], 0, false, false, 0, 0, false⟩) := hk10
    have hTu : TapeAt w w8 g w5.heap.size (fun q => q = u) TS.start := TapeAt.hole (TapeAt.on hT6o hb9) _ (fun q h1_ h2_ h3_ e_ => by have e2_ : q = u := e_; omega)
    refine rw_val (v := .pointer (some ⟨g, 0, none⟩)) (w' := w8) rfl rfl rfl rfl rfl ?_
    refine rw_val (v := .pointer (some ⟨u, 0, none⟩)) (w' := w8) rfl rfl rfl rfl rfl ?_
    refine rw_end ?_
    refine w_weaken (G' := [(0, .slice A1 sc.length c1), (2, .bool false), (3, .pointer (some ⟨g, 0, none⟩)), (4, .pointer (some ⟨u, 0, none⟩))]) ⟨rfl, rfl, rfl, rfl, trivial⟩ ?_
    refine w_seq ?_
    refine w_seq ?_
    refine w_region ?_
    refine rw_val (v := .slice A1 sc.length c1) (w' := w8) rfl rfl rfl rfl rfl ?_
    refine rw_val (v := .int .i64 ((sc.length : Nat) : Int)) (w' := w8) rfl rfl rfl rfl (by simp [go_sem, sEv, sLook, nbeq, i64_w, -List.getD_eq_getElem?_getD]) ?_
    refine rw_val (v := .int .i64 0) (w' := w8) rfl rfl rfl rfl rfl ?_
    refine rw_end ?_
    refine w_block ?_
    refine w_loop (fun m_ G W_ => ∃ (j : Nat) (m : Nat) (s : TS) (r : RS), j + m_ = sc.length ∧ Below w.heap.size w W_ ∧ (TapeAt w W_ g m (fun q => q = u) s ∧ s.Ok ∧ s.steps ≤ ((j : Nat) : Int) ∧ Rel s r ∧ r.Ok ∧ Blk W_ u 51 (rcells r)) ∧ G = [(3, .pointer (some ⟨g, 0, none⟩)), (4, .pointer (some ⟨u, 0, none⟩)), (15, .slice A1 sc.length c1), (16, .int .i64 ((sc.length : Nat) : Int)), (17, .int .i64 ((j : Nat) : Int))]) sc.length [(3, .pointer (some ⟨g, 0, none⟩)), (4, .pointer (some ⟨u, 0, none⟩)), (15, .slice A1 sc.length c1), (16, .int .i64 ((sc.length : Nat) : Int)), (17, .int .i64 0)] ⟨0, w5.heap.size, TS.start, ⟨[], [], 0, false, false, 0, 0, false⟩, by omega, (chain hT6o.1 hb9), ⟨hTu, ⟨by decide, by decide, by decide, by decide, by decide⟩, by decide, ⟨rfl, rfl, rfl, rfl, rfl, rfl, (fun h_ => by cases h_), (fun h_ => by cases h_)⟩, ⟨by decide, by decide, by decide, by decide⟩, hku⟩, rfl⟩ ⟨rfl, rfl, rfl, rfl, rfl, trivial⟩ ?_
    rintro m_ G w_L13 ⟨j, m, s, r, hp14, hB_L13, hf15, rfl⟩
    have hs_w_L13 := hB_L13.size
    obtain ⟨hT_, hok_, h9_, hrel_, hro_, hbu_⟩ := hf15
    have hz_ := hT_.size
    have hlu_ := hbu_.lt
    obtain ⟨hst_, hl_, hu_, hn_⟩ := hro_
    refine w_seq ?_
    refine w_region ?_
    refine rw_val (v := .bool (decide (((j : Nat) : Int) < ((sc.length : Nat) : Int)))) (w' := w_L13) rfl rfl rfl rfl (by simp [go_sem, sEv, sLook, nbeq, i64_w, -List.getD_eq_getElem?_getD]) ?_
    refine rw_end ?_
    refine w_seq ?_
    refine w_cond rfl rfl (fun cJ => ?_) (fun cJ => ?_)
    · have l16 : (((j : Nat) : Int) < ((sc.length : Nat) : Int)) := of_decide_eq_true cJ
      refine w_skip ?_
      refine w_seq ?_
      refine w_block ?_
      refine w_seq ?_
      refine w_region ?_
      obtain ⟨ad17, hA18, A20, c21, hle22, hC23, hc19⟩ := ops_at hsc j (by first | omega | decide)
      subst hA18
      have he24 : w.cell? (ad17.add (j * 3)) = some (.int .i64 ((sc.getD j ((0, [], 0) : Int × List Int × Int)).1)) := cell_0 (hc19 0 _ rfl)
      have he25 : w.cell? ⟨(ad17.add (j * 3)).block, (ad17.add (j * 3)).off + 1, none⟩ = some (.slice A20 ((sc.getD j ((0, [], 0) : Int × List Int × Int)).2.1.length) c21) := cell_j (hc19 1 _ rfl)
      have he26 : w.cell? ⟨(ad17.add (j * 3)).block, (ad17.add (j * 3)).off + 2, none⟩ = some (.int .i64 ((sc.getD j ((0, [], 0) : Int × List Int × Int)).2.2)) := cell_j (hc19 2 _ rfl)
      refine rw_val (v := .pointer (some (ad17.add (j * 3)))) (w' := w_L13) rfl rfl rfl rfl (run_as (run_at_k (P := Try.prog) (e := 53) (sz := 3) (by kernel_rfl) (by kernel_rfl) j (by first | omega | decide) _)) ?_
      refine rw_val (v := .agg #[.int .i64 ((sc.getD j ((0, [], 0) : Int × List Int × Int)).1), .slice A20 ((sc.getD j ((0, [], 0) : Int × List Int × Int)).2.1.length) c21, .int .i64 ((sc.getD j ((0, [], 0) : Int × List Int × Int)).2.2)]) (w' := w_L13) rfl rfl rfl rfl (by have e0_ := cellOn he24 hB_L13; have e1_ := cellOn he25 hB_L13; have e2_ := cellOn he26 hB_L13; simp [go_sem, sEv, sLook, nbeq, i64_w, -List.getD_eq_getElem?_getD, e0_, e1_, e2_, Try.underlying53]) ?_
      refine rw_new (cs := #[.int .i64 0, .slice none 0 0, .int .i64 0]) (t := 53) (fun g => .pointer (some ⟨g, 0, none⟩)) rfl rfl rfl rfl (by kernel_rfl) ?_
      intro g27 w28 hg32 hz31 hb29 hk30
      have hs_w28 := hb29.size
      have hb36 := hk30
      refine rw_store (g := g27) (i := 0) (l := [.int .i64 ((sc.getD j ((0, [], 0) : Int × List Int × Int)).1), .slice A20 ((sc.getD j ((0, [], 0) : Int × List Int × Int)).2.1.length) c21, .int .i64 ((sc.getD j ((0, [], 0) : Int × List Int × Int)).2.2)]) (cs' := #[.int .i64 ((sc.getD j ((0, [], 0) : Int × List Int × Int)).1), .slice A20 ((sc.getD j ((0, [], 0) : Int × List Int × Int)).2.1.length) c21, .int .i64 ((sc.getD j ((0, [], 0) : Int × List Int × Int)).2.2)]) rfl rfl rfl hb36 rfl (by have e0_ := hb36.cellv (i := 0) (v := (.int .i64 0 : Value)) rfl; have f0_ := hb36.frozen 0; have e1_ := hb36.cellv (i := 1) (v := (.slice none 0 0 : Value)) rfl; have f1_ := hb36.frozen 1; have e2_ := hb36.cellv (i := 2) (v := (.int .i64 0 : Value)) rfl; have f2_ := hb36.frozen 2; simp [go_sem, sEv, sLook, nbeq, i64_w, -List.getD_eq_getElem?_getD, putCells, e0_, f0_, e1_, f1_, e2_, f2_, Try.underlying53]) ?_
      intro w33 hk34 hk35
      have hs_w33 := hk34.size
      refine rw_end ?_
      refine w_weaken (G' := [(3, .pointer (some ⟨g, 0, none⟩)), (4, .pointer (some ⟨u, 0, none⟩)), (6, .pointer (some ⟨g27, 0, none⟩)), (15, .slice (some ad17) sc.length c1), (16, .int .i64 ((sc.length : Nat) : Int)), (17, .int .i64 ((j : Nat) : Int))]) ⟨rfl, rfl, rfl, rfl, rfl, rfl, trivial⟩ ?_
      refine w_seq ?_
      refine w_seq ?_
      have hj_ : (sc.getD j ((0, [], 0) : Int × List Int × Int)) ∈ sc := mem_getD sc j ((0, [], 0) : Int × List Int × Int) (by omega)
      have hbl_ := hlg_.2 _ hj_
      have hnn_ := hnn _ hj_
      obtain ⟨s9, hs9_⟩ : ∃ x, x = (s.play (sc.getD j ((0, [], 0) : Int × List Int × Int)).1 (sc.getD j ((0, [], 0) : Int × List Int × Int)).2.1 (sc.getD j ((0, [], 0) : Int × List Int × Int)).2.2) := ⟨_, rfl⟩
      obtain ⟨r9, hr9_⟩ : ∃ x, x = (r.play (sc.getD j ((0, [], 0) : Int × List Int × Int)).1 (sc.getD j ((0, [], 0) : Int × List Int × Int)).2.1 (sc.getD j ((0, [], 0) : Int × List Int × Int)).2.2) := ⟨_, rfl⟩
      have hpl_ : s9.Ok ∧ s9.steps ≤ s.steps + 1 := by rw [hs9_]; exact TS.play_ok hok_ (by omega) (sc.getD j ((0, [], 0) : Int × List Int × Int)).1 (sc.getD j ((0, [], 0) : Int × List Int × Int)).2.1 (sc.getD j ((0, [], 0) : Int × List Int × Int)).2.2 hnn_
      have hrp_ : Rel s9 r9 := by rw [hs9_, hr9_]; exact hrel_.play hok_ (sc.getD j ((0, [], 0) : Int × List Int × Int)).1 (sc.getD j ((0, [], 0) : Int × List Int × Int)).2.1 (sc.getD j ((0, [], 0) : Int × List Int × Int)).2.2
      have hrk_ : r9.Ok := by rw [hr9_]; exact RS.play_ok hrel_ hok_ (by omega) ⟨hst_, hl_, hu_, hn_⟩ (sc.getD j ((0, [], 0) : Int × List Int × Int)).1 (sc.getD j ((0, [], 0) : Int × List Int × Int)).2.1 (sc.getD j ((0, [], 0) : Int × List Int × Int)).2.2 hnn_
      refine w_drawm (M := [0, 0, 0, 7, 15, 31, 63, 127, 63, 319, 831, 1855, 3903, 8191, 16383, 32767, 65535, 131071, 65535, 327679, 851967, 1900543, 4194303, 8388607, 16777215, 33554431, 67108863, 33554431, 167772159, 436207615, 973078527, 2147483647, 4294967295]) (ss := [Is (.pointer (some ⟨g, 0, none⟩)), Is (.pointer (some ⟨u, 0, none⟩)), Is (.agg #[.int .i64 ((sc.getD j ((0, [], 0) : Int × List Int × Int)).1), .slice A20 ((sc.getD j ((0, [], 0) : Int × List Int × Int)).2.1.length) c21, .int .i64 ((sc.getD j ((0, [], 0) : Int × List Int × Int)).2.2)]), Is (.bool true), Is (.bool false), Is (.bool false), Is (.pointer (some ⟨g, 0, none⟩)), Is (.int .i64 s9.sure), Is (.pointer (some ⟨u, 0, none⟩)), Is (.pointer (some ⟨u, 0, none⟩)), Is (.pointer (some ⟨u, 0, none⟩)), Is (.string (strOfNums r9.S)), Is (.int .i64 ((r9.S.length : Nat) : Int)), Is (.bool (s9.sure != ((r9.S.length : Nat) : Int))), Is (.bool (s9.sure != ((r9.S.length : Nat) : Int))), Is (.bool (s9.sure != ((r9.S.length : Nat) : Int))), Is (.pointer (some ⟨g, 0, none⟩)), Is (.int .i64 s9.steps), Is (.pointer (some ⟨u, 0, none⟩)), Is (.pointer (some ⟨u, 0, none⟩)), Is (.pointer (some ⟨u, 2, none⟩)), Is (.int .i64 r9.st), Is (.bool (s9.steps != r9.st)), Is (.bool (s9.steps != r9.st)), Is (.bool (s9.steps != r9.st)), Is (.pointer (some ⟨g, 0, none⟩)), Is (.bool s9.dn), Is (.pointer (some ⟨u, 0, none⟩)), Is (.pointer (some ⟨u, 0, none⟩)), Is (.pointer (some ⟨u, 7, none⟩)), Is (.bool r9.d)]) (fun q => q = u ∨ SX g m (fun q => q = u) q) 3 (fun W_ => TapeAt w W_ g m (fun q => q = u) s ∧ Blk W_ u 51 (rcells r)) (fun W_ => (∃ m_, TapeAt w W_ g m_ (fun q => q = u) s9) ∧ Blk W_ u 51 (rcells r9)) 31 rfl (by decide +kernel) (stab_cons stab_is (stab_cons stab_is (stab_cons stab_is (stab_cons stab_is (stab_cons stab_is (stab_cons stab_is (stab_cons stab_is (stab_cons stab_is (stab_cons stab_is (stab_cons stab_is (stab_cons stab_is (stab_cons stab_is (stab_cons stab_is (stab_cons stab_is (stab_cons stab_is (stab_cons stab_is (stab_cons stab_is (stab_cons stab_is (stab_cons stab_is (stab_cons stab_is (stab_cons stab_is (stab_cons stab_is (stab_cons stab_is (stab_cons stab_is (stab_cons stab_is (stab_cons stab_is (stab_cons stab_is (stab_cons stab_is (stab_cons stab_is (stab_cons stab_is (stab_cons stab_is stab_nil))))))))))))))))))))))))))))))) (fun _ _ hb_ h_ => ⟨TapeAt.on h_.1 hb_, h_.2.on hb_⟩) (fun _ _ hb_ h_ => ⟨Exists.elim h_.1 (fun m_ h_ => ⟨m_, TapeAt.on h_ hb_⟩), h_.2.on hb_⟩) ⟨(TapeAt.on (TapeAt.growFar (TapeAt.on hT_ hb29) (Grow.ofK hk34) (by omega)) (below_drew _)), (((hbu_.on hb29).keep hk34 (by omega)).on (below_drew _))⟩ ?_
      refine u_is (by kernel_rfl) (.pointer (some ⟨g, 0, none⟩)) rfl rfl rfl rfl (fun W_ hW_ h1_ F_ => rfl) ?_
      refine u_is (by kernel_rfl) (.pointer (some ⟨u, 0, none⟩)) rfl rfl rfl rfl (fun W_ hW_ h1_ F_ => rfl) ?_
      refine u_is (by kernel_rfl) (.agg #[.int .i64 ((sc.getD j ((0, [], 0) : Int × List Int × Int)).1), .slice A20 ((sc.getD j ((0, [], 0) : Int × List Int × Int)).2.1.length) c21, .int .i64 ((sc.getD j ((0, [], 0) : Int × List Int × Int)).2.2)]) rfl rfl rfl rfl (fun W_ hW_ h1_ F_ => by have eb_ := (Blk.kept hk35 (drew_kept hW_) (fun e_ => Or.elim e_ (fun e_ => by omega) (sx_young (n := w_L13.heap.size) (by omega) (by omega) _ (by omega)))); have e0_ := eb_.cellv (i := 0) (v := (.int .i64 ((sc.getD j ((0, [], 0) : Int × List Int × Int)).1) : Value)) rfl; have e1_ := eb_.cellv (i := 1) (v := (.slice A20 ((sc.getD j ((0, [], 0) : Int × List Int × Int)).2.1.length) c21 : Value)) rfl; have e2_ := eb_.cellv (i := 2) (v := (.int .i64 ((sc.getD j ((0, [], 0) : Int × List Int × Int)).2.2) : Value)) rfl; simp [go_sem, sEv, sLook, nbeq, i64_w, -List.getD_eq_getElem?_getD, e0_, e1_, e2_, Try.underlying53]) ?_
      refine u_mut (Is (.bool true)) (f := 26) (args := #[.pointer (some ⟨g, 0, none⟩), .pointer (some ⟨u, 0, none⟩), .agg #[.int .i64 ((sc.getD j ((0, [], 0) : Int × List Int × Int)).1), .slice A20 ((sc.getD j ((0, [], 0) : Int × List Int × Int)).2.1.length) c21, .int .i64 ((sc.getD j ((0, [], 0) : Int × List Int × Int)).2.2)]]) (by kernel_rfl) rfl rfl rfl rfl (fun W_ => by simp [go_sem, sEv, sLook, nbeq, i64_w, -List.getD_eq_getElem?_getD]) (fun W_ hW_ h0_ F_ => ?_) ?_
      · obtain ⟨ht0_, hu0_⟩ := h0_
        have hs0_ : w33.heap.size ≤ W_.heap.size := hW_.1
        exact (play_calls w W_ g m u s r ht0_ hok_ (by omega) hrel_ hu0_ (by omega) (by omega) ⟨hst_.1, by have := hrel_.st; omega⟩ hl_ hu_ hn_ (by omega) (by omega) (by omega) ((sc.getD j ((0, [], 0) : Int × List Int × Int)).1) A20 c21 ((sc.getD j ((0, [], 0) : Int × List Int × Int)).2.1) ((sc.getD j ((0, [], 0) : Int × List Int × Int)).2.2) hC23 hle22 (by omega) hnn_).mono (fun e_ w_ h_ => ⟨_, h_.1, rfl, h_.2.1, by rw [hs9_]; exact h_.2.2.1, by rw [hr9_]; exact h_.2.2.2⟩)
      rintro _ rfl
      refine u_is (by kernel_rfl) (.bool false) rfl rfl rfl rfl (fun W_ hW_ h1_ F_ => by simp [go_sem, sEv, sLook, nbeq, i64_w, -List.getD_eq_getElem?_getD]) ?_
      refine u_is (by kernel_rfl) (.bool false) rfl rfl rfl rfl (fun W_ hW_ h1_ F_ => rfl) ?_
      refine u_gis (by kernel_rfl) (c := false) (.pointer (some ⟨g, 0, none⟩)) rfl rfl rfl rfl rfl rfl rfl (fun W_ hW_ h1_ F_ => rfl) ?_
      refine u_gcall (by kernel_rfl) (c := false) (f := 16) (args := #[.pointer (some ⟨g, 0, none⟩)]) (Is (.int .i64 s9.sure)) rfl rfl rfl rfl rfl rfl rfl (fun W_ => by simp [go_sem, sEv, sLook, nbeq, i64_w, -List.getD_eq_getElem?_getD]) (fun W_ hW_ h1_ F_ => ?_) ?_
      · obtain ⟨⟨m_, ht1_⟩, hb1_⟩ := h1_ (by decide)
        have hlt1_ := hb1_.lt
        exact (sure_T w W_ g m_ (fun q => q = u) (fun q e_ => by have e2_ : q = u := e_; omega) _ ht1_ hpl_.1).mono (fun e_ w_ h_ => ⟨_, h_.1, rfl, h_.2 ▸ Below.refl _ _⟩)
      rintro _ rfl
      refine u_gis (by kernel_rfl) (c := false) (.pointer (some ⟨u, 0, none⟩)) rfl rfl rfl rfl rfl rfl rfl (fun W_ hW_ h1_ F_ => rfl) ?_
      refine u_gis (by kernel_rfl) (c := false) (.pointer (some ⟨u, 0, none⟩)) rfl rfl rfl rfl rfl rfl rfl (fun W_ hW_ h1_ F_ => by simp [go_sem, sEv, sLook, nbeq, i64_w, -List.getD_eq_getElem?_getD]) ?_
      refine u_gis (by kernel_rfl) (c := false) (.pointer (some ⟨u, 0, none⟩)) rfl rfl rfl rfl rfl rfl rfl (fun W_ hW_ h1_ F_ => by simp [go_sem, sEv, sLook, nbeq, i64_w, -List.getD_eq_getElem?_getD, Try.underlying51]) ?_
      refine u_gis (by kernel_rfl) (c := false) (.string (strOfNums r9.S)) rfl rfl rfl rfl rfl rfl rfl (fun W_ hW_ h1_ F_ => by have eb_ := (h1_ (by decide)).2; have e0_ := eb_.cellv (i := 0) (v := (.string (strOfNums r9.S) : Value)) rfl; simp [go_sem, sEv, sLook, nbeq, i64_w, -List.getD_eq_getElem?_getD, e0_]) ?_
      refine u_gis (by kernel_rfl) (c := false) (.int .i64 ((r9.S.length : Nat) : Int)) rfl rfl rfl rfl rfl rfl rfl (fun W_ hW_ h1_ F_ => (by simp [go_sem, sEv, sLook, nbeq, i64_w, -List.getD_eq_getElem?_getD, strOfNums_size])) ?_
      refine u_gis (by kernel_rfl) (c := false) (.bool (s9.sure != ((r9.S.length : Nat) : Int))) rfl rfl rfl rfl rfl rfl rfl (fun W_ hW_ h1_ F_ => by simp [go_sem, sEv, sLook, nbeq, i64_w, -List.getD_eq_getElem?_getD]) ?_
      refine u_is (by kernel_rfl) (.bool (s9.sure != ((r9.S.length : Nat) : Int))) rfl rfl rfl rfl (fun W_ hW_ h1_ F_ => by simp [go_sem, sEv, sLook, nbeq, i64_w, -List.getD_eq_getElem?_getD]) ?_
      refine u_is (by kernel_rfl) (.bool (s9.sure != ((r9.S.length : Nat) : Int))) rfl rfl rfl rfl (fun W_ hW_ h1_ F_ => rfl) ?_
      have hq37 : (s9.sure != ((r9.S.length : Nat) : Int)) = false := by rw [(hrp_.len hpl_.1)]; simp
      refine u_gis (by kernel_rfl) (c := (s9.sure != ((r9.S.length : Nat) : Int))) (.pointer (some ⟨g, 0, none⟩)) rfl rfl rfl (by first | (rw [hq37]; rfl) | simp [hq37]) rfl rfl rfl (fun W_ hW_ h1_ F_ => rfl) ?_
      refine u_gcall (by kernel_rfl) (c := (s9.sure != ((r9.S.length : Nat) : Int))) (f := 19) (args := #[.pointer (some ⟨g, 0, none⟩)]) (Is (.int .i64 s9.steps)) rfl rfl rfl (by first | (rw [hq37]; rfl) | simp [hq37]) rfl rfl rfl (fun W_ => by simp [go_sem, sEv, sLook, nbeq, i64_w, -List.getD_eq_getElem?_getD]) (fun W_ hW_ h1_ F_ => ?_) ?_
      · obtain ⟨⟨m_, ht1_⟩, hb1_⟩ := h1_ (by decide)
        have hlt1_ := hb1_.lt
        exact (steps_T w W_ g m_ (fun q => q = u) (fun q e_ => by have e2_ : q = u := e_; omega) _ ht1_ hpl_.1).mono (fun e_ w_ h_ => ⟨_, h_.1, rfl, h_.2 ▸ Below.refl _ _⟩)
      rintro _ rfl
      refine u_gis (by kernel_rfl) (c := (s9.sure != ((r9.S.length : Nat) : Int))) (.pointer (some ⟨u, 0, none⟩)) rfl rfl rfl (by first | (rw [hq37]; rfl) | simp [hq37]) rfl rfl rfl (fun W_ hW_ h1_ F_ => rfl) ?_
      refine u_gis (by kernel_rfl) (c := (s9.sure != ((r9.S.length : Nat) : Int))) (.pointer (some ⟨u, 0, none⟩)) rfl rfl rfl (by first | (rw [hq37]; rfl) | simp [hq37]) rfl rfl rfl (fun W_ hW_ h1_ F_ => by simp [go_sem, sEv, sLook, nbeq, i64_w, -List.getD_eq_getElem?_getD]) ?_
      refine u_gis (by kernel_rfl) (c := (s9.sure != ((r9.S.length : Nat) : Int))) (.pointer (some ⟨u, 2, none⟩)) rfl rfl rfl (by first | (rw [hq37]; rfl) | simp [hq37]) rfl rfl rfl (fun W_ hW_ h1_ F_ => by simp [go_sem, sEv, sLook, nbeq, i64_w, -List.getD_eq_getElem?_getD, Try.underlying51]) ?_
      refine u_gis (by kernel_rfl) (c := (s9.sure != ((r9.S.length : Nat) : Int))) (.int .i64 r9.st) rfl rfl rfl (by first | (rw [hq37]; rfl) | simp [hq37]) rfl rfl rfl (fun W_ hW_ h1_ F_ => by have eb_ := (h1_ (by decide)).2; have e0_ := eb_.cellv (i := 2) (v := (.int .i64 r9.st : Value)) rfl; simp [go_sem, sEv, sLook, nbeq, i64_w, -List.getD_eq_getElem?_getD, e0_]) ?_
      refine u_gis (by kernel_rfl) (c := (s9.sure != ((r9.S.length : Nat) : Int))) (.bool (s9.steps != r9.st)) rfl rfl rfl (by first | (rw [hq37]; rfl) | simp [hq37]) rfl rfl rfl (fun W_ hW_ h1_ F_ => by simp [go_sem, sEv, sLook, nbeq, i64_w, -List.getD_eq_getElem?_getD]) ?_
      refine u_is (by kernel_rfl) (.bool (s9.steps != r9.st)) rfl rfl rfl rfl (fun W_ hW_ h1_ F_ => by first | (simp [go_sem, sEv, sLook, nbeq, i64_w, -List.getD_eq_getElem?_getD, hq37]; done) | (rw [hq37]; simp [go_sem, sEv, sLook, nbeq, i64_w, -List.getD_eq_getElem?_getD]; done) | (simp [go_sem, sEv, sLook, nbeq, i64_w, -List.getD_eq_getElem?_getD] <;> omega) | (simp [go_sem, sEv, sLook, nbeq, i64_w, -List.getD_eq_getElem?_getD]; intro h_; exact absurd (by omega) h_)) ?_
      refine u_is (by kernel_rfl) (.bool (s9.steps != r9.st)) rfl rfl rfl rfl (fun W_ hW_ h1_ F_ => rfl) ?_
      have hq38 : (s9.steps != r9.st) = false := by rw [hrp_.st]; simp
      refine u_gis (by kernel_rfl) (c := (s9.steps != r9.st)) (.pointer (some ⟨g, 0, none⟩)) rfl rfl rfl (by first | (rw [hq38]; rfl) | simp [hq38]) rfl rfl rfl (fun W_ hW_ h1_ F_ => rfl) ?_
      refine u_gcall (by kernel_rfl) (c := (s9.steps != r9.st)) (f := 23) (args := #[.pointer (some ⟨g, 0, none⟩)]) (Is (.bool s9.dn)) rfl rfl rfl (by first | (rw [hq38]; rfl) | simp [hq38]) rfl rfl rfl (fun W_ => by simp [go_sem, sEv, sLook, nbeq, i64_w, -List.getD_eq_getElem?_getD]) (fun W_ hW_ h1_ F_ => ?_) ?_
      · obtain ⟨⟨m_, ht1_⟩, hb1_⟩ := h1_ (by decide)
        have hlt1_ := hb1_.lt
        exact (down_T w W_ g m_ (fun q => q = u) (fun q e_ => by have e2_ : q = u := e_; omega) _ ht1_ hpl_.1).mono (fun e_ w_ h_ => ⟨_, h_.1, rfl, h_.2 ▸ Below.refl _ _⟩)
      rintro _ rfl
      refine u_gis (by kernel_rfl) (c := (s9.steps != r9.st)) (.pointer (some ⟨u, 0, none⟩)) rfl rfl rfl (by first | (rw [hq38]; rfl) | simp [hq38]) rfl rfl rfl (fun W_ hW_ h1_ F_ => rfl) ?_
      refine u_gis (by kernel_rfl) (c := (s9.steps != r9.st)) (.pointer (some ⟨u, 0, none⟩)) rfl rfl rfl (by first | (rw [hq38]; rfl) | simp [hq38]) rfl rfl rfl (fun W_ hW_ h1_ F_ => by simp [go_sem, sEv, sLook, nbeq, i64_w, -List.getD_eq_getElem?_getD]) ?_
      refine u_gis (by kernel_rfl) (c := (s9.steps != r9.st)) (.pointer (some ⟨u, 7, none⟩)) rfl rfl rfl (by first | (rw [hq38]; rfl) | simp [hq38]) rfl rfl rfl (fun W_ hW_ h1_ F_ => by simp [go_sem, sEv, sLook, nbeq, i64_w, -List.getD_eq_getElem?_getD, Try.underlying51]) ?_
      refine u_gis (by kernel_rfl) (c := (s9.steps != r9.st)) (.bool r9.d) rfl rfl rfl (by first | (rw [hq38]; rfl) | simp [hq38]) rfl rfl rfl (fun W_ hW_ h1_ F_ => by have eb_ := (h1_ (by decide)).2; have e0_ := eb_.cellv (i := 7) (v := (.bool r9.d : Value)) rfl; simp [go_sem, sEv, sLook, nbeq, i64_w, -List.getD_eq_getElem?_getD, e0_]) ?_
      refine u_tail ?_
      intro w39 hK40_ h42 F41
      have hK40 := drew_kept hK40_
      have hs_w39 := hK40.1
      obtain ⟨⟨m45, hT43⟩, hb44⟩ := h42
      have hz_w39 := hT43.size
      have hlu_w39 := hb44.lt
      have hok_ := hpl_.1
      have hn2_ := hrk_.len
      have hx9_ := hpl_.1.len
      refine rw_on (c := (s9.steps != r9.st)) rfl rfl rfl (by first | (rw [hq38]; rfl) | simp [hq38]) ?_
      refine rw_val (v := .bool (s9.dn != r9.d)) (w' := w39) rfl rfl rfl rfl (by first | (simp [go_sem, sEv, sLook, nbeq, i64_w, -List.getD_eq_getElem?_getD]; done) | (simp [go_sem, sEv, sLook, nbeq, i64_w, -List.getD_eq_getElem?_getD] <;> cases h0_ : s9.dn <;> cases h1_ : r9.d <;> rfl)) ?_
      refine rw_val (v := .bool (s9.dn != r9.d)) (w' := w39) rfl rfl rfl rfl (by first | (simp [go_sem, sEv, sLook, nbeq, i64_w, -List.getD_eq_getElem?_getD, hq38]; done) | (rw [hq38]; simp [go_sem, sEv, sLook, nbeq, i64_w, -List.getD_eq_getElem?_getD]; done) | (simp [go_sem, sEv, sLook, nbeq, i64_w, -List.getD_eq_getElem?_getD] <;> omega) | (simp [go_sem, sEv, sLook, nbeq, i64_w, -List.getD_eq_getElem?_getD]; intro h_; exact absurd (by omega) h_)) ?_
      refine rw_end ?_
      refine w_weaken (G' := [(3, .pointer (some ⟨g, 0, none⟩)), (4, .pointer (some ⟨u, 0, none⟩)), (15, .slice (some ad17) sc.length c1), (16, .int .i64 ((sc.length : Nat) : Int)), (17, .int .i64 ((j : Nat) : Int)), (53, .bool (s9.dn != r9.d))]) ⟨rfl, rfl, rfl, rfl, rfl, rfl, trivial⟩ ?_
      have hq46 : (s9.dn != r9.d) = false := by rw [hrp_.d]; simp
      refine w_cond_f rfl rfl hq46 ?_
      refine w_skip ?_
      refine w_seq ?_
      refine w_region ?_
      refine rw_val (v := .pointer (some ⟨g, 0, none⟩)) (w' := w39) rfl rfl rfl rfl rfl ?_
      refine rw_call rfl rfl rfl rfl (f := 15) (args := #[.pointer (some ⟨g, 0, none⟩)]) (by simp [go_sem, sEv, sLook, nbeq, i64_w, -List.getD_eq_getElem?_getD]) (readO w w39 g m45 (fun q => q = u) (fun q e_ => by have e2_ : q = u := e_; omega) s9 hT43 hok_) ?_
      rintro e_ w49 ⟨A47, c48, rfl, hO50, hB51⟩
      refine ⟨_, rfl, ?_⟩
      have hs_w49 := hB51.size
      have hL52 : OwnK (Kd.int .u8) 5 w49 w.heap.size w39.heap.size A47 s9.xs.length c48 s9.xs := OwnK.lower hO50 (by omega)
      refine rw_val (v := .slice A47 s9.xs.length c48) (w' := w49) rfl rfl rfl rfl rfl ?_
      refine rw_end ?_
      refine w_seq ?_
      refine w_seq ?_
      refine w_drawk (M := [0, 1, 0, 4, 12, 28, 0, 64, 192, 448, 1020, 2047]) (ss := [Is (.slice A47 s9.xs.length c48), Is (.string (strOfNums s9.xs)), Is (.pointer (some ⟨u, 0, none⟩)), Is (.pointer (some ⟨u, 0, none⟩)), Is (.pointer (some ⟨u, 0, none⟩)), Is (.string (strOfNums r9.S)), Is (.pointer (some ⟨u, 0, none⟩)), Is (.pointer (some ⟨u, 0, none⟩)), Is (.pointer (some ⟨u, 1, none⟩)), Is (.string (strOfNums r9.R)), Is (.string (strOfNums (r9.S ++ r9.R)))]) 11 rfl (by decide +kernel) ?_
      refine t_is (.slice A47 s9.xs.length c48) rfl rfl rfl rfl (fun W_ hW_ F_ => rfl) ?_
      refine t_is (.string (strOfNums s9.xs)) rfl rfl rfl rfl (fun W_ hW_ F_ => (run_as (run_str_of (P := Try.prog) (e := 5) (by kernel_rfl) (by kernel_rfl) (by kernel_rfl) (Kd.C_below (OwnK.C (d := (Kd.int .u8)) hL52) (chain (Below.refl _ _) (below_of_drew hW_)))))) ?_
      refine t_is (.pointer (some ⟨u, 0, none⟩)) rfl rfl rfl rfl (fun W_ hW_ F_ => rfl) ?_
      refine t_is (.pointer (some ⟨u, 0, none⟩)) rfl rfl rfl rfl (fun W_ hW_ F_ => by simp [go_sem, sEv, sLook, nbeq, i64_w, -List.getD_eq_getElem?_getD]) ?_
      refine t_is (.pointer (some ⟨u, 0, none⟩)) rfl rfl rfl rfl (fun W_ hW_ F_ => by simp [go_sem, sEv, sLook, nbeq, i64_w, -List.getD_eq_getElem?_getD, Try.underlying51]) ?_
      refine t_is (.string (strOfNums r9.S)) rfl rfl rfl rfl (fun W_ hW_ F_ => by have eb_ := ((hb44.on hB51).on (below_of_drew hW_)); have e0_ := eb_.cellv (i := 0) (v := (.string (strOfNums r9.S) : Value)) rfl; simp [go_sem, sEv, sLook, nbeq, i64_w, -List.getD_eq_getElem?_getD, e0_]) ?_
      refine t_is (.pointer (some ⟨u, 0, none⟩)) rfl rfl rfl rfl (fun W_ hW_ F_ => rfl) ?_
      refine t_is (.pointer (some ⟨u, 0, none⟩)) rfl rfl rfl rfl (fun W_ hW_ F_ => by simp [go_sem, sEv, sLook, nbeq, i64_w, -List.getD_eq_getElem?_getD]) ?_
      refine t_is (.pointer (some ⟨u, 1, none⟩)) rfl rfl rfl rfl (fun W_ hW_ F_ => by simp [go_sem, sEv, sLook, nbeq, i64_w, -List.getD_eq_getElem?_getD, Try.underlying51]) ?_
      refine t_is (.string (strOfNums r9.R)) rfl rfl rfl rfl (fun W_ hW_ F_ => by have eb_ := ((hb44.on hB51).on (below_of_drew hW_)); have e0_ := eb_.cellv (i := 1) (v := (.string (strOfNums r9.R) : Value)) rfl; simp [go_sem, sEv, sLook, nbeq, i64_w, -List.getD_eq_getElem?_getD, e0_]) ?_
      refine t_is (.string (strOfNums (r9.S ++ r9.R))) rfl rfl rfl rfl (fun W_ hW_ F_ => (run_as (run_str_add (t := 9) r9.S r9.R (by omega) _))) ?_
      refine t_tail ?_
      intro w53 hb54_ F55
      have hb54 := below_of_drew hb54_
      have hs_w53 := hb54.size
      refine rw_val (v := .bool (!decide (strOfNums s9.xs = strOfNums (r9.S ++ r9.R)))) (w' := w53) rfl rfl rfl rfl (run_as (run_str_neq 9 _ _ _)) ?_
      refine rw_end ?_
      refine w_weaken (G' := [(3, .pointer (some ⟨g, 0, none⟩)), (4, .pointer (some ⟨u, 0, none⟩)), (7, .slice A47 s9.xs.length c48), (15, .slice (some ad17) sc.length c1), (16, .int .i64 ((sc.length : Nat) : Int)), (17, .int .i64 ((j : Nat) : Int)), (67, .bool (!decide (strOfNums s9.xs = strOfNums (r9.S ++ r9.R))))]) ⟨rfl, rfl, rfl, rfl, rfl, rfl, rfl, trivial⟩ ?_
      have hq56 : (!decide (strOfNums s9.xs = strOfNums (r9.S ++ r9.R))) = false := by rw [hrp_.all]; simp
      refine w_cond_f rfl rfl hq56 ?_
      refine w_skip ?_
      refine w_region ?_
      refine rw_val (v := .slice A47 s9.xs.length c48) (w' := w53) rfl rfl rfl rfl rfl ?_
      refine rw_call rfl rfl rfl rfl (f := 27) (args := #[.slice A47 s9.xs.length c48]) (by simp [go_sem, sEv, sLook, nbeq, i64_w, -List.getD_eq_getElem?_getD]) (overO w53 _ _ A47 s9.xs.length c48 s9.xs (OwnK.on (d := (Kd.int .u8)) hL52 hb54) (by omega)) ?_
      rintro e_ w57 ⟨rfl, g59, hg60, hG58⟩
      refine ⟨.tuple #[], rfl, ?_⟩
      have hs_w57 := hG58.size
      refine rw_end ?_
      refine w_blk ?_
      refine w_region ?_
      refine rw_val (v := .int .i64 ((j + 1 : Nat) : Int)) (w' := w57) rfl rfl rfl rfl (by simp [go_sem, sEv, sLook, nbeq, i64_w, -List.getD_eq_getElem?_getD]; exact wrap_id (by omega) (by omega)) ?_
      refine rw_val (v := .int .i64 ((j + 1 : Nat) : Int)) (w' := w57) rfl rfl rfl rfl rfl ?_
      refine rw_end ?_
      exact w_back (m_ - 1) [(3, .pointer (some ⟨g, 0, none⟩)), (4, .pointer (some ⟨u, 0, none⟩)), (15, .slice (some ad17) sc.length c1), (16, .int .i64 ((sc.length : Nat) : Int)), (17, .int .i64 ((j + 1 : Nat) : Int))] (by omega) ⟨rfl, rfl, rfl, rfl, rfl, trivial⟩ ⟨(j + 1), m45, s9, r9, by omega, (hG58.below (by omega) (chain (chain hT43.1 hB51) hb54)), ⟨(TapeAt.growFar (TapeAt.on (TapeAt.on hT43 hB51) hb54) hG58 (by omega)), hpl_.1, (by have := hpl_.2; omega), hrp_, hrk_, (Blk.grow ((hb44.on hB51).on hb54) hG58 (by omega))⟩, rfl⟩
    · have l61 : ¬ (((j : Nat) : Int) < ((sc.length : Nat) : Int)) := of_decide_eq_false cJ
      refine w_exit rfl ?_
      refine w_seq ?_
      refine w_drawk (M := [0, 1, 3, 0, 8, 24, 56, 0, 128, 384, 896, 2040, 4095, 8191]) (ss := [Is (.pointer (some ⟨g, 0, none⟩)), (OwnKSpec (Kd.int .u8) 5 w_L13.heap.size w_L13.heap.size s.xs), Is (.string (strOfNums s.xs)), Is (.pointer (some ⟨u, 0, none⟩)), Is (.pointer (some ⟨u, 0, none⟩)), Is (.pointer (some ⟨u, 0, none⟩)), Is (.string (strOfNums r.S)), Is (.pointer (some ⟨u, 0, none⟩)), Is (.pointer (some ⟨u, 0, none⟩)), Is (.pointer (some ⟨u, 1, none⟩)), Is (.string (strOfNums r.R)), Is (.string (strOfNums (r.S ++ r.R)))]) 12 rfl (by decide +kernel) ?_
      refine t_is (.pointer (some ⟨g, 0, none⟩)) rfl rfl rfl rfl (fun W_ hW_ F_ => rfl) ?_
      refine t_call (f := 15) (args := #[.pointer (some ⟨g, 0, none⟩)]) (OwnKSpec (Kd.int .u8) 5 w_L13.heap.size w_L13.heap.size s.xs) rfl rfl rfl rfl (fun W_ => by simp [go_sem, sEv, sLook, nbeq, i64_w, -List.getD_eq_getElem?_getD]) (fun W_ hW_ F_ => ?_) ?_
      · have hs_ := (below_of_drew hW_).size
        refine (readO w W_ g m (fun q => q = u) (fun q e_ => by have e2_ : q = u := e_; have := hlu_; omega) s (TapeAt.on hT_ (below_of_drew hW_)) hok_).mono ?_
        rintro e_ w_ ⟨A_, c_, rfl, hO_, hb_⟩
        exact ⟨_, rfl, ⟨A_, c_, rfl, OwnK.mono (OwnK.lower hO_ (by omega)) (by omega)⟩, hb_⟩
      rintro _ ⟨A62, c63, rfl, hle64⟩
      refine t_is (.string (strOfNums s.xs)) rfl rfl rfl rfl (fun W_ hW_ F_ => (by have hO_ := ownk_fact (F_ 1 _ _ rfl rfl); exact run_as (run_str_of (P := Try.prog) (e := 5) (by kernel_rfl) (by kernel_rfl) (by kernel_rfl) (OwnK.C (d := (Kd.int .u8)) hO_)))) ?_
      refine t_is (.pointer (some ⟨u, 0, none⟩)) rfl rfl rfl rfl (fun W_ hW_ F_ => rfl) ?_
      refine t_is (.pointer (some ⟨u, 0, none⟩)) rfl rfl rfl rfl (fun W_ hW_ F_ => by simp [go_sem, sEv, sLook, nbeq, i64_w, -List.getD_eq_getElem?_getD]) ?_
      refine t_is (.pointer (some ⟨u, 0, none⟩)) rfl rfl rfl rfl (fun W_ hW_ F_ => by simp [go_sem, sEv, sLook, nbeq, i64_w, -List.getD_eq_getElem?_getD, Try.underlying51]) ?_
      refine t_is (.string (strOfNums r.S)) rfl rfl rfl rfl (fun W_ hW_ F_ => by have eb_ := (hbu_.on (below_of_drew hW_)); have e0_ := eb_.cellv (i := 0) (v := (.string (strOfNums r.S) : Value)) rfl; simp [go_sem, sEv, sLook, nbeq, i64_w, -List.getD_eq_getElem?_getD, e0_]) ?_
      refine t_is (.pointer (some ⟨u, 0, none⟩)) rfl rfl rfl rfl (fun W_ hW_ F_ => rfl) ?_
      refine t_is (.pointer (some ⟨u, 0, none⟩)) rfl rfl rfl rfl (fun W_ hW_ F_ => by simp [go_sem, sEv, sLook, nbeq, i64_w, -List.getD_eq_getElem?_getD]) ?_
      refine t_is (.pointer (some ⟨u, 1, none⟩)) rfl rfl rfl rfl (fun W_ hW_ F_ => by simp [go_sem, sEv, sLook, nbeq, i64_w, -List.getD_eq_getElem?_getD, Try.underlying51]) ?_
      refine t_is (.string (strOfNums r.R)) rfl rfl rfl rfl (fun W_ hW_ F_ => by have eb_ := (hbu_.on (below_of_drew hW_)); have e0_ := eb_.cellv (i := 1) (v := (.string (strOfNums r.R) : Value)) rfl; simp [go_sem, sEv, sLook, nbeq, i64_w, -List.getD_eq_getElem?_getD, e0_]) ?_
      refine t_is (.string (strOfNums (r.S ++ r.R))) rfl rfl rfl rfl (fun W_ hW_ F_ => (run_as (run_str_add (t := 9) r.S r.R (by omega) _))) ?_
      refine t_tail ?_
      intro w66 hb67_ F68
      have hb67 := below_of_drew hb67_
      have hs_w66 := hb67.size
      have hO65 : OwnK (Kd.int .u8) 5 w66 w.heap.size w_L13.heap.size A62 s.xs.length c63 s.xs := OwnK.lower (ownk_fact (F68 1 (OwnKSpec (Kd.int .u8) 5 w_L13.heap.size w_L13.heap.size s.xs) (.slice A62 s.xs.length c63) (by kernel_rfl))) (by omega)
      refine rw_val (v := .bool (decide (strOfNums s.xs = strOfNums (r.S ++ r.R)))) (w' := w66) rfl rfl rfl rfl (run_as (run_str_eql 9 _ _ _)) ?_
      refine rw_val (v := .bool (decide (strOfNums s.xs = strOfNums (r.S ++ r.R)))) (w' := w66) rfl rfl rfl rfl rfl ?_
      refine rw_end ?_
      refine w_weaken (G' := [(2, .bool (decide (strOfNums s.xs = strOfNums (r.S ++ r.R))))]) ⟨rfl, trivial⟩ ?_
      have hq69 : (decide (strOfNums s.xs = strOfNums (r.S ++ r.R))) = true := by rw [hrel_.all]; simp
      refine w_ret (post_ret1 rfl rfl ?_)
      exact ⟨by simp only [hq69], (chain hB_L13 hb67)⟩
end Go.Proofs.Ytpbpeklbmmbigaa.Tp
