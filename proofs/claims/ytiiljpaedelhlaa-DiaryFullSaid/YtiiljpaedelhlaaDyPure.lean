/- What the laws of diaries say of rows: plain. -/
import Derived.Test.YtiiljpaedelhlaaDyOpen
namespace Go.Proofs.Ytiiljpaedelhlaa.Tp
open Go.RowKit Go.Proofs.YtiiljpaedelhlaaW.PrintWords Go.Proofs.YtiiljpaedelhlaaW.PrintLast Go.Proofs.YtiiljpaedelhlaaW.PrintMore
open Go.Proofs.Ytiiljpaedelhlaa.Flow
open Go.Proofs.Ytiiljpaedelhlaa.PDiaryPlays (SplitR Bytes frameB frameE FC wholeP frameB_len frameB_bytes ends split_frames)
set_option linter.unusedVariables false
set_option linter.unusedSimpArgs false
def pl (xs : List Int) (sure steps : Int) : TS := ⟨xs, sure, steps, false, 0, false, 0, false⟩
theorem pl_start : TS.start = pl [] 0 0 := rfl
theorem pl_ok {xs : List Int} {sure steps : Int} (h1 : 0 ≤ steps ∧ steps ≤ 1000000000) (h2 : 0 ≤ sure ∧ sure ≤ xs.length) (h3 : xs.length ≤ 1048576) : (pl xs sure steps).Ok :=
  ⟨h1, by simp [pl], by simp [pl], h2, h3⟩
/-- A block whose cells are known, marked or not. -/
def FB (w : World) (g : Nat) (t : TypeId) (cs : Array Value) : Prop := ∃ q, w.heap[g]? = some (.cells cs t q)
theorem FB.lt {w : World} {g : Nat} {t : TypeId} {cs : Array Value} (h : FB w g t cs) : g < w.heap.size := by
  obtain ⟨q, h⟩ := h
  rcases Nat.lt_or_ge g w.heap.size with hlt | hge
  · exact hlt
  · rw [Array.getElem?_eq_none hge] at h
    cases h
theorem FB.on {w w' : World} {g : Nat} {t : TypeId} {cs : Array Value} (h : FB w g t cs) (hb : Below w.heap.size w w') : FB w' g t cs := by
  have hl := h.lt
  obtain ⟨q, h⟩ := h
  exact ⟨q, (hb.block g hl).trans h⟩
theorem FB.keep {w w' : World} {g g2 : Nat} {t : TypeId} {cs : Array Value} (h : FB w g t cs) (hk : Keep g2 w w') (hne : g ≠ g2) : FB w' g t cs := by
  obtain ⟨q, h⟩ := h
  exact ⟨q, (hk.block g hne).trans h⟩
theorem FB.C {k : IntKind} {w : World} {g : Nat} {t : TypeId} {cs : Array Value} {xs : List Int} (h : FB w g t cs) (hN : Nums k cs xs) (hm : xs.length ≤ 9223372036854775807) : (Kd.int k).C w (some ⟨g, 0, none⟩) xs.length xs := by
  obtain ⟨q, h⟩ := h
  refine ⟨rfl, hm, fun hn => ⟨_, rfl, fun j p hj => ⟨[.int k p], rfl, rfl, fun i u hu => ?_⟩⟩⟩
  obtain ⟨hl, hp⟩ := List.getElem?_eq_some_iff.1 hj
  have h2 := hN j hl
  rcases i with _ | i
  · have hu' : u = .int k p := by simpa using hu.symm
    subst hu'
    have e : (⟨g, 0, none⟩ : Addr).add (j * 1 + 0) = ⟨g, j, none⟩ := by rw [add_plain]; simp
    show w.cell? ((⟨g, 0, none⟩ : Addr).add (j * 1 + 0)) = _
    rw [e]
    have e2 : w.cell? ⟨g, j, none⟩ = cs[j]? := by simp [World.cell?, h]
    rw [e2, h2]
    simp [List.getD_eq_getElem?_getD, hj]
  · simp at hu
theorem FB.K {S : Nat → Prop} {k : IntKind} {w : World} {g : Nat} {t : TypeId} {cs : Array Value} {xs : List Int} (h : FB w g t cs) (hN : Nums k cs xs) (hm : xs.length ≤ 9223372036854775807) (hS : ¬ S g) : ∀ W_, Kept w W_ S → (Kd.int k).C W_ (some ⟨g, 0, none⟩) xs.length xs := fun W_ hk => by
  have hl := h.lt
  obtain ⟨q, h⟩ := h
  exact FB.C ⟨q, (hk.2 g hl hS).trans h⟩ hN hm
theorem conv_same {w : World} {g : Nat} {cs : Array Value} (hb : Blk w g 5 cs) (n c : Nat) : ∃ w', (convert 32 32 (.slice (some ⟨g, 0, none⟩) n c)).run Try.prog w = .ok (.slice (some ⟨g, 0, none⟩) n c) w' ∧ Keep g w w' ∧ FB w' g 5 cs := by
  have hb' : w.heap[g]? = some (.cells cs 5 (0, 0)) := hb
  have hsh : w.shape? g = some (5, cs.size) := by simp [World.shape?, hb']
  refine ⟨w.freeze ⟨g, cs.size, none⟩ 1, ?_, ?_, ?_⟩
  · simp [convert, run_underlying Try.underlying32, run_underlying Try.underlying5, markStringish, hsh, Result.andThen]
  · refine ⟨rfl, rfl, rfl, by simp [World.freeze], fun k hk => ?_⟩
    simp [World.freeze, Array.getElem?_modify, Ne.symm hk]
  · refine ⟨(cs.size, cs.size + 1), ?_⟩
    simp [World.freeze, Array.getElem?_modify, hb']
theorem TapeAt.far {w0 w w' : World} {g m q : Nat} {x : Nat → Prop} {s : TS} (h : TapeAt w0 w g m x s) (k : Keep q w w') (hq : m ≤ q) (hq0 : w0.heap.size ≤ q) : TapeAt w0 w' g m x s := by
  obtain ⟨h1, h2, h3, A, n, c, h4, h5⟩ := h
  exact ⟨k.below hq0 h1, h2, ⟨h3.1, by rw [k.size]; exact h3.2⟩, A, n, c, h4.keep k (by omega), BR.step h5 (fun z hz _ => k.block z (by have := hz.2.1; omega))⟩
def okB (s : TS) : Bool := decide (0 ≤ s.steps) && decide (s.steps ≤ 1000000000) && decide (0 ≤ s.pl) && decide (s.pl ≤ 9223372036854775807) && decide (0 ≤ s.fl) && decide (s.fl ≤ 9223372036854775807) && decide (0 ≤ s.sure) && decide (s.sure ≤ s.xs.length) && decide (s.xs.length ≤ 1048576)
theorem okB_ok {s : TS} (h : okB s = true) : s.Ok := by
  unfold okB at h
  simp only [Bool.and_eq_true, decide_eq_true_eq] at h
  obtain ⟨⟨⟨⟨⟨⟨⟨⟨h1, h2⟩, h3⟩, h4⟩, h5⟩, h6⟩, h7⟩, h8⟩, h9⟩ := h
  exact ⟨⟨h1, h2⟩, ⟨h3, h4⟩, ⟨h5, h6⟩, ⟨h7, h8⟩, h9⟩
theorem new_on {w w1 w2 : World} {g : Nat} (hb : Below w.heap.size w w1) (h : TapeAt w1 w2 g w2.heap.size (fun _ => False) TS.start) : TapeAt w w2 g w2.heap.size (fun _ => False) TS.start := by
  obtain ⟨h1, h2, h3, A, n, c, h4, h5⟩ := h
  have hs := hb.size
  exact ⟨chain hb h1, by omega, h3, A, n, c, h4, BR.lower h5 hs⟩
/-! ### Rows one behind the other -/
theorem FC_append (a b : List (List Int)) : FC (a ++ b) = FC a ++ FC b := by unfold FC; rw [List.map_append, List.flatten_append]
theorem FC_one (r : List Int) : FC [r] = frameB r := by unfold FC; simp
theorem FC_bytes {rows : List (List Int)} (h : ∀ r ∈ rows, Bytes r) : Bytes (FC rows) := by
  intro c hc
  unfold FC at hc
  obtain ⟨l, hl, hc⟩ := List.mem_flatten.1 hc
  obtain ⟨r, hr, rfl⟩ := List.mem_map.1 hl
  exact frameB_bytes r (h r hr) c hc
theorem ends_full (ps : List (List Int)) : ends ps ps.length = (FC ps).length := by unfold ends; rw [List.take_length]
theorem ends_le (ps : List (List Int)) (j : Nat) : ends ps j ≤ (FC ps).length := FC_take_le ps j
theorem split_FC {ps : List (List Int)} (h : ∀ p ∈ ps, p.length ≤ 16376) {l : List (List Int)} {n : Nat} (hS : SplitR (FC ps) l n) : l = ps ∧ n = (FC ps).length := by
  have h2 := split_frames ps h (FC ps).length l n (by rw [List.take_length]; exact hS)
  obtain ⟨wh, h3, h4, h5, h6, h7⟩ := h2
  have h8 : wh = ps.length := by
    rcases Nat.lt_or_ge wh ps.length with h9 | h9
    · have := h7 h9
      have := ends_le ps (wh + 1)
      omega
    · omega
  subst h8
  rw [List.take_length] at h4
  exact ⟨h4, by rw [h5, ends_full]⟩
/-- An opening of rows that are all whole. -/
theorem open_full (w0 w : World) (g m : Nat) (x : Nat → Prop) (hx : ∀ q, x q → q < w.heap.size) (s : TS) (hT : TapeAt w0 w g m x s) (hok : s.Ok) (rows : List (List Int)) (hxs : s.xs = FC rows) (hr : ∀ r ∈ rows, r.length ≤ 16376) (hb : ∀ r ∈ rows, Bytes r) (hdn : s.dn = false) :
    Calls Try.prog 11 #[.pointer (some ⟨g, 0, none⟩)] w fun e w' => ∃ (gd m' : Nat) (A : Option Addr) (c : Nat), e = .returned (.tuple #[.pointer (some ⟨gd, 0, none⟩), .slice A rows.length c, errT none]) ∧ DiaryAt w0 w' g gd m' (HX gd x) ⟨s, (rows.length : Int), ((FC rows).length : Int)⟩ ∧ OwnK (Kd.slice 5 (Kd.int .u8)) 32 w' w.heap.size w.heap.size A rows.length c rows ∧ w.heap.size ≤ w'.heap.size ∧ Kept w w' (fun k => k = g) := by
  refine (open_D w0 w g m x hx s hT hok (by rw [hxs]; exact FC_bytes hb)).mono fun e w' h => ?_
  obtain ⟨hs, hK, h | ⟨_, out, n, hS, h⟩⟩ := h
  · rw [hdn] at h; cases h.1
  · rw [hxs] at hS
    obtain ⟨rfl, rfl⟩ := split_FC hr hS
    have e1 : openE s (FC out).length = none := by rw [openE, hdn, hxs]; simp
    have e2 : openS s (FC out).length = s := by rw [openS, hdn, hxs]; simp
    rcases h with ⟨c, h1, _⟩ | ⟨_, gd, m', A, c, h2, h3, h4⟩
    · rw [e1] at h1; cases h1
    · rw [e2] at h3
      exact ⟨gd, m', A, c, h2, h3, h4, hs, hK⟩
end Go.Proofs.Ytiiljpaedelhlaa.Tp
namespace Go.Proofs.Ytiiljpaedelhlaa.Tp
open Go.RowKit Go.Proofs.YtiiljpaedelhlaaW.PrintWords Go.Proofs.YtiiljpaedelhlaaW.PrintLast Go.Proofs.YtiiljpaedelhlaaW.PrintMore
open Go.Proofs.Ytiiljpaedelhlaa.Flow
open Go.Proofs.Ytiiljpaedelhlaa.PDiaryPlays (SplitR Bytes frameB frameE FC wholeP frameB_len frameB_bytes ends split_frames whole_frame FC_cons frameB_parts)
set_option linter.unusedVariables false
set_option linter.unusedSimpArgs false
theorem bool_el {w : World} {A : Option Addr} {n : Nat} {xs : List Bool} (h : Kd.bool.C w A n xs) (z : Bool) (i : Nat) (hi : i < n) : ∃ ad, A = some ad ∧ ∀ j u, [Value.bool (xs.getD i z)][j]? = some u → w.cell? (ad.add (i + j)) = some u := by
  obtain ⟨ad, c, h1, h2, h3, h4⟩ := Kd.C_get h z (i : Int) (by omega) (by omega)
  have h5 : c = [Value.bool (xs.getD ((i : Int)).toNat z)] := h3
  subst h5
  refine ⟨ad, h1, fun j u hu => ?_⟩
  have h6 := h4 j u hu
  have e1 : ((i : Int)).toNat * Kd.bool.sz + j = i + j := by show ((i : Int)).toNat * 1 + j = i + j; omega
  rw [e1] at h6
  exact h6
theorem pl_app (xs f : List Int) (sure steps : Int) (h : xs.length + f.length ≤ 1048576) : (pl xs sure steps).appE f = none ∧ (pl xs sure steps).app f = pl (xs ++ f) sure (steps + 1) := by
  have e1 : (pl xs sure steps).err = none := rfl
  have h2 : ¬ 1048576 < (pl xs sure steps).xs.length + f.length := by show ¬ 1048576 < xs.length + f.length; omega
  refine ⟨?_, ?_⟩
  · rw [TS.appE, if_neg h2, e1]
  · rw [TS.app, if_neg h2, if_neg (by rw [e1]; simp)]
    rfl
theorem pl_sync (xs : List Int) (sure steps : Int) : (pl xs sure steps).err = none ∧ (pl xs sure steps).sync = pl xs (xs.length : Int) (steps + 1) := ⟨rfl, rfl⟩
/-- A diary with rows, all sure, k calls of Add behind it. -/
def PD (rows : List (List Int)) (k : Nat) : DS := ⟨pl (FC rows) ((FC rows).length : Int) ((2 * k : Nat) : Int), (rows.length : Int), ((FC rows).length : Int)⟩
theorem PD_ok (rows : List (List Int)) (k : Nat) (hk : k ≤ 1000) (h : (FC rows).length ≤ 1048576) : (PD rows k).s.Ok := pl_ok (by omega) (by omega) h
theorem frameE_no {row : List Int} (h : row.length ≤ 16376) : frameE row = none := by unfold frameE; rw [if_neg (by omega)]
theorem add_PD (rows : List (List Int)) (row : List Int) (k : Nat) (hl : row.length ≤ 16376) (hfit : (FC rows).length + (8 + row.length) ≤ 1048576) : (PD rows k).addE row = none ∧ (PD rows k).add row = PD (rows ++ [row]) (k + 1) := by
  have e0 := frameE_no hl
  have e1 := frameB_len row hl
  obtain ⟨e2, e3⟩ := pl_app (FC rows) (frameB row) ((FC rows).length : Int) ((2 * k : Nat) : Int) (by omega)
  have e2' : (PD rows k).s.appE (frameB row) = none := e2
  have e3' : (PD rows k).s.app (frameB row) = pl (FC rows ++ frameB row) ((FC rows).length : Int) (((2 * k : Nat) : Int) + 1) := e3
  have e4 : (PD rows k).add1E row = none := by rw [DS.add1E, e2', if_pos (show (none : Option Int).isNone = true from rfl), e3']; rfl
  have e5 : (PD rows k).add1S row = pl (FC rows ++ frameB row) ((FC rows ++ frameB row).length : Int) (((2 * k : Nat) : Int) + 1 + 1) := by rw [DS.add1S, e2', if_pos (show (none : Option Int).isNone = true from rfl), e3']; rfl
  refine ⟨by rw [DS.addE, e0, if_neg (by simp), e4], ?_⟩
  rw [DS.add, e0, if_neg (by simp), e4, if_neg (by simp), e5]
  have e6 : FC (rows ++ [row]) = FC rows ++ frameB row := by rw [FC_append, FC_one]
  unfold PD
  rw [e6]
  simp only [List.length_append, List.length_cons, List.length_nil]
  congr 2
theorem take_snoc (rows : List (List Int)) (j : Nat) (h : j < rows.length) : rows.take (j + 1) = rows.take j ++ [rows.getD j []] := by
  rw [List.take_succ_eq_append_getElem h, List.getD_eq_getElem?_getD, List.getElem?_eq_getElem h]
  rfl
theorem FC_len_succ (rows : List (List Int)) (j : Nat) (h : j < rows.length) (hl : (rows.getD j []).length ≤ 16376) : (FC (rows.take (j + 1))).length = (FC (rows.take j)).length + (8 + (rows.getD j []).length) := by
  rw [FC_take_getD rows j h, List.length_append, frameB_len _ hl]
theorem add_PDt (rows : List (List Int)) (j : Nat) (h : j < rows.length) (hl : (rows.getD j []).length ≤ 16376) (hfit : (FC (rows.take j)).length + (8 + (rows.getD j []).length) ≤ 1048576) : (PD (rows.take j) j).addE (rows.getD j []) = none ∧ (PD (rows.take j) j).add (rows.getD j []) = PD (rows.take (j + 1)) (j + 1) := by
  rw [take_snoc rows j h]
  exact add_PD _ _ _ hl hfit
theorem splitR_zero {t : List Int} {n : Nat} (h : SplitR t [] n) : wholeP t = 0 := by
  cases h with
  | none _ h => exact h
/-- Whole frames, and what is none behind them. -/
theorem split_tail : ∀ (ps : List (List Int)), (∀ p ∈ ps, p.length ≤ 16376) → ∀ (t : List Int), wholeP t = 0 → ∀ (l : List (List Int)) (n : Nat), SplitR (FC ps ++ t) l n → l = ps ∧ n = (FC ps).length
  | [], _, t, h0, l, n, h => by
    have e : FC [] ++ t = t := by simp [FC]
    rw [e] at h
    cases h with
    | none _ _ => exact ⟨rfl, by simp [FC]⟩
    | some _ l n h1 _ => exact absurd h0 h1
  | p :: ps, hps, t, h0, l, n, h => by
    have hp := hps p (by simp)
    have hf := frameB_len p hp
    rw [FC_cons, List.append_assoc] at h
    have e0 := whole_frame p (FC ps ++ t) hp
    cases h with
    | none _ h1 => rw [e0] at h1; omega
    | some _ l' n' h1 hs =>
      have ed : (frameB p ++ (FC ps ++ t)).drop (8 + p.length) = FC ps ++ t := by rw [← hf, List.drop_left]
      have et : ((frameB p ++ (FC ps ++ t)).take (8 + p.length)).drop 8 = p := by
        rw [← hf, List.take_left]
        obtain ⟨a, b, h, ha, hb, h1, h2⟩ := frameB_parts p hp
        rw [h, show (8 : Nat) = (a ++ b).length by simp; omega, List.drop_left]
      rw [e0, ed] at hs
      obtain ⟨q1, q2⟩ := split_tail ps (fun x hx => hps x (List.mem_cons_of_mem _ hx)) t h0 _ _ hs
      refine ⟨by rw [e0, et, q1], ?_⟩
      rw [e0, FC_cons, List.length_append, q2]
      omega
theorem TapeAt.grown {w0 w w' : World} {g m : Nat} {x : Nat → Prop} {s : TS} {α : Type} {d : Kd α} {e : TypeId} {base b : Nat} {A : Option Addr} {n c : Nat} {ys : List α} (h : TapeAt w0 w g m x s) (ho : OwnK d e w base b A n c ys) (hb : m ≤ b) (hB : Below w0.heap.size w0 w') (hG : w.grownBy w' (Value.slice A n c).ownBlock) : TapeAt w0 w' g m x s := by
  obtain ⟨h1, h2, h3, A', n', c', h4, h5⟩ := h
  have hs := hG.size
  exact ⟨hB, h2, ⟨h3.1, by omega⟩, A', n', c', OwnK.blk_grown h4 ho (.inl (by omega)) hG, BR.step h5 (fun z hz hlt => hG.block z hlt (fun he => by have := OwnK.blk_ge ho he.symm; have := hz.2.1; omega))⟩
theorem crash_sure (s : TS) (k : Int) (h : s.sure = (s.xs.length : Int)) : s.crash k = pl s.xs (s.xs.length : Int) s.steps := by
  have e : s.left k = 0 := by unfold TS.left; rw [h]; omega
  have e2 : s.xs.take (s.sure + s.left k).toNat = s.xs := by rw [e, h]; simp
  unfold TS.crash
  rw [e2]
  rfl
theorem next_same (s : TS) : s.next.xs = s.xs ∧ s.next.sure = s.sure := by
  unfold TS.next
  split
  · exact ⟨rfl, rfl⟩
  · split
    · exact ⟨rfl, rfl⟩
    · split <;> exact ⟨rfl, rfl⟩
theorem bytes_app {a b : List Int} (ha : Bytes a) (hb : Bytes b) : Bytes (a ++ b) := fun c hc => (List.mem_append.1 hc).elim (ha c) (hb c)
theorem app_start (F t : List Int) (h : F.length + t.length ≤ 1048576) : TS.start.appE [F, t].flatten = none ∧ TS.start.app [F, t].flatten = pl (F ++ t) 0 1 := by
  have e : [F, t].flatten = F ++ t := by simp
  rw [e]
  obtain ⟨h1, h2⟩ := pl_app [] (F ++ t) 0 0 (by rw [List.length_append]; simpa using h)
  exact ⟨h1, h2⟩
theorem rowsK2 {k : IntKind} {e t : TypeId} {w : World} {g : Nat} {A1 A2 : Option Addr} {c1 c2 : Nat} {x1 x2 : List Int} {S : Nat → Prop} (hb : Blk w g t #[.slice A1 x1.length c1, .slice A2 x2.length c2]) (hS : ¬ S g) (h1 : x1.length ≤ c1) (f1 : ∀ W_, Kept w W_ S → (Kd.int k).C W_ A1 x1.length x1) (h2 : x2.length ≤ c2) (f2 : ∀ W_, Kept w W_ S → (Kd.int k).C W_ A2 x2.length x2) : ∀ W_, Kept w W_ S → (Kd.slice e (Kd.int k)).C W_ (some ⟨g, 0, none⟩) [x1, x2].length [x1, x2] := fun W_ hk => rows2 (Blk.keptT hb hk hS) h1 (f1 W_ hk) h2 (f2 W_ hk)
/-! ### An Add or a Rewrite that is cut -/
def numT : Option Int → Int
  | none => 0
  | some n => n
/-- What lies on the tape behind a crash, when a call answered o: the rows that were, or the next ones. -/
def CutO (was next : List (List Int)) (X : List Int) (o : Option Int) : Prop :=
  (o = none ∧ X = FC next) ∨ (o = some 6 ∧ X = FC was) ∨ (o = some 5 ∧ (X = FC was ∨ ∃ r k, next = was ++ [r] ∧ (FC was).length ≤ k ∧ X = (FC next).take k))
theorem cut_told {was next : List (List Int)} {X : List Int} {o : Option Int} (h : CutO was next X o) (hw : ∀ p ∈ was, p.length ≤ 16376) (hn : ∀ p ∈ next, p.length ≤ 16376) {out : List (List Int)} {n : Nat} (hS : SplitR X out n) :
    (o = none ∧ out = next) ∨ (o = some 6 ∧ out = was) ∨ (o = some 5 ∧ (out = was ∨ out = next)) := by
  rcases h with ⟨h1, rfl⟩ | ⟨h1, rfl⟩ | ⟨h1, rfl | ⟨r, k, rfl, h2, rfl⟩⟩
  · exact .inl ⟨h1, (split_FC hn hS).1⟩
  · exact .inr (.inl ⟨h1, (split_FC hw hS).1⟩)
  · exact .inr (.inr ⟨h1, .inl (split_FC hw hS).1⟩)
  · obtain ⟨wh, q1, q2, q3, q4, q5⟩ := split_frames (was ++ [r]) hn k out n hS
    have e1 : ends (was ++ [r]) was.length = (FC was).length := by unfold ends; rw [List.take_left]
    have q6 : was.length ≤ wh := by
      rcases Nat.lt_or_ge wh was.length with h | h
      · have h3 := q5 (by rw [List.length_append]; simp; omega)
        have h4 : ends (was ++ [r]) (wh + 1) ≤ ends (was ++ [r]) was.length := by
          have e2 : (was ++ [r]).take (wh + 1) = was.take (wh + 1) := List.take_append_of_le_length (by omega)
          have e3 : ends (was ++ [r]) (wh + 1) = (FC (was.take (wh + 1))).length := by unfold ends; rw [e2]
          rw [e3, e1]
          exact FC_take_le was (wh + 1)
        omega
      · exact h
    rw [List.length_append] at q1
    simp only [List.length_cons, List.length_nil] at q1
    rcases Nat.lt_or_ge wh (was.length + 1) with h | h
    · have e2 : wh = was.length := by omega
      subst e2
      exact .inr (.inr ⟨h1, .inl (by rw [q2, List.take_left])⟩)
    · have e2 : wh = was.length + 1 := by omega
      exact .inr (.inr ⟨h1, .inr (by rw [q2, e2, List.take_of_length_le (by simp)])⟩)
theorem err_cases (s : TS) : s.err = none ∨ s.err = some 5 ∨ s.err = some 6 := by
  unfold TS.err
  split
  · exact .inr (.inl rfl)
  · split
    · exact .inr (.inl rfl)
    · split
      · exact .inr (.inr rfl)
      · exact .inl rfl
theorem next_dn (s : TS) (h : s.err = some 5) : s.next.dn = true := by
  unfold TS.err at h
  unfold TS.next
  split
  · assumption
  · rename_i h1
    rw [if_neg h1] at h
    split
    · rfl
    · rename_i h2
      rw [if_neg h2] at h
      split at h <;> simp at h
theorem next_up (s : TS) (h : s.err ≠ some 5) : s.next.dn = false := by
  unfold TS.err at h
  unfold TS.next
  split
  · rename_i h1
    rw [if_pos h1] at h
    exact absurd rfl h
  · rename_i h1
    rw [if_neg h1] at h
    split
    · rename_i h2
      rw [if_pos h2] at h
      exact absurd rfl h
    · have h3 : s.dn = false := by simpa using h1
      split
      · exact h3
      · exact h3
theorem crash_pl (s : TS) (k : Int) : ∃ X, s.crash k = pl X (X.length : Int) s.steps ∧ X = s.xs.take (s.sure + s.left k).toNat := ⟨_, rfl, rfl⟩
theorem cut_add (D : DS) (was : List (List Int)) (row : List Int) (keep : Int) (hok : D.s.Ok) (hxs : D.s.xs = FC was) (hsu : D.s.sure = ((FC was).length : Int)) (hl : row.length ≤ 16376) (hfit : (FC was).length + (8 + row.length) ≤ 1048576) (h9 : D.s.steps ≤ 1000) :
    ∃ X, (D.add row).s.crash keep = pl X (X.length : Int) (D.add row).s.steps ∧ CutO was (was ++ [row]) X (D.addE row) ∧ (D.add row).s.Ok ∧ (D.add row).s.steps ≤ 1002 := by
  have e0 := frameE_no hl
  have e1 := frameB_len row hl
  have e6 : FC (was ++ [row]) = FC was ++ frameB row := by rw [FC_append, FC_one]
  have hf : ¬ 1048576 < D.s.xs.length + (frameB row).length := by rw [hxs]; omega
  have eE : D.addE row = D.add1E row := by rw [DS.addE, e0, if_neg (by simp)]
  have eA : D.add row = if (D.add1E row).isSome then { D with s := (D.add1S row).cut } else ⟨D.add1S row, D.r + 1, D.b + ((frameB row).length : Int)⟩ := by rw [DS.add, e0, if_neg (by simp)]
  have eP : D.s.appE (frameB row) = D.s.err := by rw [TS.appE, if_neg hf]
  obtain ⟨n1, n2⟩ := next_ok hok (by omega)
  obtain ⟨x1, x2⟩ := (⟨D.s.next_xs, D.s.next_sure⟩ : D.s.next.xs = D.s.xs ∧ D.s.next.sure = D.s.sure)
  have cutw : ∀ t : TS, t.Ok → t.xs = FC was → t.sure = ((FC was).length : Int) → t.cut.xs = FC was ∧ t.cut.sure = ((FC was).length : Int) ∧ t.cut.steps = t.steps ∧ t.cut.Ok := fun t ht h1 h2 => by
    refine ⟨?_, ?_, ?_, TS.cut_ok ht⟩
    · unfold TS.cut; split
      · exact h1
      · show t.xs.take t.sure.toNat = FC was
        rw [h1, h2]; simp
    · unfold TS.cut; split <;> exact h2
    · unfold TS.cut; split <;> rfl
  have fin : ∀ t : TS, t.Ok → t.xs = FC was → t.sure = ((FC was).length : Int) → t.crash keep = pl (FC was) ((FC was).length : Int) t.steps := fun t ht h1 h2 => by
    rw [crash_sure t keep (by rw [h2, h1]), h1]
  rcases err_cases D.s with h | h | h
  · -- the frame is written
    have a1 : D.s.app (frameB row) = { D.s.next with xs := D.s.xs ++ frameB row } := by rw [TS.app, if_neg hf, if_neg (by rw [h]; simp)]
    obtain ⟨m1, m2⟩ := app_ok (frameB row) hok (by omega)
    have b1 : D.add1E row = (D.s.app (frameB row)).err := by rw [DS.add1E, eP, h]; rfl
    have b2 : D.add1S row = (D.s.app (frameB row)).sync := by rw [DS.add1S, eP, h]; rfl
    have ax : (D.s.app (frameB row)).xs = FC was ++ frameB row := by rw [a1]; show D.s.xs ++ frameB row = _; rw [hxs]
    have ass : (D.s.app (frameB row)).sure = ((FC was).length : Int) := by rw [a1]; show D.s.next.sure = _; rw [x2, hsu]
    generalize D.s.app (frameB row) = t at b1 b2 ax ass m1 m2
    obtain ⟨p1, p2⟩ := next_ok m1 (by omega)
    obtain ⟨y1, y2⟩ := (⟨t.next_xs, t.next_sure⟩ : t.next.xs = t.xs ∧ t.next.sure = t.sure)
    rcases err_cases t with g | g | g
    · have c1 : t.sync = { t.next with sure := (t.xs.length : Int) } := by rw [TS.sync, if_neg (by rw [g]; simp)]
      obtain ⟨s1, s2⟩ := sync_ok m1 (by omega)
      have d1 : D.add row = ⟨t.sync, D.r + 1, D.b + ((frameB row).length : Int)⟩ := by rw [eA, b1, g, if_neg (by simp), b2]
      refine ⟨FC was ++ frameB row, ?_, .inl ⟨by rw [eE, b1, g], e6.symm⟩, by rw [d1]; exact s1, by rw [d1]; show t.sync.steps ≤ 1002; omega⟩
      rw [d1]
      show t.sync.crash keep = _
      have d2 : t.sync.xs = FC was ++ frameB row := by rw [c1]; show t.next.xs = _; rw [y1, ax]
      have d3 : t.sync.sure = (t.sync.xs.length : Int) := by rw [d2, c1]; show (t.xs.length : Int) = _; rw [ax]
      rw [crash_sure _ keep d3, d2]
    · have c1 : t.sync = t.next := by rw [TS.sync, if_pos (by rw [g]; rfl)]
      have d1 : D.add row = { D with s := t.next } := by
        rw [eA, b1, g, if_pos (by rfl), b2, c1, TS.cut, if_pos (next_dn t g)]
      have d2 : (D.add row).s = t.next := by rw [d1]
      have zx : t.next.xs = FC was ++ frameB row := by rw [y1, ax]
      have zs : t.next.sure = ((FC was).length : Int) := by rw [y2, ass]
      obtain ⟨X, f1, f2⟩ := crash_pl t.next keep
      refine ⟨X, by rw [d2]; exact f1, .inr (.inr ⟨by rw [eE, b1, g], .inr ⟨row, (t.next.sure + t.next.left keep).toNat, rfl, ?_, ?_⟩⟩), by rw [d2]; exact p1, by rw [d2]; omega⟩
      · have := (TS.left_le t.next keep p1).1
        rw [zs]
        omega
      · rw [f2, zx, e6]
    · have c1 : t.sync = t.next := by rw [TS.sync, if_pos (by rw [g]; rfl)]
      have zx : t.next.xs = FC was ++ frameB row := by rw [y1, ax]
      have zs : t.next.sure = ((FC was).length : Int) := by rw [y2, ass]
      have d1 : (D.add row).s = t.next.cut := by rw [eA, b1, g, if_pos (by rfl), b2, c1]
      have up := next_up t (by rw [g]; simp)
      have ux : t.next.cut.xs = FC was := by
        rw [TS.cut, if_neg (by rw [up]; simp)]
        show t.next.xs.take t.next.sure.toNat = FC was
        rw [zx, zs]
        simp
      have us : t.next.cut.sure = ((FC was).length : Int) := by rw [TS.cut, if_neg (by rw [up]; simp)]; exact zs
      have uu : t.next.cut.steps = t.next.steps := by rw [TS.cut, if_neg (by rw [up]; simp)]
      have uo := TS.cut_ok p1
      exact ⟨FC was, by rw [d1]; exact fin _ uo ux us, .inr (.inl ⟨by rw [eE, b1, g], rfl⟩), by rw [d1]; exact uo, by rw [d1, uu]; omega⟩
  all_goals
    have a1 : D.s.app (frameB row) = D.s.next := by rw [TS.app, if_neg hf, if_pos (by rw [h]; rfl)]
    have b1 : D.add1E row = D.s.err := by rw [DS.add1E, eP, h]; rfl
    have b2 : D.add1S row = D.s.next := by rw [DS.add1S, eP, h, a1]; rfl
    have d1 : (D.add row).s = D.s.next.cut := by rw [eA, b1, h, if_pos (by rfl), b2]
    obtain ⟨u1, u2, u3, u4⟩ := cutw _ n1 (by rw [x1, hxs]) (by rw [x2, hsu])
    refine ⟨FC was, by rw [d1]; exact fin _ u4 u1 u2, ?_, by rw [d1]; exact u4, by rw [d1, u3]; omega⟩
    rw [eE, b1, h]
  · exact .inr (.inr ⟨rfl, .inl rfl⟩)
  · exact .inr (.inl ⟨rfl, rfl⟩)
theorem cut_rw (D : DS) (was next : List (List Int)) (keep : Int) (hok : D.s.Ok) (hxs : D.s.xs = FC was) (hsu : D.s.sure = ((FC was).length : Int)) (hn : ∀ p ∈ next, p.length ≤ 16376) (hfit : (FC next).length ≤ 1048576) (h9 : D.s.steps ≤ 1000) :
    ∃ X, (D.rw next).s.crash keep = pl X (X.length : Int) (D.rw next).s.steps ∧ CutO was next X (D.rwE next) ∧ (D.rw next).s.Ok ∧ (D.rw next).s.steps ≤ 1002 := by
  have hf := rwFull_no hn hfit
  have hl : ¬ 1048576 < (FC next).length := by omega
  have nf : ¬ rwFull next = true := by rw [hf]; simp
  have eE : D.rwE next = D.s.err := by rw [DS.rwE, if_neg nf, TS.repE, if_neg hl]
  have eS : (D.rw next).s = D.s.rep (FC next) := by rw [DS.rw, if_neg nf]; split <;> rfl
  obtain ⟨r1, r2⟩ := rep_ok (FC next) hok (by omega)
  obtain ⟨x1, x2⟩ := (⟨D.s.next_xs, D.s.next_sure⟩ : D.s.next.xs = D.s.xs ∧ D.s.next.sure = D.s.sure)
  rcases err_cases D.s with h | h | h
  · have e2 : D.s.rep (FC next) = { D.s.next with xs := FC next, sure := ((FC next).length : Int) } := by rw [TS.rep, if_neg hl, if_neg (by rw [h]; simp)]
    refine ⟨FC next, ?_, .inl ⟨by rw [eE, h], rfl⟩, by rw [eS]; exact r1, by rw [eS]; omega⟩
    rw [eS]
    have d3 : (D.s.rep (FC next)).sure = ((D.s.rep (FC next)).xs.length : Int) := by rw [e2]
    rw [crash_sure _ keep d3, e2]
  all_goals
    have e2 : D.s.rep (FC next) = D.s.next := by rw [TS.rep, if_neg hl, if_pos (by rw [h]; rfl)]
    refine ⟨FC was, ?_, ?_, by rw [eS]; exact r1, by rw [eS]; omega⟩
    · rw [eS, e2, crash_sure _ keep (by rw [x2, x1, hsu, hxs]), x1, hxs]
  · exact .inr (.inr ⟨by rw [eE, h], .inl rfl⟩)
  · exact .inr (.inl ⟨by rw [eE, h], rfl⟩)
end Go.Proofs.Ytiiljpaedelhlaa.Tp
