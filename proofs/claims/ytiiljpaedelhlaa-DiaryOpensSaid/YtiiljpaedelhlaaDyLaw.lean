/- What the laws of diaries say of tapes and rows: plain. -/
import Derived.Test.YtiiljpaedelhlaaDyOpen
namespace Go.Proofs.Ytiiljpaedelhlaa.Tp
open Go.RowKit Go.Proofs.YtiiljpaedelhlaaW.PrintWords Go.Proofs.YtiiljpaedelhlaaW.PrintLast Go.Proofs.YtiiljpaedelhlaaW.PrintMore
open Go.Proofs.Ytiiljpaedelhlaa.Flow
open Go.Proofs.Ytiiljpaedelhlaa.PDiaryPlays (SplitR Bytes frameB frameE FC wholeP frameB_len frameB_bytes ends split_frames)
set_option linter.unusedVariables false
set_option linter.unusedSimpArgs false
def pl (xs : List Int) (sure steps : Int) : TS := ⟨xs, sure, steps, false, 0, false, 0, false⟩
theorem pl_start : TS.start = pl [] 0 0 := rfl
theorem pl_ok {xs : List Int} {sure steps : Int} (h1 : 0 ≤ steps ∧ steps ≤ 1000000000) (h2 : 0 ≤ sure ∧ sure ≤ xs.length) (h3 : xs.length ≤ 1048576) : (pl xs sure steps).Ok :=
  ⟨h1, by simp [pl], by simp [pl], h2, h3⟩
/-- A block whose cells are known, marked or not. -/
def FB (w : World) (g : Nat) (t : TypeId) (cs : Array Value) : Prop := ∃ q, w.heap[g]? = some (.cells cs t q)
theorem FB.lt {w : World} {g : Nat} {t : TypeId} {cs : Array Value} (h : FB w g t cs) : g < w.heap.size := by
  obtain ⟨q, h⟩ := h
  rcases Nat.lt_or_ge g w.heap.size with hlt | hge
  · exact hlt
  · rw [Array.getElem?_eq_none hge] at h
    cases h
theorem FB.on {w w' : World} {g : Nat} {t : TypeId} {cs : Array Value} (h : FB w g t cs) (hb : Below w.heap.size w w') : FB w' g t cs := by
  have hl := h.lt
  obtain ⟨q, h⟩ := h
  exact ⟨q, (hb.block g hl).trans h⟩
theorem FB.keep {w w' : World} {g g2 : Nat} {t : TypeId} {cs : Array Value} (h : FB w g t cs) (hk : Keep g2 w w') (hne : g ≠ g2) : FB w' g t cs := by
  obtain ⟨q, h⟩ := h
  exact ⟨q, (hk.block g hne).trans h⟩
theorem FB.C {k : IntKind} {w : World} {g : Nat} {t : TypeId} {cs : Array Value} {xs : List Int} (h : FB w g t cs) (hN : Nums k cs xs) (hm : xs.length ≤ 9223372036854775807) : (Kd.int k).C w (some ⟨g, 0, none⟩) xs.length xs := by
  obtain ⟨q, h⟩ := h
  refine ⟨rfl, hm, fun hn => ⟨_, rfl, fun j p hj => ⟨[.int k p], rfl, rfl, fun i u hu => ?_⟩⟩⟩
  obtain ⟨hl, hp⟩ := List.getElem?_eq_some_iff.1 hj
  have h2 := hN j hl
  rcases i with _ | i
  · have hu' : u = .int k p := by simpa using hu.symm
    subst hu'
    have e : (⟨g, 0, none⟩ : Addr).add (j * 1 + 0) = ⟨g, j, none⟩ := by rw [add_plain]; simp
    show w.cell? ((⟨g, 0, none⟩ : Addr).add (j * 1 + 0)) = _
    rw [e]
    have e2 : w.cell? ⟨g, j, none⟩ = cs[j]? := by simp [World.cell?, h]
    rw [e2, h2]
    simp [List.getD_eq_getElem?_getD, hj]
  · simp at hu
theorem FB.K {S : Nat → Prop} {k : IntKind} {w : World} {g : Nat} {t : TypeId} {cs : Array Value} {xs : List Int} (h : FB w g t cs) (hN : Nums k cs xs) (hm : xs.length ≤ 9223372036854775807) (hS : ¬ S g) : ∀ W_, Kept w W_ S → (Kd.int k).C W_ (some ⟨g, 0, none⟩) xs.length xs := fun W_ hk => by
  have hl := h.lt
  obtain ⟨q, h⟩ := h
  exact FB.C ⟨q, (hk.2 g hl hS).trans h⟩ hN hm
theorem conv_same {w : World} {g : Nat} {cs : Array Value} (hb : Blk w g 5 cs) (n c : Nat) : ∃ w', (convert 32 32 (.slice (some ⟨g, 0, none⟩) n c)).run Try.prog w = .ok (.slice (some ⟨g, 0, none⟩) n c) w' ∧ Keep g w w' ∧ FB w' g 5 cs := by
  have hb' : w.heap[g]? = some (.cells cs 5 (0, 0)) := hb
  have hsh : w.shape? g = some (5, cs.size) := by simp [World.shape?, hb']
  refine ⟨w.freeze ⟨g, cs.size, none⟩ 1, ?_, ?_, ?_⟩
  · simp [convert, run_underlying Try.underlying32, run_underlying Try.underlying5, markStringish, hsh, Result.andThen]
  · refine ⟨rfl, rfl, rfl, by simp [World.freeze], fun k hk => ?_⟩
    simp [World.freeze, Array.getElem?_modify, Ne.symm hk]
  · refine ⟨(cs.size, cs.size + 1), ?_⟩
    simp [World.freeze, Array.getElem?_modify, hb']
theorem TapeAt.far {w0 w w' : World} {g m x q : Nat} {s : TS} (h : TapeAt w0 w g m x s) (k : Keep q w w') (hq : m ≤ q) (hq0 : w0.heap.size ≤ q) : TapeAt w0 w' g m x s := by
  obtain ⟨h1, h2, h3, A, n, c, h4, h5⟩ := h
  exact ⟨k.below hq0 h1, h2, ⟨h3.1, by rw [k.size]; exact h3.2⟩, A, n, c, h4.keep k (by omega), BR.step h5 (fun z hz _ => k.block z (by have := hz.2.1; omega))⟩
def okB (s : TS) : Bool := decide (0 ≤ s.steps) && decide (s.steps ≤ 1000000000) && decide (0 ≤ s.pl) && decide (s.pl ≤ 9223372036854775807) && decide (0 ≤ s.fl) && decide (s.fl ≤ 9223372036854775807) && decide (0 ≤ s.sure) && decide (s.sure ≤ s.xs.length) && decide (s.xs.length ≤ 1048576)
theorem okB_ok {s : TS} (h : okB s = true) : s.Ok := by
  unfold okB at h
  simp only [Bool.and_eq_true, decide_eq_true_eq] at h
  obtain ⟨⟨⟨⟨⟨⟨⟨⟨h1, h2⟩, h3⟩, h4⟩, h5⟩, h6⟩, h7⟩, h8⟩, h9⟩ := h
  exact ⟨⟨h1, h2⟩, ⟨h3, h4⟩, ⟨h5, h6⟩, ⟨h7, h8⟩, h9⟩
theorem new_on {w w1 w2 : World} {g : Nat} (hb : Below w.heap.size w w1) (h : TapeAt w1 w2 g w2.heap.size g TS.start) : TapeAt w w2 g w2.heap.size g TS.start := by
  obtain ⟨h1, h2, h3, A, n, c, h4, h5⟩ := h
  have hs := hb.size
  exact ⟨chain hb h1, by omega, h3, A, n, c, h4, BR.lower h5 hs⟩
/-! ### Rows one behind the other -/
theorem FC_append (a b : List (List Int)) : FC (a ++ b) = FC a ++ FC b := by unfold FC; rw [List.map_append, List.flatten_append]
theorem FC_one (r : List Int) : FC [r] = frameB r := by unfold FC; simp
theorem FC_bytes {rows : List (List Int)} (h : ∀ r ∈ rows, Bytes r) : Bytes (FC rows) := by
  intro c hc
  unfold FC at hc
  obtain ⟨l, hl, hc⟩ := List.mem_flatten.1 hc
  obtain ⟨r, hr, rfl⟩ := List.mem_map.1 hl
  exact frameB_bytes r (h r hr) c hc
theorem ends_full (ps : List (List Int)) : ends ps ps.length = (FC ps).length := by unfold ends; rw [List.take_length]
theorem ends_le (ps : List (List Int)) (j : Nat) : ends ps j ≤ (FC ps).length := FC_take_le ps j
theorem split_FC {ps : List (List Int)} (h : ∀ p ∈ ps, p.length ≤ 16376) {l : List (List Int)} {n : Nat} (hS : SplitR (FC ps) l n) : l = ps ∧ n = (FC ps).length := by
  have h2 := split_frames ps h (FC ps).length l n (by rw [List.take_length]; exact hS)
  obtain ⟨wh, h3, h4, h5, h6, h7⟩ := h2
  have h8 : wh = ps.length := by
    rcases Nat.lt_or_ge wh ps.length with h9 | h9
    · have := h7 h9
      have := ends_le ps (wh + 1)
      omega
    · omega
  subst h8
  rw [List.take_length] at h4
  exact ⟨h4, by rw [h5, ends_full]⟩
/-- An opening of rows that are all whole. -/
theorem open_full (w0 w : World) (g m x : Nat) (hx : x < w.heap.size) (s : TS) (hT : TapeAt w0 w g m x s) (hok : s.Ok) (rows : List (List Int)) (hxs : s.xs = FC rows) (hr : ∀ r ∈ rows, r.length ≤ 16376) (hb : ∀ r ∈ rows, Bytes r) (hdn : s.dn = false) :
    Calls Try.prog 11 #[.pointer (some ⟨g, 0, none⟩)] w fun e w' => ∃ (gd m' : Nat) (A : Option Addr) (c : Nat), e = .returned (.tuple #[.pointer (some ⟨gd, 0, none⟩), .slice A rows.length c, errT none]) ∧ DiaryAt w0 w' g gd m' ⟨s, (rows.length : Int), ((FC rows).length : Int)⟩ ∧ OwnK (Kd.slice 5 (Kd.int .u8)) 32 w' w.heap.size w.heap.size A rows.length c rows ∧ w.heap.size ≤ w'.heap.size ∧ Kept w w' (fun k => k = g) := by
  refine (open_D w0 w g m x hx s hT hok (by rw [hxs]; exact FC_bytes hb)).mono fun e w' h => ?_
  obtain ⟨hs, hK, h | ⟨_, out, n, hS, h⟩⟩ := h
  · rw [hdn] at h; cases h.1
  · rw [hxs] at hS
    obtain ⟨rfl, rfl⟩ := split_FC hr hS
    have e1 : openE s (FC out).length = none := by rw [openE, hdn, hxs]; simp
    have e2 : openS s (FC out).length = s := by rw [openS, hdn, hxs]; simp
    rcases h with ⟨c, h1, _⟩ | ⟨_, gd, m', A, c, h2, h3, h4⟩
    · rw [e1] at h1; cases h1
    · rw [e2] at h3
      exact ⟨gd, m', A, c, h2, h3, h4, hs, hK⟩
end Go.Proofs.Ytiiljpaedelhlaa.Tp
