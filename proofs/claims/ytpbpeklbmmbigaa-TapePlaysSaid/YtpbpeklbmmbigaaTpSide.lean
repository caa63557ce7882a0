/- What a tape's laws need beside its methods. -/
import Derived.Test.YtpbpeklbmmbigaaTpOps5
import Derived.Test.YtpbpeklbmmbigaaFlowU
import Derived.Test.YtpbpeklbmmbigaaFlowX
namespace Go.Proofs.Ytpbpeklbmmbigaa.Tp
open Go.RowKit Go.Proofs.YtpbpeklbmmbigaaW.PrintWords Go.Proofs.YtpbpeklbmmbigaaW.PrintLast Go.Proofs.YtpbpeklbmmbigaaW.PrintMore
open Go.Proofs.Ytpbpeklbmmbigaa.Flow
set_option linter.unusedVariables false
set_option linter.unusedSimpArgs false

theorem run_err_eq0 (o : Option Int) (w : World) : (binOp .eql 29 (errT o) .nilIface).run Try.prog w = .ok (.bool o.isNone) w := by
  cases o with
  | none => kernel_rfl
  | some c => kernel_rfl
theorem guard_err_eq0 (t : Nat) (o : Option Int) (w : World) : (do eqGuard .eql 29 (.tmp t) (.const .nilIface) (errT o) .nilIface; binOp .eql 29 (errT o) .nilIface : Sem Value).run Try.prog w = .ok (.bool o.isNone) w := by
  have h := run_err_eq0 o w
  cases o with
  | none => simpa [eqGuard, errT] using h
  | some c => simpa [eqGuard, errT] using h
theorem crash_T (w0 w : World) (g m : Nat) (x : Nat → Prop) (hx : ∀ q, x q → q < w.heap.size) (s : TS) (hT : TapeAt w0 w g m x s) (hok : s.Ok) (k : Int) : Calls Try.prog 14 #[.pointer (some ⟨g, 0, none⟩), .int .i64 k] w fun e w' => e = .returned (.tuple #[]) ∧ TapeAt w0 w' g w'.heap.size x (s.crash k) ∧ w.heap.size ≤ w'.heap.size ∧ (∀ q, x q → q ≠ g → w'.heap[q]? = w.heap[q]?) := by
  obtain ⟨hB, hg0, hm, A, n, c, hb, hR⟩ := hT
  exact crash_raw w0 w g m x hx s A n c hB hg0 hm hb hR hok k
theorem TapeAt.hole {w0 w : World} {g m : Nat} {x : Nat → Prop} {s : TS} (h : TapeAt w0 w g m x s) (y : Nat → Prop) (hy : ∀ q, g < q → q < m → ¬ x q → ¬ y q) : TapeAt w0 w g m y s := by
  obtain ⟨h1, h2, h3, A, n, c, h4, h5⟩ := h
  exact ⟨h1, h2, h3, A, n, c, h4, BR.mono h5 (fun q hq => ⟨hq.1, hq.2.1, hy q hq.1 hq.2.1 hq.2.2⟩)⟩
def HX (gd : Nat) (x : Nat → Prop) : Nat → Prop := fun q => q = gd ∨ x q
def HI (gd lo hi : Nat) : Nat → Prop := fun q => q = gd ∨ (lo ≤ q ∧ q < hi)
theorem HX.lt {gd n : Nat} {x : Nat → Prop} (h1 : gd < n) (h2 : ∀ q, x q → q < n) : ∀ q, HX gd x q → q < n := fun q h => h.elim (fun e => e ▸ h1) (h2 q)
theorem HI.lt {gd lo hi n : Nat} (h1 : gd < n) (h2 : hi ≤ n) : ∀ q, HI gd lo hi q → q < n := fun q h => h.elim (fun e => e ▸ h1) (fun h => Nat.lt_of_lt_of_le h.2 h2)
theorem TapeAt.holeX {w0 w : World} {g m : Nat} {x : Nat → Prop} {s : TS} (h : TapeAt w0 w g m x s) {gd : Nat} (hgd : m ≤ gd) : TapeAt w0 w g m (HX gd x) s := h.hole _ (fun q h1 h2 h3 h4 => h4.elim (fun e => by omega) h3)
theorem TapeAt.beside {w0 w w' : World} {g m z : Nat} {x : Nat → Prop} {s : TS} (h : TapeAt w0 w g m x s) (k : Keep z w w') (hxz : x z) (hxg : z ≠ g) (hx : w0.heap.size ≤ z) : TapeAt w0 w' g m x s := by
  obtain ⟨h1, h2, h3, A, n, c, h4, h5⟩ := h
  exact ⟨k.below hx h1, h2, ⟨h3.1, by rw [k.size]; exact h3.2⟩, A, n, c, h4.keep k (Ne.symm hxg), BR.step h5 (fun q hq _ => k.block q (fun e => hq.2.2 (e ▸ hxz)))⟩
theorem TapeAt.size {w0 w : World} {g m : Nat} {x : Nat → Prop} {s : TS} (h : TapeAt w0 w g m x s) : w0.heap.size ≤ g ∧ g < m ∧ m ≤ w.heap.size := ⟨h.2.1, h.2.2.1.1, h.2.2.1.2⟩
theorem ownK_kept {α : Type} {d : Kd α} {e : TypeId} {w : World} {base b : Nat} {A : Option Addr} {n c : Nat} {xs : List α} {S : Nat → Prop} (h : OwnK d e w base b A n c xs) (hS : ∀ q, b ≤ q → ¬ S q) : ∀ W_, Kept w W_ S → d.C W_ A xs.length xs := fun W_ hk => OwnK.C (h.step (fun q hq hlt => hk.2 q hlt (hS q hq)) : OwnK d e W_ base b A n c xs)
theorem Blk.keptT {w w' : World} {g t : Nat} {cs : Array Value} {S : Nat → Prop} (h : Blk w g t cs) (hk : Kept w w' S) (hS : ¬ S g) : Blk w' g t cs := (hk.2 g h.lt hS).trans h
theorem rowsK1 {k : IntKind} {e t : TypeId} {w : World} {g : Nat} {A1 : Option Addr} {c1 : Nat} {x1 : List Int} {S : Nat → Prop} (hb : Blk w g t #[.slice A1 x1.length c1]) (hS : ¬ S g) (h1 : x1.length ≤ c1) (f1 : ∀ W_, Kept w W_ S → (Kd.int k).C W_ A1 x1.length x1) : ∀ W_, Kept w W_ S → (Kd.slice e (Kd.int k)).C W_ (some ⟨g, 0, none⟩) [x1].length [x1] := fun W_ hk => rows1 (Blk.keptT hb hk hS) h1 (f1 W_ hk)
def pl (xs : List Int) (sure steps : Int) : TS := ⟨xs, sure, steps, false, 0, false, 0, false⟩
theorem pl_start : TS.start = pl [] 0 0 := rfl
theorem pl_ok {xs : List Int} {sure steps : Int} (h1 : 0 ≤ steps ∧ steps ≤ 1000000000) (h2 : 0 ≤ sure ∧ sure ≤ xs.length) (h3 : xs.length ≤ 1048576) : (pl xs sure steps).Ok :=
  ⟨h1, by simp [pl], by simp [pl], h2, h3⟩
def FB (w : World) (g : Nat) (t : TypeId) (cs : Array Value) : Prop := ∃ q, w.heap[g]? = some (.cells cs t q)
theorem FB.lt {w : World} {g : Nat} {t : TypeId} {cs : Array Value} (h : FB w g t cs) : g < w.heap.size := by
  obtain ⟨q, h⟩ := h
  rcases Nat.lt_or_ge g w.heap.size with hlt | hge
  · exact hlt
  · rw [Array.getElem?_eq_none hge] at h
    cases h
theorem FB.on {w w' : World} {g : Nat} {t : TypeId} {cs : Array Value} (h : FB w g t cs) (hb : Below w.heap.size w w') : FB w' g t cs := by
  have hl := h.lt
  obtain ⟨q, h⟩ := h
  exact ⟨q, (hb.block g hl).trans h⟩
theorem FB.keep {w w' : World} {g g2 : Nat} {t : TypeId} {cs : Array Value} (h : FB w g t cs) (hk : Keep g2 w w') (hne : g ≠ g2) : FB w' g t cs := by
  obtain ⟨q, h⟩ := h
  exact ⟨q, (hk.block g hne).trans h⟩
theorem FB.C {k : IntKind} {w : World} {g : Nat} {t : TypeId} {cs : Array Value} {xs : List Int} (h : FB w g t cs) (hN : Nums k cs xs) (hm : xs.length ≤ 9223372036854775807) : (Kd.int k).C w (some ⟨g, 0, none⟩) xs.length xs := by
  obtain ⟨q, h⟩ := h
  refine ⟨rfl, hm, fun hn => ⟨_, rfl, fun j p hj => ⟨[.int k p], rfl, rfl, fun i u hu => ?_⟩⟩⟩
  obtain ⟨hl, hp⟩ := List.getElem?_eq_some_iff.1 hj
  have h2 := hN j hl
  rcases i with _ | i
  · have hu' : u = .int k p := by simpa using hu.symm
    subst hu'
    have e : (⟨g, 0, none⟩ : Addr).add (j * 1 + 0) = ⟨g, j, none⟩ := by rw [add_plain]; simp
    show w.cell? ((⟨g, 0, none⟩ : Addr).add (j * 1 + 0)) = _
    rw [e]
    have e2 : w.cell? ⟨g, j, none⟩ = cs[j]? := by simp [World.cell?, h]
    rw [e2, h2]
    simp [List.getD_eq_getElem?_getD, hj]
  · simp at hu
theorem FB.K {S : Nat → Prop} {k : IntKind} {w : World} {g : Nat} {t : TypeId} {cs : Array Value} {xs : List Int} (h : FB w g t cs) (hN : Nums k cs xs) (hm : xs.length ≤ 9223372036854775807) (hS : ¬ S g) : ∀ W_, Kept w W_ S → (Kd.int k).C W_ (some ⟨g, 0, none⟩) xs.length xs := fun W_ hk => by
  have hl := h.lt
  obtain ⟨q, h⟩ := h
  exact FB.C ⟨q, (hk.2 g hl hS).trans h⟩ hN hm
theorem conv_same {w : World} {g : Nat} {cs : Array Value} (hb : Blk w g 5 cs) (n c : Nat) : ∃ w', (convert 27 27 (.slice (some ⟨g, 0, none⟩) n c)).run Try.prog w = .ok (.slice (some ⟨g, 0, none⟩) n c) w' ∧ Keep g w w' ∧ FB w' g 5 cs := by
  have hb' : w.heap[g]? = some (.cells cs 5 (0, 0)) := hb
  have hsh : w.shape? g = some (5, cs.size) := by simp [World.shape?, hb']
  refine ⟨w.freeze ⟨g, cs.size, none⟩ 1, ?_, ?_, ?_⟩
  · simp [convert, run_underlying Try.underlying27, run_underlying Try.underlying5, markStringish, hsh, Result.andThen]
  · refine ⟨rfl, rfl, rfl, by simp [World.freeze], fun k hk => ?_⟩
    simp [World.freeze, Array.getElem?_modify, Ne.symm hk]
  · refine ⟨(cs.size, cs.size + 1), ?_⟩
    simp [World.freeze, Array.getElem?_modify, hb']
theorem TapeAt.far {w0 w w' : World} {g m q : Nat} {x : Nat → Prop} {s : TS} (h : TapeAt w0 w g m x s) (k : Keep q w w') (hq : m ≤ q) (hq0 : w0.heap.size ≤ q) : TapeAt w0 w' g m x s := by
  obtain ⟨h1, h2, h3, A, n, c, h4, h5⟩ := h
  exact ⟨k.below hq0 h1, h2, ⟨h3.1, by rw [k.size]; exact h3.2⟩, A, n, c, h4.keep k (by omega), BR.step h5 (fun z hz _ => k.block z (by have := hz.2.1; omega))⟩
def okB (s : TS) : Bool := decide (0 ≤ s.steps) && decide (s.steps ≤ 1000000000) && decide (0 ≤ s.pl) && decide (s.pl ≤ 9223372036854775807) && decide (0 ≤ s.fl) && decide (s.fl ≤ 9223372036854775807) && decide (0 ≤ s.sure) && decide (s.sure ≤ s.xs.length) && decide (s.xs.length ≤ 1048576)
theorem okB_ok {s : TS} (h : okB s = true) : s.Ok := by
  unfold okB at h
  simp only [Bool.and_eq_true, decide_eq_true_eq] at h
  obtain ⟨⟨⟨⟨⟨⟨⟨⟨h1, h2⟩, h3⟩, h4⟩, h5⟩, h6⟩, h7⟩, h8⟩, h9⟩ := h
  exact ⟨⟨h1, h2⟩, ⟨h3, h4⟩, ⟨h5, h6⟩, ⟨h7, h8⟩, h9⟩
theorem new_on {w w1 w2 : World} {g : Nat} (hb : Below w.heap.size w w1) (h : TapeAt w1 w2 g w2.heap.size (fun _ => False) TS.start) : TapeAt w w2 g w2.heap.size (fun _ => False) TS.start := by
  obtain ⟨h1, h2, h3, A, n, c, h4, h5⟩ := h
  have hs := hb.size
  exact ⟨chain hb h1, by omega, h3, A, n, c, h4, BR.lower h5 hs⟩
theorem TapeAt.grown {w0 w w' : World} {g m : Nat} {x : Nat → Prop} {s : TS} {α : Type} {d : Kd α} {e : TypeId} {base b : Nat} {A : Option Addr} {n c : Nat} {ys : List α} (h : TapeAt w0 w g m x s) (ho : OwnK d e w base b A n c ys) (hb : m ≤ b) (hB : Below w0.heap.size w0 w') (hG : w.grownBy w' (Value.slice A n c).ownBlock) : TapeAt w0 w' g m x s := by
  obtain ⟨h1, h2, h3, A', n', c', h4, h5⟩ := h
  have hs := hG.size
  exact ⟨hB, h2, ⟨h3.1, by omega⟩, A', n', c', OwnK.blk_grown h4 ho (.inl (by omega)) hG, BR.step h5 (fun z hz hlt => hG.block z hlt (fun he => by have := OwnK.blk_ge ho he.symm; have := hz.2.1; omega))⟩
theorem rowsK2 {k : IntKind} {e t : TypeId} {w : World} {g : Nat} {A1 A2 : Option Addr} {c1 c2 : Nat} {x1 x2 : List Int} {S : Nat → Prop} (hb : Blk w g t #[.slice A1 x1.length c1, .slice A2 x2.length c2]) (hS : ¬ S g) (h1 : x1.length ≤ c1) (f1 : ∀ W_, Kept w W_ S → (Kd.int k).C W_ A1 x1.length x1) (h2 : x2.length ≤ c2) (f2 : ∀ W_, Kept w W_ S → (Kd.int k).C W_ A2 x2.length x2) : ∀ W_, Kept w W_ S → (Kd.slice e (Kd.int k)).C W_ (some ⟨g, 0, none⟩) [x1, x2].length [x1, x2] := fun W_ hk => rows2 (Blk.keptT hb hk hS) h1 (f1 W_ hk) h2 (f2 W_ hk)
def numT : Option Int → Int
  | none => 0
  | some n => n
theorem sync_ok {s : TS} (h : s.Ok) (h9 : s.steps ≤ 999999999) : s.sync.Ok ∧ s.sync.steps ≤ s.steps + 1 := by
  obtain ⟨a, b, c, d, e⟩ := h
  have p1 := duel_ok s.ps s.pl b
  have p2 := duel_ok s.fs s.fl c
  unfold TS.sync TS.next
  split <;> split <;> (try split) <;> (try split) <;> exact ⟨⟨by (try simp only); omega, by first | exact b | exact p1, by first | exact c | exact p2 | ((try simp only); omega), by (try simp only); omega, e⟩, by (try simp only); omega⟩
theorem next_ok {s : TS} (h : s.Ok) (h9 : s.steps ≤ 999999999) : s.next.Ok ∧ s.next.steps ≤ s.steps + 1 := by
  obtain ⟨a, b, c, d, e⟩ := h
  have p1 := duel_ok s.ps s.pl b
  have p2 := duel_ok s.fs s.fl c
  unfold TS.next
  split <;> (try split) <;> (try split) <;> exact ⟨⟨by (try simp only); omega, by first | exact b | exact p1, by first | exact c | exact p2 | ((try simp only); omega), by (try simp only); omega, e⟩, by (try simp only); omega⟩
theorem app_ok {s : TS} (ys : List Int) (h : s.Ok) (h9 : s.steps ≤ 999999999) : (s.app ys).Ok ∧ (s.app ys).steps ≤ s.steps + 1 := by
  have hn := next_ok h h9
  obtain ⟨⟨a, b, c, d, e⟩, f⟩ := hn
  have e1 := s.next_xs
  have e2 := s.next_sure
  have h4 := h.sure
  have h5 := h.len
  unfold TS.app
  split
  · exact ⟨h, by omega⟩
  · split
    · exact ⟨⟨a, b, c, d, e⟩, f⟩
    · exact ⟨⟨a, b, c, by simp only [List.length_append]; omega, by simp only [List.length_append]; omega⟩, f⟩
theorem rep_ok {s : TS} (ys : List Int) (h : s.Ok) (h9 : s.steps ≤ 999999999) : (s.rep ys).Ok ∧ (s.rep ys).steps ≤ s.steps + 1 := by
  have hn := next_ok h h9
  obtain ⟨⟨a, b, c, d, e⟩, f⟩ := hn
  unfold TS.rep
  split
  · exact ⟨h, by omega⟩
  · split
    · exact ⟨⟨a, b, c, d, e⟩, f⟩
    · exact ⟨⟨a, b, c, by (try simp only); omega, by (try simp only); omega⟩, f⟩
set_option maxHeartbeats 4000000 in
theorem num_none (w : World) :
    Calls Try.prog 22 #[errT none] w fun e w' => e = .returned (.int .i64 0) ∧ Below w.heap.size w w' := by
  refine calls_flow Try.func22 rfl 19 rfl (Nat.le_of_ble_eq_true rfl) [(0, errT none)] ?_ ?_
  · intro t v h; exact args_look rfl t v h
  refine w_seq ?_
  refine w_region ?_
  refine rw_val (v := .int .i64 0) (w' := w) rfl rfl rfl rfl rfl ?_
  refine rw_end ?_
  refine w_seq ?_
  refine w_seq ?_
  refine w_region ?_
  refine rw_val (v := errT none) (w' := w) rfl rfl rfl rfl rfl ?_
  refine rw_val (v := .bool ((none : Option Int).isNone)) (w' := w) rfl rfl rfl rfl (run_as (guard_err_eq0 _ (none : Option Int) _)) ?_
  refine rw_end ?_
  have hq1 : ((none : Option Int).isNone) = true := by rfl
  have hq2 : ((none : Option Int).isNone) = true := by rfl
  refine w_cond_t rfl rfl hq2 ?_
  refine w_seq ?_
  refine w_region ?_
  refine rw_val (v := .int .i64 0) (w' := w) rfl rfl rfl rfl rfl ?_
  refine rw_end ?_
  refine w_ret (post_ret1 rfl rfl ?_)
  exact ⟨rfl, (Below.refl _ _)⟩
set_option maxHeartbeats 4000000 in
theorem num_some (c : Int) (hc : (c == 0) = false) (w : World) :
    Calls Try.prog 22 #[errT (some c)] w fun e w' => e = .returned (.int .i64 c) ∧ Below w.heap.size w w' := by
  refine calls_flow Try.func22 rfl 19 rfl (Nat.le_of_ble_eq_true rfl) [(0, errT (some c))] ?_ ?_
  · intro t v h; exact args_look rfl t v h
  refine w_seq ?_
  refine w_region ?_
  refine rw_val (v := .int .i64 0) (w' := w) rfl rfl rfl rfl rfl ?_
  refine rw_end ?_
  refine w_seq ?_
  refine w_seq ?_
  refine w_region ?_
  refine rw_val (v := errT (some c)) (w' := w) rfl rfl rfl rfl rfl ?_
  refine rw_val (v := .bool ((some c).isNone)) (w' := w) rfl rfl rfl rfl (run_as (guard_err_eq0 _ (some c) _)) ?_
  refine rw_end ?_
  have hq1 : ((some c).isNone) = false := by rfl
  refine w_cond_f rfl rfl hq1 ?_
  refine w_skip ?_
  refine w_seq ?_
  refine w_region ?_
  refine rw_val (v := errT (some c)) (w' := w) rfl rfl rfl rfl rfl ?_
  refine rw_val (v := .tuple #[.int .i64 c, .bool true]) (w' := w) rfl rfl rfl rfl (by kernel_rfl) ?_
  refine rw_val (v := .tuple #[.int .i64 c, .bool true]) (w' := w) rfl rfl rfl rfl rfl ?_
  refine rw_val (v := .int .i64 c) (w' := w) rfl rfl rfl rfl (by simp [go_sem, sEv, sLook, nbeq, i64_w, -List.getD_eq_getElem?_getD]) ?_
  refine rw_val (v := .bool true) (w' := w) rfl rfl rfl rfl (by simp [go_sem, sEv, sLook, nbeq, i64_w, -List.getD_eq_getElem?_getD]) ?_
  refine rw_val (v := .int .i64 c) (w' := w) rfl rfl rfl rfl rfl ?_
  refine rw_val (v := .bool true) (w' := w) rfl rfl rfl rfl rfl ?_
  refine rw_end ?_
  refine w_weaken (G' := [(2, .int .i64 0), (3, .int .i64 c), (4, .bool true)]) ⟨rfl, rfl, rfl, trivial⟩ ?_
  refine w_seq ?_
  refine w_seq ?_
  refine w_region ?_
  refine rw_val (v := .bool true) (w' := w) rfl rfl rfl rfl rfl ?_
  refine rw_val (v := .bool false) (w' := w) rfl rfl rfl rfl (by simp [go_sem, sEv, sLook, nbeq, i64_w, -List.getD_eq_getElem?_getD]) ?_
  refine rw_val (v := .bool false) (w' := w) rfl rfl rfl rfl rfl ?_
  refine rw_on (c := false) rfl rfl rfl rfl ?_
  refine rw_val (v := .int .i64 c) (w' := w) rfl rfl rfl rfl rfl ?_
  refine rw_on (c := false) rfl rfl rfl rfl ?_
  refine rw_val (v := .bool (c == 0)) (w' := w) rfl rfl rfl rfl (by simp [go_sem, sEv, sLook, nbeq, i64_w, -List.getD_eq_getElem?_getD]) ?_
  refine rw_val (v := .bool (c == 0)) (w' := w) rfl rfl rfl rfl (by simp [go_sem, sEv, sLook, nbeq, i64_w, -List.getD_eq_getElem?_getD]) ?_
  refine rw_end ?_
  refine w_weaken (G' := [(2, .int .i64 0), (3, .int .i64 c), (17, .bool (c == 0))]) ⟨rfl, rfl, rfl, trivial⟩ ?_
  refine w_cond_f rfl rfl hc ?_
  refine w_skip ?_
  refine w_seq ?_
  refine w_region ?_
  refine rw_val (v := .int .i64 c) (w' := w) rfl rfl rfl rfl rfl ?_
  refine rw_val (v := .int .i64 c) (w' := w) rfl rfl rfl rfl rfl ?_
  refine rw_end ?_
  refine w_ret (post_ret1 rfl rfl ?_)
  exact ⟨rfl, (Below.refl _ _)⟩

theorem num_T (o : Option Int) (ho : o ≠ some 0) (w : World) : Calls Try.prog 22 #[errT o] w fun e w' => e = .returned (.int .i64 (numT o)) ∧ Below w.heap.size w w' := by
  cases o with
  | none => exact num_none w
  | some c => exact num_some c (by rw [beq_eq_false_iff_ne]; intro h; exact ho (by rw [h])) w
end Go.Proofs.Ytpbpeklbmmbigaa.Tp
