/- A map of whole numbers: looked up, added to. -/
import Derived.Test.YtgedckgkddpkkaaFlowI
import Derived.Test.YtgedckgkddpkkaaPPlaceLanesx3
import Derived.MapKept
namespace Go.Proofs.Ytgedckgkddpkkaa.PPlaceLanes
open Go.RowKit Go.Proofs.YtgedckgkddpkkaaW.PrintWords Go.Proofs.YtgedckgkddpkkaaW.PrintLast Go.Proofs.YtgedckgkddpkkaaW.PrintMore
open Go.Proofs.Ytgedckgkddpkkaa.Flow
set_option linter.unusedVariables false
set_option linter.unusedSimpArgs false
theorem u64_wrap (x : Int) : IntKind.u64.wrap x = x % 18446744073709551616 := by simp [IntKind.wrap, IntKind.bits, IntKind.signed] <;> omega
theorem wrap_id {x : Int} (h1 : -9223372036854775808 ≤ x) (h2 : x ≤ 9223372036854775807) : wrap64 x = x := by unfold wrap64; omega
/-- The map in block g has t keys, all below t. -/
def MapAt (w : World) (g t : Nat) : Prop := ∃ (es : Array MapEntry) (clock : Nat), w.heap[g]? = some (.map es clock) ∧ es.size = t ∧ ∀ e ∈ es.toList, ∃ a : Int, e.key = .int .i64 a ∧ a < t
theorem MapAt.lt {w : World} {g t : Nat} (h : MapAt w g t) : g < w.heap.size := by
  obtain ⟨es, c, h, _⟩ := h
  exact (Array.getElem?_eq_some_iff.1 h).1
theorem MapAt.on {w w' : World} {g t : Nat} (h : MapAt w g t) (hb : Below w.heap.size w w') : MapAt w' g t := by
  have hl := h.lt
  obtain ⟨es, c, h1, h2⟩ := h
  exact ⟨es, c, (hb.block g hl).trans h1, h2⟩
theorem find_none (t : Int) : ∀ (es : List MapEntry) (i : Nat), (∀ e ∈ es, ∃ a : Int, e.key = .int .i64 a ∧ a < t) → Instr.findNow (.int .i64) (.int .i64 t) es i = some none
  | [], i, _ => rfl
  | e :: es, i, h => by
    obtain ⟨a, ha, hlt⟩ := h e (by simp)
    have h1 : Instr.sameNow (.int .i64) (.int .i64 t) e.key = some false := by
      rw [ha]
      have : ¬ t = a := by omega
      simp [Instr.sameNow, this]
    rw [Instr.findNow, h1]
    exact find_none t es (i + 1) (fun x hx => h x (List.mem_cons_of_mem _ hx))
theorem lookup_none {w : World} {g t : Nat} (h : MapAt w g t) : (Instr.lookup 35 (.map (some g)) (.int .i64 (t : Int)) false).run Try.prog w = .ok (.int .i64 0) w := by
  obtain ⟨es, c, h1, h2, h3⟩ := h
  have hf := find_none (t : Int) es.toList 0 h3
  have hk : Go.MapKept.IsKey (.int .i64) (.int .i64 (t : Int)) := by simp [Go.MapKept.IsKey]
  have hz : (zeroValue 3).run Try.prog w = .ok (.int .i64 0) w := by kernel_rfl
  simp [Instr.lookup, run_underlying Try.underlying35, Go.MapKept.run_getObj_map h1, Go.MapKept.run_checkKey Try.underlying3 hk, Go.MapKept.run_findKey Try.underlying3 hf, hz, Result.andThen]
theorem update_new {w : World} {g t : Nat} (h : MapAt w g t) (v : Value) : ∃ w', (Instr.mapUpdate 35 (.map (some g)) (.int .i64 (t : Int)) v).run Try.prog w = .ok () w' ∧ Keep g w w' ∧ MapAt w' g (t + 1) := by
  obtain ⟨es, c, h1, h2, h3⟩ := h
  have hf := find_none (t : Int) es.toList 0 h3
  have hk : Go.MapKept.IsKey (.int .i64) (.int .i64 (t : Int)) := by simp [Go.MapKept.IsKey]
  have hs := Go.MapKept.heap_set (o' := .map (es.push { key := .int .i64 (t : Int), val := v, born := c }) (c + 1)) h1
  refine ⟨{ w with heap := w.heap.setIfInBounds g (.map (es.push { key := .int .i64 (t : Int), val := v, born := c }) (c + 1)) }, by simp [Instr.mapUpdate, run_underlying Try.underlying35, Go.MapKept.run_getObj_map h1, Go.MapKept.run_checkKey Try.underlying3 hk, Go.MapKept.run_findKey Try.underlying3 hf, Go.MapKept.run_setObj_map _ h1, Result.andThen], ⟨rfl, rfl, rfl, by simp, fun q hq => hs.2 q hq⟩, _, _, hs.1, by simp [h2], fun e he => ?_⟩
  simp only [Array.toList_push, List.mem_append, List.mem_singleton] at he
  rcases he with he | rfl
  · obtain ⟨a, ha, hlt⟩ := h3 e he
    exact ⟨a, ha, by omega⟩
  · exact ⟨(t : Int), rfl, by omega⟩
theorem map_new (w : World) (g : Nat) (h : w.heap[g]? = some (.map #[] 0)) : MapAt w g 0 := ⟨#[], 0, h, rfl, fun e he => by simp at he⟩
theorem shard_small : ∀ a : Fin 30, ∀ s : Fin 4, place_Shard.f (((a.val : Nat) : Int) - 9) (((s.val : Nat) : Int) + 1) = some ((((a.val : Nat) : Int) - 9) % (((s.val : Nat) : Int) + 1)) := by decide +kernel
theorem shard_f {a s : Int} (h1 : -9 ≤ a) (h2 : a < 21) (h3 : 1 ≤ s) (h4 : s ≤ 4) : place_Shard.f a s = some (a % s) := by
  obtain ⟨x, hx⟩ := Int.eq_ofNat_of_zero_le (show 0 ≤ a + 9 by omega)
  obtain ⟨y, hy⟩ := Int.eq_ofNat_of_zero_le (show 0 ≤ s - 1 by omega)
  have h := shard_small ⟨x, by omega⟩ ⟨y, by omega⟩
  have e1 : ((x : Nat) : Int) - 9 = a := by omega
  have e2 : ((y : Nat) : Int) + 1 = s := by omega
  simp only [e1, e2] at h
  exact h
theorem alive_true : estuarylaw03_alive.f 3 = some true := by decide +kernel
end Go.Proofs.Ytgedckgkddpkkaa.PPlaceLanes
