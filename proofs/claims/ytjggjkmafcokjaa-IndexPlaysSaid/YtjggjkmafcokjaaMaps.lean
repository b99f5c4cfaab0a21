/- A map literal with integer keys: what an insertion leaves, and what a look-up of a key that is there gives. No program is named here. -/
import Derived.Test.YtjggjkmafcokjaaBase
import Derived.MapKept
import Derived.ChangeMaps4
set_option linter.unusedVariables false
set_option linter.unusedSimpArgs false
namespace Go.Proofs.Ytjggjkmafcokjaa
open Go.RowKit

theorem alloc_set (W : World) (o o' : Obj) : ({ (W.alloc o) with heap := (W.alloc o).heap.setIfInBounds W.heap.size o' } : World) = W.alloc o' := by
  have h : (W.heap.push o).setIfInBounds W.heap.size o' = W.heap.push o' := by
    apply Array.ext_getElem?
    intro i
    rw [Array.getElem?_setIfInBounds, Array.getElem?_push, Array.getElem?_push]
    by_cases h : W.heap.size = i
    · subst h; simp
    · rw [if_neg h]; simp [Ne.symm h]
  show ({ heap := (W.heap.push o).setIfInBounds W.heap.size o', tape := W.tape, drawn := W.drawn, os := W.os, output := W.output } : World) = { heap := W.heap.push o', tape := W.tape, drawn := W.drawn, os := W.os, output := W.output }
  rw [h]

theorem ins_new {P : Program} {t kt e : TypeId} (ht : P.underlying t = some (.map kt e)) (hk : P.underlying kt = some (.int .i64)) (W : World) (b : Nat) (hW : b = W.heap.size) (es : Array MapEntry) (c : Nat) (k : Int) (v : Value)
    (hf : Instr.findNow (.int .i64) (.int .i64 k) es.toList 0 = some none) :
    (Instr.mapUpdate t (.map (some b)) (.int .i64 k) v).run P (W.alloc (.map es c)) = .ok () (W.alloc (.map (es.push { key := .int .i64 k, val := v, born := c }) (c + 1))) := by
  subst hW
  have hb : (W.alloc (.map es c)).heap[W.heap.size]? = some (.map es c) := (MapKept.heap_alloc W _).1
  simp [Instr.mapUpdate, Go.run_underlying ht, MapKept.run_getObj_map hb, MapKept.run_checkKey hk (k := .int .i64 k) rfl, MapKept.run_findKey hk hf, MapKept.run_setObj_map _ hb, Result.andThen]
  exact alloc_set _ _ _

theorem look_at {P : Program} {t kt e : TypeId} (ht : P.underlying t = some (.map kt e)) (hk : P.underlying kt = some (.int .i64)) {W : World} {b : Nat} {es : Array MapEntry} {c : Nat} (hb : W.heap[b]? = some (.map es c)) (k : Int) {r : Nat × Value}
    (hf : Instr.findNow (.int .i64) (.int .i64 k) es.toList 0 = some (some r)) :
    (Instr.lookup t (.map (some b)) (.int .i64 k) true).run P W = .ok (.tuple #[r.2, .bool true]) W := by
  simp [Instr.lookup, Go.run_underlying ht, MapKept.run_getObj_map hb, MapKept.run_checkKey hk (k := .int .i64 k) rfl, MapKept.run_findKey hk hf, Result.andThen]
end Go.Proofs.Ytjggjkmafcokjaa
