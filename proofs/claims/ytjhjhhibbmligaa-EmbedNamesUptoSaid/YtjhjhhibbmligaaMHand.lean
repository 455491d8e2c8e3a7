/- Part of the walk: lemmas and printed functions that the claim uses (wip/tools/trim.py). -/
import Derived.MapKept
import Derived.RangeFuncRecord
import Derived.Laws.Cover1
set_option linter.unusedVariables false
namespace Go.Proofs.Ytjhjhhibbmligaa.Hand
theorem run_lookup_plain {P : Program} {w : World} {t K E : TypeId} {d : TypeDesc} {key : Value} {b : Nat} {es : Array MapEntry} {c : Nat} (ht : P.underlying t = some (.map K E)) (hk : P.underlying K = some d)
    (hd : MapKept.IsKey d key) (hb : w.heap[b]? = some (.map es c)) {z : Value} (hz : (zeroValue E).run P w = .ok z w) {r : Option (Nat × Value)} (hf : Instr.findNow d key es.toList 0 = some r) :
    (Instr.lookup t (.map (some b)) key false).run P w = .ok (match r with | some (_, v) => v | none => z) w := by
  have hc : (Instr.checkKey es.isEmpty 10000 K key).run P w = .ok () w := MapKept.run_checkKey hk hd _ 9999
  cases r with
  | none => simp [Instr.lookup, run_underlying ht, MapKept.run_getObj_map hb, hc, MapKept.run_findKey hk hf, hz, Result.andThen]
  | some q => obtain ⟨i, v⟩ := q; simp [Instr.lookup, run_underlying ht, MapKept.run_getObj_map hb, hc, MapKept.run_findKey hk hf, Result.andThen]
theorem run_mapUpdate_new {P : Program} {w : World} {t K E : TypeId} {d : TypeDesc} {key : Value} {b : Nat} {es : Array MapEntry} {c : Nat} (ht : P.underlying t = some (.map K E)) (hk : P.underlying K = some d)
    (hd : MapKept.IsKey d key) (hb : w.heap[b]? = some (.map es c)) (v : Value) (hf : Instr.findNow d key es.toList 0 = some none) :
    (Instr.mapUpdate t (.map (some b)) key v).run P w = .ok () (w.putObj b (.map (es.push { key := key, val := v, born := c }) (c + 1))) := by
  have hc : (Instr.checkKey false 10000 K key).run P w = .ok () w := MapKept.run_checkKey hk hd _ 9999; simp [Instr.mapUpdate, run_underlying ht, MapKept.run_getObj_map hb, hc, MapKept.run_findKey hk hf, MapKept.run_setObj_map _ hb, Result.andThen, World.putObj]
theorem putObj_alloc (w : World) (o o' : Obj) : (w.alloc o).putObj w.heap.size o' = w.alloc o' := by
  simp only [World.putObj, World.alloc]
  congr 1
  apply Array.ext
  · simp
  · intro i h1 h2; simp only [Array.size_setIfInBounds, Array.size_push] at h1; rw [Array.getElem_setIfInBounds (by simpa using h1)]; simp only [Array.getElem_push]
    by_cases e : w.heap.size = i
    · subst e; simp
    · rw [if_neg e, dif_pos (by omega), dif_pos (by omega)]
end Go.Proofs.Ytjhjhhibbmligaa.Hand
