/- Part of the walk: lemmas and printed functions that the claim uses (wip/tools/trim.py). -/
import Derived.MapKept
import Derived.RangeFuncRecord
import Derived.Laws.Cover1
set_option linter.unusedVariables false
namespace Go.Proofs.Ytdbjjaodkapikaa.Hand
theorem run_lookup_plain {P : Program} {w : World} {t K E : TypeId} {d : TypeDesc} {key : Value} {b : Nat} {es : Array MapEntry} {c : Nat} (ht : P.underlying t = some (.map K E)) (hk : P.underlying K = some d)
    (hd : MapKept.IsKey d key) (hb : w.heap[b]? = some (.map es c)) {z : Value} (hz : (zeroValue E).run P w = .ok z w) {r : Option (Nat × Value)} (hf : Instr.findNow d key es.toList 0 = some r) :
    (Instr.lookup t (.map (some b)) key false).run P w = .ok (match r with | some (_, v) => v | none => z) w := by
  have hc : (Instr.checkKey es.isEmpty 10000 K key).run P w = .ok () w := MapKept.run_checkKey hk hd _ 9999
  cases r with
  | none => simp [Instr.lookup, run_underlying ht, MapKept.run_getObj_map hb, hc, MapKept.run_findKey hk hf, hz, Result.andThen]
  | some q => obtain ⟨i, v⟩ := q; simp [Instr.lookup, run_underlying ht, MapKept.run_getObj_map hb, hc, MapKept.run_findKey hk hf, Result.andThen]
theorem run_mapUpdate_new {P : Program} {w : World} {t K E : TypeId} {d : TypeDesc} {key : Value} {b : Nat} {es : Array MapEntry} {c : Nat} (ht : P.underlying t = some (.map K E)) (hk : P.underlying K = some d)
    (hd : MapKept.IsKey d key) (hb : w.heap[b]? = some (.map es c)) (v : Value) (hf : Instr.findNow d key es.toList 0 = some none) :
    (Instr.mapUpdate t (.map (some b)) key v).run P w = .ok () (w.putObj b (.map (es.push { key := key, val := v, born := c }) (c + 1))) := by
  have hc : (Instr.checkKey false 10000 K key).run P w = .ok () w := MapKept.run_checkKey hk hd _ 9999; simp [Instr.mapUpdate, run_underlying ht, MapKept.run_getObj_map hb, hc, MapKept.run_findKey hk hf, MapKept.run_setObj_map _ hb, Result.andThen, World.putObj]
theorem bytesLess_conv : ∀ a b : List UInt8, (!(Op.bytesLess a b || a == b)) = Op.bytesLess b a
  | [], [] => by simp [Op.bytesLess]
  | [], y :: b => by simp [Op.bytesLess]
  | x :: a, [] => by simp [Op.bytesLess]
  | x :: a, y :: b => by
    have ih := bytesLess_conv a b; simp only [Op.bytesLess]
    rcases Nat.lt_trichotomy x.toNat y.toNat with h | h | h
    · have h1 : x < y := UInt8.lt_iff_toNat_lt.2 h
      have h2 : ¬ y < x := fun e => by have := UInt8.lt_iff_toNat_lt.1 e; omega
      have h3 : ¬ y = x := fun e => by subst e; omega
      simp [h1, h2, h3]
    · have h1 : x = y := UInt8.toNat_inj.1 h; subst h1
      have h2 : ¬ x < x := fun e => by have := UInt8.lt_iff_toNat_lt.1 e; omega
      simpa [h2] using ih
    · have h1 : y < x := UInt8.lt_iff_toNat_lt.2 h
      have h2 : ¬ x < y := fun e => by have := UInt8.lt_iff_toNat_lt.1 e; omega
      have h3 : ¬ x = y := fun e => by subst e; omega
      simp [h1, h2, h3]
theorem binOp_gtr_str (t : TypeId) (a b : ByteArray) : binOp .gtr t (.string a) (.string b) = pure (.bool (Op.bytesLess b.toList a.toList)) := by
  rw [binOp_string_gtr, bytesLess_conv]
end Go.Proofs.Ytdbjjaodkapikaa.Hand
