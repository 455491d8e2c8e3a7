import Derived.Test.YtlopceimlipemaaRList
namespace Go.Proofs.Ytlopceimlipemaa.Rope
open Go.RowKit Go.Proofs.YtlopceimlipemaaW.PrintWords Go.Proofs.YtlopceimlipemaaW.PrintLast Go.Proofs.YtlopceimlipemaaW.PrintMore Go.Shelf
set_option linter.unusedVariables false
set_option linter.unusedSimpArgs false

/-- A row of one's own is a list. -/
theorem own_C_int {w : World} {base n : Nat} {e : TypeId} {v : Value} {xs : List Int} (h : w.ownsRow base e 1 v n (xs.map ((.int .i64 : Int → Value)))) (hn : xs.length = n) : ∃ A c, v = .slice A n c ∧ n ≤ c ∧ D_int.C w A n xs := by
  obtain ⟨A, c, hv, hc, hr⟩ := own_reads_of_le (d := (default : Int)) h
  exact ⟨A, c, hv, hc, Kd.C_of_reads (h1 := fun _ => rfl) hr⟩
/-- A block that was laid is a list. -/
theorem lit_C_int {w : World} {b n : Nat} {e : TypeId} {xs : List Int} {cs : Array Value} (h : w.heap[b]? = some (.cells cs e (0, 0))) (hcs : cs = (xs.map ((.int .i64 : Int → Value))).toArray) (hn : xs.length = n) (hm : n ≤ maxLen) : D_int.C w (some ⟨b, 0, none⟩) n xs := by
  subst hcs
  have ho : w.ownsRow 0 e 1 (.slice (some ⟨b, 0, none⟩) n n) n (xs.map ((.int .i64 : Int → Value))) := ⟨by simp [hn], .inr ⟨b, n, _, rfl, Nat.zero_le _, h, Nat.le_refl _, hm, by simp [hn], by rw [← hn, Nat.mul_one]; exact List.take_of_length_le (by simp)⟩⟩
  obtain ⟨A, c, e1, _, hC⟩ := own_C_int ho hn
  cases e1
  exact hC

end Go.Proofs.Ytlopceimlipemaa.Rope

namespace Go.Proofs.Ytlopceimlipemaa.Rope
open Go.RowKit Go.Proofs.YtlopceimlipemaaW.PrintWords Go.Proofs.YtlopceimlipemaaW.PrintLast Go.Proofs.YtlopceimlipemaaW.PrintMore Go.Shelf
set_option linter.unusedVariables false
set_option linter.unusedSimpArgs false

/-- A row of one's own is a list. -/
theorem own_C_string {w : World} {base n : Nat} {e : TypeId} {v : Value} {xs : List ByteArray} (h : w.ownsRow base e 1 v n (xs.map (Value.string))) (hn : xs.length = n) : ∃ A c, v = .slice A n c ∧ n ≤ c ∧ D_string.C w A n xs := by
  obtain ⟨A, c, hv, hc, hr⟩ := own_reads_of_le (d := (default : ByteArray)) h
  exact ⟨A, c, hv, hc, Kd.C_of_reads (h1 := fun _ => rfl) hr⟩
/-- A block that was laid is a list. -/
theorem lit_C_string {w : World} {b n : Nat} {e : TypeId} {xs : List ByteArray} {cs : Array Value} (h : w.heap[b]? = some (.cells cs e (0, 0))) (hcs : cs = (xs.map (Value.string)).toArray) (hn : xs.length = n) (hm : n ≤ maxLen) : D_string.C w (some ⟨b, 0, none⟩) n xs := by
  subst hcs
  have ho : w.ownsRow 0 e 1 (.slice (some ⟨b, 0, none⟩) n n) n (xs.map (Value.string)) := ⟨by simp [hn], .inr ⟨b, n, _, rfl, Nat.zero_le _, h, Nat.le_refl _, hm, by simp [hn], by rw [← hn, Nat.mul_one]; exact List.take_of_length_le (by simp)⟩⟩
  obtain ⟨A, c, e1, _, hC⟩ := own_C_string ho hn
  cases e1
  exact hC

end Go.Proofs.Ytlopceimlipemaa.Rope
