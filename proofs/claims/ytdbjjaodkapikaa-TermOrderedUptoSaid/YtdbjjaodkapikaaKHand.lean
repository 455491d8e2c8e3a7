/- Part of the walk: lemmas and printed functions that the claim uses (wip/tools/trim.py). -/
import Derived.MapKept
import Derived.RangeFuncRecord
import Derived.Laws.Cover1
set_option linter.unusedVariables false
namespace Go.Proofs.Ytdbjjaodkapikaa.Hand
theorem bytesLess_conv : ∀ a b : List UInt8, (!(Op.bytesLess a b || a == b)) = Op.bytesLess b a
  | [], [] => by simp [Op.bytesLess]
  | [], y :: b => by simp [Op.bytesLess]
  | x :: a, [] => by simp [Op.bytesLess]
  | x :: a, y :: b => by
    have ih := bytesLess_conv a b; simp only [Op.bytesLess]
    rcases Nat.lt_trichotomy x.toNat y.toNat with h | h | h
    · have h1 : x < y := UInt8.lt_iff_toNat_lt.2 h
      have h2 : ¬ y < x := fun e => by have := UInt8.lt_iff_toNat_lt.1 e; omega
      have h3 : ¬ y = x := fun e => by subst e; omega
      simp [h1, h2, h3]
    · have h1 : x = y := UInt8.toNat_inj.1 h; subst h1
      have h2 : ¬ x < x := fun e => by have := UInt8.lt_iff_toNat_lt.1 e; omega
      simpa [h2] using ih
    · have h1 : y < x := UInt8.lt_iff_toNat_lt.2 h
      have h2 : ¬ x < y := fun e => by have := UInt8.lt_iff_toNat_lt.1 e; omega
      have h3 : ¬ x = y := fun e => by subst e; omega
      simp [h1, h2, h3]
theorem binOp_gtr_str (t : TypeId) (a b : ByteArray) : binOp .gtr t (.string a) (.string b) = pure (.bool (Op.bytesLess b.toList a.toList)) := by
  rw [binOp_string_gtr, bytesLess_conv]
end Go.Proofs.Ytdbjjaodkapikaa.Hand
