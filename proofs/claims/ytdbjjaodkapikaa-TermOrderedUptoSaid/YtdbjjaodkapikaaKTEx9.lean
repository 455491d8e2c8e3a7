/- Part of the walk: lemmas and printed functions that the claim uses (wip/tools/trim.py). -/
import Derived.Test.YtdbjjaodkapikaaKTEx1
namespace Go.Proofs.Ytdbjjaodkapikaa.TE
open Go.RowKit Go.Proofs.YtdbjjaodkapikaaW.PrintWords Go.Proofs.YtdbjjaodkapikaaW.PrintLast Go.Proofs.YtdbjjaodkapikaaW.PrintMore
attribute [local go_sem] max2_int min2_int max_two min_two max_three min_three max_four min_four
set_option linter.unusedVariables false
set_option linter.unusedSimpArgs false
def chiasmusref01_Sign.f (a0 : ByteArray) (a1 : ByteArray) : Option (Int) := if (Op.bytesLess a0.toList a1.toList) = true then (some (-1)) else (if (Op.bytesLess a1.toList a0.toList) = true then (some 1) else (some 0))
set_option maxHeartbeats 8000000 in
set_option maxRecDepth 100000 in
theorem chiasmusref01_Sign.calls (a0 : ByteArray) (a1 : ByteArray) (r : Int) (w : World) (h : chiasmusref01_Sign.f a0 a1 = some r) :
    Calls Try.prog 70 #[.string a0, .string a1] w fun e w' => e = .returned (.int .i64 r) ∧ Drawn0 w w' := by
  have H : (if (Op.bytesLess a0.toList a1.toList) = true then (some (-1)) else (if (Op.bytesLess a1.toList a0.toList) = true then (some 1) else (some 0))) = some r := h; clear h
  by_cases c3 : (Op.bytesLess a0.toList a1.toList) = true
  · rw [if_pos c3] at H; have c3b0 : (Op.bytesLess a0.toList a1.toList) = true := c3; clear c3; obtain rfl := Option.some.inj H
    have hgtr_ := fun (t_ : TypeId) => Go.Proofs.Ytdbjjaodkapikaa.Hand.binOp_gtr_str t_ a0 a1
    go_enter Try.func70, Try.ntmps70
    go_wp2
    go_ret; exact ⟨by first | rfl | (simp; done) | (simp [*]; done), by repeat (first | exact Drawn0.refl _ | apply Drawn0.step)⟩
  · rw [if_neg c3] at H
    have c3b0 : (Op.bytesLess a0.toList a1.toList) = false := by simpa using c3
    clear c3
    by_cases c4 : (Op.bytesLess a1.toList a0.toList) = true
    · rw [if_pos c4] at H; have c4b0 : (Op.bytesLess a1.toList a0.toList) = true := c4; clear c4; obtain rfl := Option.some.inj H
      have hgtr_ := fun (t_ : TypeId) => Go.Proofs.Ytdbjjaodkapikaa.Hand.binOp_gtr_str t_ a0 a1
      go_enter Try.func70, Try.ntmps70
      go_wp2
      go_ret; exact ⟨by first | rfl | (simp; done) | (simp [*]; done), by repeat (first | exact Drawn0.refl _ | apply Drawn0.step)⟩
    · rw [if_neg c4] at H
      have c4b0 : (Op.bytesLess a1.toList a0.toList) = false := by simpa using c4
      clear c4; obtain rfl := Option.some.inj H
      have hgtr_ := fun (t_ : TypeId) => Go.Proofs.Ytdbjjaodkapikaa.Hand.binOp_gtr_str t_ a0 a1
      go_enter Try.func70, Try.ntmps70
      go_wp2
      go_ret; exact ⟨by first | rfl | (simp; done) | (simp [*]; done), by repeat (first | exact Drawn0.refl _ | apply Drawn0.step)⟩
end Go.Proofs.Ytdbjjaodkapikaa.TE
