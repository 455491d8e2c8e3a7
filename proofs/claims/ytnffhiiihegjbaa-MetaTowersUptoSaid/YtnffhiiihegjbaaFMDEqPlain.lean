/- Plain laws: the reference's comparison says equal just of the same expressions; different right expressions have different metacodes. -/
import Derived.Test.YtnffhiiihegjbaaFMDUpPlain
namespace Go.Proofs.Ytnffhiiihegjbaa.MD
open Go.RowKit Go.Proofs.YtnffhiiihegjbaaW.PrintWords Go.Proofs.YtnffhiiihegjbaaW.PrintLast Go.Proofs.YtnffhiiihegjbaaW.PrintMore Go.Proofs.Ytnffhiiihegjbaa.Evs
set_option linter.unusedVariables false
set_option linter.unusedSimpArgs false
theorem right_form {x : S44} (h : fineS 8 x = true) : (x.f0 = 4 ∧ x.f1 = ⟨#[]⟩) ∨ x.f0 = 8 ∨ ((5 ≤ x.f0 ∧ x.f0 ≤ 7) ∧ x.f2 = []) ∨ (x.f0 = 1 ∧ x.f1.size = 1 ∧ x.f2 = []) ∨ ((x.f0 = 2 ∨ x.f0 = 3) ∧ x.f2 = []) := by
  have hr : rightS x = true := by simp only [fineS, Bool.and_eq_true] at h; exact h.2
  unfold rightS at hr
  by_cases c4 : x.f0 = 4
  · rw [if_pos c4] at hr; exact .inl ⟨c4, ba_ext (of_decide_eq_true hr)⟩
  rw [if_neg c4] at hr
  by_cases c8 : x.f0 = 8
  · exact .inr (.inl c8)
  rw [if_neg c8] at hr
  by_cases cl : 0 < x.f2.length
  · rw [if_pos cl] at hr; cases hr
  rw [if_neg cl] at hr; have e : x.f2 = [] := List.length_eq_zero_iff.1 (by omega)
  by_cases c1 : x.f0 = 1
  · rw [if_pos c1] at hr; exact .inr (.inr (.inr (.inl ⟨c1, by rw [size_len]; exact of_decide_eq_true hr, e⟩)))
  rw [if_neg c1] at hr
  by_cases c2 : x.f0 = 2
  · exact .inr (.inr (.inr (.inr ⟨.inl c2, e⟩)))
  rw [if_neg c2] at hr
  by_cases c3 : x.f0 = 3
  · exact .inr (.inr (.inr (.inr ⟨.inr c3, e⟩)))
  rw [if_neg c3] at hr
  by_cases c5 : x.f0 = 5 ∨ x.f0 = 6 ∨ x.f0 = 7
  · exact .inr (.inr (.inl ⟨by omega, e⟩))
  · rw [if_neg c5] at hr; cases hr
def Shape (x : S44) (a : List S44) : Prop :=
  (∃ ks, x = ⟨4, ⟨#[]⟩, ks⟩ ∧ a = [⟨4, ⟨#[]⟩, upL ks⟩]) ∨ (∃ t ks, x = ⟨8, t, ks⟩ ∧ a = [charS 42, ⟨4, ⟨#[]⟩, wordT t :: upL ks⟩]) ∨
  (∃ k t, (5 ≤ k ∧ k ≤ 7) ∧ x = ⟨k, t, []⟩ ∧ a = [charS 42, ⟨1, meta_letter k, []⟩, wordT t]) ∨ (x = charS 42 ∧ a = [charS 42, charS 86]) ∨
  (∃ k t, (k = 1 ∨ k = 2 ∨ k = 3) ∧ ¬ (k = 1 ∧ t.toList = [42]) ∧ x = ⟨k, t, []⟩ ∧ a = [⟨k, t, []⟩])
theorem shape_of {x : S44} (h : fineS 8 x = true) : Shape x (upT x) := by
  rcases right_form h with ⟨h1, h2⟩ | h1 | ⟨h1, h2⟩ | ⟨h1, h2, h3⟩ | ⟨h1, h2⟩
  · obtain ⟨k, t, ks⟩ := x; simp only at h1 h2; subst h1; subst h2; rw [upT_eq]; exact .inl ⟨ks, rfl, rfl⟩
  · obtain ⟨k, t, ks⟩ := x; simp only at h1; subst h1; rw [upT_eq]; exact .inr (.inl ⟨t, ks, rfl, rfl⟩)
  · obtain ⟨k, t, ks⟩ := x; simp only at h1 h2; subst h2; rw [upT_eq, if_neg (show ¬ k = 4 by omega), if_neg (show ¬ k = 8 by omega), if_pos h1]; exact .inr (.inr (.inl ⟨k, t, h1, rfl, rfl⟩))
  · obtain ⟨k, t, ks⟩ := x; simp only at h1 h2 h3; subst h1; subst h3; rw [upT_eq, if_neg (show ¬ (1 : Int) = 4 by decide), if_neg (show ¬ (1 : Int) = 8 by decide), if_neg (show ¬ ((5 : Int) ≤ 1 ∧ (1 : Int) ≤ 7) by decide)]
    by_cases c : t.toList = [42]
    · rw [if_pos ⟨rfl, c⟩]; have : t = ⟨#[42]⟩ := ba_ext (by rw [← toList_data, c]); subst this; exact .inr (.inr (.inr (.inl ⟨rfl, rfl⟩)))
    · rw [if_neg (fun h => c h.2)]; exact .inr (.inr (.inr (.inr ⟨1, t, .inl rfl, (fun h => c h.2), rfl, rfl⟩)))
  · obtain ⟨k, t, ks⟩ := x; simp only at h1 h2; subst h2
    have n1 : ¬ k = 1 := by omega
    rw [upT_eq, if_neg (show ¬ k = 4 by omega), if_neg (show ¬ k = 8 by omega), if_neg (show ¬ (5 ≤ k ∧ k ≤ 7) by omega), if_neg (fun h => n1 h.1)]; exact .inr (.inr (.inr (.inr ⟨k, t, .inr h1, (fun h => n1 h.1), rfl, rfl⟩)))
end Go.Proofs.Ytnffhiiihegjbaa.MD
