/- Plain law: Dn of any expression is what the reference says. -/
import Derived.Test.YtnffhiiihegjbaaEMDDnPlain
namespace Go.Proofs.Ytnffhiiihegjbaa.MD
open Go.RowKit Go.Proofs.YtnffhiiihegjbaaW.PrintWords Go.Proofs.YtnffhiiihegjbaaW.PrintLast Go.Proofs.YtnffhiiihegjbaaW.PrintMore Go.Proofs.Ytnffhiiihegjbaa.Evs
set_option linter.unusedVariables false
set_option linter.unusedSimpArgs false
theorem check_fine' {m : Int} {l : List S44} (h : checkS m l = 0) : (flat l).all (fineS m) = true := by
  unfold checkS at h
  split at h
  · omega
  split at h
  · omega
  split at h
  · assumption
  · omega
theorem Value_ev {l : List S44} (h : bk44s l ≤ 1099511627776) : Evt (fun k => term_Value.f k l) (checkS 4 l) := Evt.bind (check_ev h 4) (Evt.const _)
theorem rValue_ev {l : List S44} (h : bk44s l ≤ 1099511627776) : Evt (fun k => chiasmusref01_Value.f k l) (checkS 4 l) := Evt.bind (wrong_ev h 4) (Evt.const _)
theorem Dn_both' {l : List S44} (h : bk44s l ≤ 1099511627776) : ∃ r : List S44 × Int, Evt (fun k => meta_Dn.f k l) r ∧ Evt (fun k => chiasmusref09_Dn.f k l) r ∧ bk44s r.1 ≤ bk44s l ∧ (r.2 = 0 → checkS 4 l = 0 ∧ upL r.1 = l ∧ checkS 8 r.1 = 0) ∧ (checkS 4 l = 0 → ¬ r.2 = 0 → r.2 = 110) := by
  have h0 : bk44s ([] : List S44) ≤ bk44s l := by simp [bk44s]
  by_cases c : checkS 4 l = 0
  · obtain ⟨q, hq⟩ := dn_both _ l (Nat.le_refl _) h (check_fine' c)
    have hl : l.length ≤ 1099511627776 := by have := bk_len l; omega
    obtain ⟨k1, k2⟩ := hq.f hl; have v1 := Value_ev h; have v2 := rValue_ev h
    cases q with
    | none =>
      refine ⟨([], 110), ?_, ?_, h0, fun e => absurd e (show ¬ (110 : Int) = 0 by decide), fun _ _ => rfl⟩
      · simp only [meta_Dn.f]; refine Evt.bind v1 ?_; simp only [if_pos c]; refine Evt.bind k1 ?_; simp only [fin, Bool.false_eq_true, if_false]; exact Evt.const _
      · simp only [chiasmusref09_Dn.f]; refine Evt.bind v2 ?_; simp only [if_pos c]; refine Evt.bind k2 ?_; simp only [fin, Bool.false_eq_true, if_false]; exact Evt.const _
    | some q' =>
      obtain ⟨hb, _, hu⟩ := hq.res q' rfl; have hq8 : bk44s q' ≤ 1099511627776 := Nat.le_trans hb h; have w1 := Result_ev hq8; have w2 := rResult_ev hq8
      by_cases c8 : checkS 8 q' = 0
      · refine ⟨(q', 0), ?_, ?_, hb, fun _ => ⟨c, hu, c8⟩, fun _ hn => absurd rfl hn⟩
        · simp only [meta_Dn.f]; refine Evt.bind v1 ?_; simp only [if_pos c]; refine Evt.bind k1 ?_; simp only [fin, if_true, List.nil_append]; refine Evt.bind w1 ?_; simp only [if_pos c8]; exact Evt.const _
        · simp only [chiasmusref09_Dn.f]; refine Evt.bind v2 ?_; simp only [if_pos c]; refine Evt.bind k2 ?_; simp only [fin, if_true, List.nil_append]; refine Evt.bind w2 ?_; simp only [if_pos c8]; exact Evt.const _
      · refine ⟨([], 110), ?_, ?_, h0, fun e => absurd e (show ¬ (110 : Int) = 0 by decide), fun _ _ => rfl⟩
        · simp only [meta_Dn.f]; refine Evt.bind v1 ?_; simp only [if_pos c]; refine Evt.bind k1 ?_; simp only [fin, if_true, List.nil_append]; refine Evt.bind w1 ?_; simp only [if_neg c8]; exact Evt.const _
        · simp only [chiasmusref09_Dn.f]; refine Evt.bind v2 ?_; simp only [if_pos c]; refine Evt.bind k2 ?_; simp only [fin, if_true, List.nil_append]; refine Evt.bind w2 ?_; simp only [if_neg c8]; exact Evt.const _
  · refine ⟨([], checkS 4 l), ?_, ?_, h0, fun e => absurd e c, fun e _ => absurd e c⟩
    · simp only [meta_Dn.f]; refine Evt.bind (Value_ev h) ?_; simp only [if_neg c]; exact Evt.const _
    · simp only [chiasmusref09_Dn.f]; refine Evt.bind (rValue_ev h) ?_; simp only [if_neg c]; exact Evt.const _
end Go.Proofs.Ytnffhiiihegjbaa.MD
