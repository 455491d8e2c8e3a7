/- Plain law: Up of two expressions, one behind the other, is Up of both, one behind the other. -/
import Derived.Test.YtnffhiiihegjbaaBMPEqPlain
namespace Go.Proofs.Ytnffhiiihegjbaa.MP
open Go.RowKit Go.Proofs.YtnffhiiihegjbaaW.PrintWords Go.Proofs.YtnffhiiihegjbaaW.PrintLast Go.Proofs.YtnffhiiihegjbaaW.PrintMore Go.Proofs.Ytnffhiiihegjbaa.Evs
set_option linter.unusedVariables false
set_option linter.unusedSimpArgs false
theorem upL_app : ∀ a b : List S44, upL (a ++ b) = upL a ++ upL b
  | [], b => by simp [upL]
  | x :: r, b => by simp [upL, upL_app r b]
theorem UpS_ok {l : List S44} (h : (UpS l).2 = 0) : (UpS l).1 = upL l ∧ checkS 8 l = 0 := by
  unfold UpS at h ⊢
  by_cases c : checkS 8 l = 0
  · rw [if_pos c] at h ⊢
    by_cases c2 : fitsS (upL l) = 0
    · rw [if_pos c2]; exact ⟨rfl, c⟩
    · rw [if_neg c2] at h; exact absurd h c2
  · rw [if_neg c] at h; exact absurd h c
theorem check_fine {l : List S44} (h : checkS 8 l = 0) : (flat l).all (fineS 8) = true := by
  unfold checkS at h
  split at h
  · omega
  split at h
  · omega
  split at h
  · assumption
  · omega
theorem metaPieces_plain (l m : List S44) (h : bk44s l + bk44s m ≤ 1048576) : ∃ k, chiasmuslaw09_MetaPieces.f k l m = some true := by
  refine Evt.get ?_; obtain ⟨v, hv⟩ := Small_ev (l := l) (by omega) 600; obtain ⟨u, hu⟩ := Small_ev (l := m) (by omega) 600; have bu := upL_bk _ l (Nat.le_refl _); have bm := upL_bk _ m (Nat.le_refl _); have lu := bk_len (upL l); have lm := bk_len (upL m); have ll := bk_len l; have lm' := bk_len m
  have hj0t : Evt (fun k => chiasmuslaw09_MetaPieces.j0 k l m true) true := by
    refine Evt.succ ?_; simp only [chiasmuslaw09_MetaPieces.j0, if_true]; exact Evt.bind awake_ev (Evt.const _)
  have hj1t : ∀ x y, Evt (fun k => chiasmuslaw09_MetaPieces.j1 k l m x y true) true := fun x y => by
    refine Evt.succ ?_; simp only [chiasmuslaw09_MetaPieces.j1, if_true]; exact Evt.bind awake_ev (Evt.const _)
  have hj0 : Evt (fun k => chiasmuslaw09_MetaPieces.j0 k l m false) true := by
    refine Evt.succ ?_; simp only [chiasmuslaw09_MetaPieces.j0, Bool.false_eq_true, if_false]; refine Evt.bind (Up_ev (by omega)) (Evt.bind (Up_ev (by omega)) ?_)
    by_cases c : (UpS l).2 = 0
    · simp only [if_pos c]
      by_cases c2 : (UpS m).2 = 0
      · obtain ⟨e1, k1⟩ := UpS_ok c; obtain ⟨e2, k2⟩ := UpS_ok c2; simp only [c2, e1, e2, bne_self_eq_false]; refine Evt.succ ?_
        have hj2 : Evt (fun k => chiasmuslaw09_MetaPieces.j2 k l m (upL l) (upL m) false) true := by
          refine Evt.succ ?_; simp only [chiasmuslaw09_MetaPieces.j2, Bool.false_eq_true, if_false]; obtain ⟨b, hb, ib⟩ := Equal_ev (l := upL l) (m := upL m) (by omega) (by omega); obtain ⟨b2, hb2, ib2⟩ := Equal_ev (l := l) (m := m) (by omega) (by omega)
          have hbb : b = b2 := by
            have : b = true ↔ b2 = true := by
              rw [ib, ib2]; exact ⟨fun e => up_inj _ l m (Nat.le_refl _) (check_fine k1) (check_fine k2) e, fun e => by rw [e]⟩
            cases b <;> cases b2 <;> simp_all
          refine Evt.bind hb (Evt.bind hb2 ?_); simp only [hbb, beq_self_eq_true, if_true]; exact Evt.bind awake_ev (Evt.const _)
        simp only [chiasmuslaw09_MetaPieces.j1, Bool.false_eq_true, if_false, Option.bind_some, List.nil_append, List.length_nil, if_pos (show 0 + l.length < 2932031007402 by omega), if_pos (show l.length + m.length < 2932031007402 by omega), if_pos (show 0 + (upL l).length < 2932031007402 by omega), if_pos (show (upL l).length + (upL m).length < 2932031007402 by omega)]; have ba := bk_app l m; refine Evt.bind (Up_ev (by omega)) ?_
        by_cases c3 : (UpS (l ++ m)).2 = 0
        · simp only [if_pos c3, (UpS_ok c3).1, upL_app]; refine Evt.bind (Equal_self (by rw [bk_app]; omega)) ?_; exact hj2
        · simp only [if_neg c3]; exact hj2
      · simp only [show ((UpS m).2 != 0) = true from bne_iff_ne.2 c2]; exact hj1t _ _
    · simp only [if_neg c]; exact hj1t _ _
  simp only [chiasmuslaw09_MetaPieces.f]; refine Evt.bind hv ?_
  by_cases c : v = true
  · simp only [if_pos c]; refine Evt.bind hu ?_; cases u
    · exact hj0t
    · exact hj0
  · simp only [if_neg c]; exact hj0t
theorem metaPieces_pure (l m : List S44) (ok : ok44s l) (ok2 : ok44s m) (h : bk44s l + bk44s m ≤ 1048576) : ∃ k, chiasmuslaw09_MetaPieces.f k l m = some true := metaPieces_plain l m h
end Go.Proofs.Ytnffhiiihegjbaa.MP
