/- Plain laws: Dn of Up is the expression, and Up of Dn the value; a value without a star is its own metacode. -/
import Derived.Test.YtnffhiiihegjbaaFMDLevelsLaw
namespace Go.Proofs.Ytnffhiiihegjbaa.MD
open Go.RowKit Go.Proofs.YtnffhiiihegjbaaW.PrintWords Go.Proofs.YtnffhiiihegjbaaW.PrintLast Go.Proofs.YtnffhiiihegjbaaW.PrintMore Go.Proofs.Ytnffhiiihegjbaa.Evs
set_option linter.unusedVariables false
set_option linter.unusedSimpArgs false
theorem UpS_ok {l : List S44} (h : (UpS l).2 = 0) : (UpS l).1 = upL l ∧ checkS 8 l = 0 ∧ fitsS (upL l) = 0 := by
  unfold UpS at h ⊢
  by_cases c : checkS 8 l = 0
  · rw [if_pos c] at h ⊢
    by_cases c2 : fitsS (upL l) = 0
    · rw [if_pos c2]; exact ⟨rfl, c, c2⟩
    · rw [if_neg c2] at h; exact absurd h c2
  · rw [if_neg c] at h; exact absurd h c
theorem UpS_of {l : List S44} (h : checkS 8 l = 0) (h2 : fitsS (upL l) = 0) : UpS l = (upL l, 0) := by
  unfold UpS; rw [if_pos h, if_pos h2]
theorem check_of_fits {m : Int} {l : List S44} (h : fitsS l = 0) (hf : (flat l).all (fineS m) = true) : checkS m l = 0 := by
  unfold fitsS at h; unfold checkS
  by_cases c : 4000 < (flat l).length
  · rw [if_pos c] at h; exact absurd h (by decide)
  · rw [if_neg c] at h ⊢
    by_cases d : 100 < dpL 0 l
    · rw [if_pos d] at h; exact absurd h (by decide)
    · rw [if_neg d, if_pos hf]
theorem dnB_up : ∀ (n : Nat) (e : List S44), bk44s e ≤ n → n ≤ 17179869184 → (flat e).all (fineS 8) = true → ∀ (rest : List S44) (q : Option (List S44)), DnB rest q → DnB (upL e ++ rest) (q.map (e ++ ·)) := by
  intro n
  induction n using Nat.strongRecOn with
  | _ n ih =>
  intro e hbk hn hf rest q hq
  cases e with
  | nil =>
    have : q.map (([] : List S44) ++ ·) = q := by cases q <;> rfl
    rw [this]; simp only [upL, List.nil_append]; exact hq
  | cons x r =>
    obtain ⟨b1, b2⟩ := bk_two x r; have hl := bk_len x.f2; have hu := upL_len x.f2
    have hul : (upL x.f2).length ≤ 1099511627776 := by
      generalize bk44s x.f2 = a at b1 hl
      generalize bk44s (x :: r) = b at b1 hbk
      omega
    rw [flat_cons, List.all_cons, List.all_append, Bool.and_eq_true, Bool.and_eq_true] at hf; obtain ⟨fx, fk, fr⟩ := hf; have hr : DnB (upL r ++ rest) (q.map (r ++ ·)) := ih (bk44s r) (Nat.lt_of_lt_of_le b2 hbk) r (Nat.le_refl _) (Nat.le_trans (Nat.le_of_lt (Nat.lt_of_lt_of_le b2 hbk)) hn) fr rest q hq
    have hk : DnB (upL x.f2) (some x.f2) := by
      have h := ih (bk44s x.f2) (Nat.lt_of_lt_of_le b1 hbk) x.f2 (Nat.le_refl _) (Nat.le_trans (Nat.le_of_lt (Nat.lt_of_lt_of_le b1 hbk)) hn) fk [] (some []) dnB_nil
      simpa using h
    clear ih b1 b2 hbk hl hu
    have hq' : (q.map (x :: r ++ ·)) = (q.map (r ++ ·)).map (x :: ·) := by cases q <;> rfl
    rw [hq']
    generalize (q.map (r ++ ·)) = qr at hr
    simp only [upL, List.append_assoc]
    generalize upL r ++ rest = rest' at hr
    have hs := shape_of fx
    generalize ha : upT x = a at hs
    rcases hs with ⟨ks, rfl, rfl⟩ | ⟨t, ks, rfl, rfl⟩ | ⟨k, t, hv, rfl, rfl⟩ | ⟨rfl, rfl⟩ | ⟨k, t, h3, hn3, rfl, rfl⟩
    · exact dnB_group hk hr hul
    · exact dnB_call hk hr hul
    · exact dnB_var hv hr
    · exact dnB_V hr
    · refine dnB_plain (show ¬ k = 4 by omega) ?_ rfl ha hr
      cases hb : isCharB (⟨k, t, []⟩ : S44) [42] with
      | false => rfl
      | true =>
        exfalso
        simp only [isCharB, Bool.and_eq_true, decide_eq_true_eq, beq_iff_eq] at hb; exact hn3 hb
theorem dn_up_f {e : List S44} (h : bk44s e ≤ 17179869184) (hf : (flat e).all (fineS 8) = true) : Evt (fun k => meta_dn.f k (upL e)) (e, true) := by
  have h1 := dnB_up _ e (Nat.le_refl _) h hf [] (some []) dnB_nil; rw [List.append_nil] at h1; have hl := bk_len e; have hu := upL_len e; have h2 := (h1.f (by omega)).1; exact h2.eq (by simp [fin])
theorem byte_imp (P Q : UInt8 → Bool) (h : ∀ n : Fin 256, P (UInt8.ofNat n.val) = true → Q (UInt8.ofNat n.val) = true) {l : List UInt8} (hl : l.all P = true) : l.all Q = true := by
  rw [List.all_eq_true] at hl ⊢
  exact fun b hb => byte_all (fun b => P b = true → Q b = true) h b (hl b hb)
theorem inn_put {l : List UInt8} (h : l.all isInn = true) : l.all isPut = true := byte_imp _ _ (by decide +kernel) h
theorem ld_put {l : List UInt8} (h : l.all (fun b => isLet b || isDig b) = true) : l.all isPut = true := byte_imp _ _ (by decide +kernel) h
theorem word_of_name {l : List UInt8} (h : nameS 40 l = true) : wordS l = true := by
  unfold nameS at h; unfold wordS
  cases l with
  | nil => cases h
  | cons b r =>
    simp only [Bool.and_eq_true, decide_eq_true_eq] at h ⊢; exact ⟨⟨by simp, by omega⟩, inn_put h.2⟩
theorem word_of_var {l : List UInt8} (h : varS l = true) : wordS l = true := by
  unfold varS at h; unfold wordS; simp only [Bool.and_eq_true, decide_eq_true_eq] at h ⊢; exact ⟨⟨h.1.1, by omega⟩, ld_put h.2⟩
theorem fine_word {t : ByteArray} (h : wordS t.data.toList = true) : fineS 4 (wordT t) = true := by
  have : rightS (wordT t) = wordS t.data.toList := by simp [rightS, wordT]
  simp only [fineS, this, h, Bool.and_true]; rfl
theorem fine_char (t : ByteArray) (h : t.data.toList.length = 1) : fineS 4 (⟨1, t, []⟩ : S44) = true := by
  have : rightS (⟨1, t, []⟩ : S44) = true := by simp [rightS, h]
  simp only [fineS, this, Bool.and_true]; rfl
theorem fine_group (ks : List S44) : fineS 4 (⟨4, ⟨#[]⟩, ks⟩ : S44) = true := by
  have : rightS (⟨4, ⟨#[]⟩, ks⟩ : S44) = true := by simp [rightS]
  simp only [fineS, this, Bool.and_true]; rfl
theorem flat_one (x : S44) : flat [x] = x :: flat x.f2 := by rw [flat_cons, flat_nil, List.append_nil]
theorem up_fine : ∀ (n : Nat) (e : List S44), bk44s e ≤ n → (flat e).all (fineS 8) = true → (flat (upL e)).all (fineS 4) = true := by
  intro n
  induction n using Nat.strongRecOn with
  | _ n ih =>
  intro e hbk hf
  cases e with
  | nil => simp [upL, flat_nil]
  | cons x r =>
    obtain ⟨b1, b2⟩ := bk_two x r; rw [flat_cons, List.all_cons, List.all_append, Bool.and_eq_true, Bool.and_eq_true] at hf; obtain ⟨fx, fk, fr⟩ := hf; have hr := ih (bk44s r) (Nat.lt_of_lt_of_le b2 hbk) r (Nat.le_refl _) fr; have hk := ih (bk44s x.f2) (Nat.lt_of_lt_of_le b1 hbk) x.f2 (Nat.le_refl _) fk; clear ih b1 b2 hbk; simp only [upL]; rw [flat_append, List.all_append, hr, Bool.and_true]
    have hR : rightS x = true := by simp only [fineS, Bool.and_eq_true] at fx; exact fx.2
    have hs := shape_of fx
    generalize ha : upT x = a at hs
    rcases hs with ⟨ks, rfl, rfl⟩ | ⟨t, ks, rfl, rfl⟩ | ⟨k, t, hv, rfl, rfl⟩ | ⟨rfl, rfl⟩ | ⟨k, t, h3, hn3, rfl, rfl⟩
    · rw [flat_one, List.all_cons, fine_group, Bool.true_and]; exact hk
    · have hw : fineS 4 (wordT t) = true := fine_word (word_of_name (by simpa [rightS] using hR)); rw [flat_cons, List.all_cons, List.all_append, flat_one, List.all_cons, fine_group, flat_cons, List.all_cons, List.all_append, hw]; have hk' : (flat (upL ks)).all (fineS 4) = true := hk; simp only [hk', charS, wordT, flat_nil, List.all_nil, Bool.and_true, fine_char _ (show (⟨#[42]⟩ : ByteArray).data.toList.length = 1 from rfl)]
    · have hw : fineS 4 (wordT t) = true := by
        refine fine_word (word_of_var ?_)
        have n4 : ¬ k = 4 := by omega
        have n8 : ¬ k = 8 := by omega
        have n1 : ¬ k = 1 := by omega
        have n2 : ¬ k = 2 := by omega
        have n3 : ¬ k = 3 := by omega
        have h5 : k = 5 ∨ k = 6 ∨ k = 7 := by omega
        simpa [rightS, n4, n8, n1, n2, n3, h5] using hR
      have hl : fineS 4 (⟨1, meta_letter k, []⟩ : S44) = true := by
        refine fine_char _ ?_
        obtain rfl | rfl | rfl : k = 5 ∨ k = 6 ∨ k = 7 := by omega
        · rfl
        · rfl
        · rfl
      rw [flat_cons, List.all_cons, List.all_append, flat_cons, List.all_cons, List.all_append, flat_one, List.all_cons, hw, hl]; simp only [charS, wordT, flat_nil, List.all_nil, Bool.and_true, fine_char _ (show (⟨#[42]⟩ : ByteArray).data.toList.length = 1 from rfl)]
    · rw [flat_cons, List.all_cons, List.all_append, flat_one, List.all_cons]; simp only [charS, flat_nil, List.all_nil, Bool.and_true, fine_char _ (show (⟨#[42]⟩ : ByteArray).data.toList.length = 1 from rfl), fine_char _ (show (⟨#[86]⟩ : ByteArray).data.toList.length = 1 from rfl)]
    · rw [flat_one, List.all_cons]; simp only [flat_nil, List.all_nil, Bool.and_true, fineS, hR, Bool.not_eq_true', decide_eq_false_iff_not]
      omega
theorem check_up {e : List S44} (h : checkS 8 e = 0) (h2 : fitsS (upL e) = 0) : checkS 4 (upL e) = 0 := check_of_fits h2 (up_fine _ e (Nat.le_refl _) (check_fine' h))
theorem Dn_Up {e : List S44} (h : bk44s e ≤ 17179869184) (h8 : checkS 8 e = 0) (h2 : fitsS (upL e) = 0) : Evt (fun k => meta_Dn.f k (upL e)) (e, 0) := by
  have hb := upL_bk _ e (Nat.le_refl _); have v := Value_ev (l := upL e) (by omega); rw [check_up h8 h2] at v; have w := Result_ev (l := e) (by omega); rw [h8] at w; simp only [meta_Dn.f]; refine Evt.bind v ?_; simp only [if_true]; refine Evt.bind (dn_up_f h (check_fine' h8)) ?_; simp only [if_true]; refine Evt.bind w ?_; simp only [if_true]; exact Evt.const _
def tow : Nat → List S44 → List S44
  | 0, l => l
  | n + 1, l => upL (tow n l)
def UpOk (l : List S44) : Prop := checkS 8 l = 0 ∧ fitsS (upL l) = 0
theorem tow_bk {l : List S44} (hl : bk44s l ≤ 40400000) {n : Nat} (h : ∀ j, j < n → UpOk (tow j l)) : bk44s (tow n l) ≤ 40400000 := by
  cases n with
  | zero => exact hl
  | succ n =>
    have := check_bk (h n (Nat.lt_succ_self n)).1; have hu := upL_bk _ (tow n l) (Nat.le_refl _); show bk44s (upL (tow n l)) ≤ _
    omega
theorem raise_tow {l : List S44} (hl : bk44s l ≤ 40400000) (n : Nat) (hn : n ≤ 10) : ∀ (d i : Nat), n - i = d → i ≤ n → (∀ j, j < i → UpOk (tow j l)) →
    ∃ r : List S44 × Int, Evt (fun k => meta_Raise.l0 k (tow i l) (n : Int) (i : Int)) r ∧ (r.2 = 0 → ∀ j, j < n → UpOk (tow j l)) ∧ ((∀ j, j < n → UpOk (tow j l)) → r = (tow n l, 0)) := by
  intro d
  induction d with
  | zero =>
    intro i hd hi hj
    obtain rfl : i = n := by omega
    refine ⟨(tow i l, 0), Evt.succ ?_, fun _ => hj, fun _ => rfl⟩; simp only [meta_Raise.l0, if_neg (show ¬ (i : Int) < (i : Int) by omega)]; exact Evt.const _
  | succ d ih =>
    intro i hd hi hj; have hb := tow_bk hl hj; have hU := Up_ev (l := tow i l) (by omega)
    have hw : wrap64 ((i : Int) + 1) = ((i + 1 : Nat) : Int) := by rw [wrap64_id (by omega) (by omega)]; omega
    have hlt : (i : Int) < (n : Int) := by omega
    by_cases cu : (UpS (tow i l)).2 = 0
    · obtain ⟨e1, c8, hf⟩ := UpS_ok cu
      obtain ⟨r, r1, r2, r3⟩ := ih (i + 1) (by omega) (by omega) (fun j hji => by
        by_cases e : j = i
        · subst e; exact ⟨c8, hf⟩
        · exact hj j (by omega))
      refine ⟨r, Evt.succ ?_, r2, r3⟩; simp only [meta_Raise.l0, if_pos hlt]; refine Evt.bind hU ?_; simp only [if_pos cu, e1, hw]; exact r1
    · refine ⟨([], (UpS (tow i l)).2), Evt.succ ?_, fun e => absurd e cu, fun hall => ?_⟩
      · simp only [meta_Raise.l0, if_pos hlt]; refine Evt.bind hU ?_; simp only [if_neg cu]; exact Evt.const _
      · have := hall i (by omega); rw [UpS_of this.1 this.2] at cu; exact absurd rfl cu
theorem lower_tow {l : List S44} (hl : bk44s l ≤ 40400000) (a n : Nat) (hn : n ≤ 10) (hj : ∀ j, j < a + n → UpOk (tow j l)) : ∀ (d i : Nat), n - i = d → i ≤ n →
    Evt (fun k => meta_Lower.l0 k (tow (a + d) l) (n : Int) (i : Int)) (tow a l, 0) := by
  intro d
  induction d with
  | zero =>
    intro i hd hi
    obtain rfl : i = n := by omega
    refine Evt.succ ?_; simp only [meta_Lower.l0, if_neg (show ¬ (i : Int) < (i : Int) by omega)]; exact Evt.const _
  | succ d ih =>
    intro i hd hi; have hb := tow_bk hl (n := a + d) (fun j hji => hj j (by omega)); obtain ⟨c8, hf⟩ := hj (a + d) (by omega); have hD := Dn_Up (e := tow (a + d) l) (by omega) c8 hf
    have hw : wrap64 ((i : Int) + 1) = ((i + 1 : Nat) : Int) := by rw [wrap64_id (by omega) (by omega)]; omega
    have hlt : (i : Int) < (n : Int) := by omega
    refine Evt.succ ?_; simp only [meta_Lower.l0, if_pos hlt]; refine Evt.bind hD ?_; simp only [if_true, hw]; exact ih (i + 1) (by omega) (by omega)
theorem Raise_tow {l : List S44} (hl : bk44s l ≤ 40400000) (n : Nat) (hn : n ≤ 10) : ∃ r : List S44 × Int, Evt (fun k => meta_Raise.f k l (n : Int)) r ∧ (r.2 = 0 → ((∀ j, j < n → UpOk (tow j l)) ∧ checkS 8 l = 0)) ∧ ((∀ j, j < n → UpOk (tow j l)) → checkS 8 l = 0 → r = (tow n l, 0)) := by
  simp only [meta_Raise.f, if_neg (show ¬ (n : Int) < 0 by omega), decide_eq_false (show ¬ (n : Int) > 10 by omega)]; have hR := Result_ev (l := l) (by omega)
  by_cases c : checkS 8 l = 0
  · obtain ⟨r, r1, r2, r3⟩ := raise_tow hl n hn n 0 rfl (by omega) (fun j hj => by omega); refine ⟨r, Evt.succ ?_, fun e => ⟨r2 e, c⟩, fun e _ => r3 e⟩; simp only [meta_Raise.j0, Bool.false_eq_true, if_false]; refine Evt.bind hR ?_; simp only [if_pos c]; exact Evt.bind (copy_ev _ l (Nat.le_refl _) (by omega)) r1
  · refine ⟨([], checkS 8 l), Evt.succ ?_, fun e => absurd e c, fun _ e => absurd e c⟩; simp only [meta_Raise.j0, Bool.false_eq_true, if_false]; refine Evt.bind hR ?_; simp only [if_neg c]; exact Evt.const _
theorem Lower_tow {l : List S44} (hl : bk44s l ≤ 40400000) (a n : Nat) (hn : n ≤ 10) (h1 : 1 ≤ n) (hj : ∀ j, j < a + n → UpOk (tow j l)) : Evt (fun k => meta_Lower.f k (tow (a + n) l) (n : Int)) (tow a l, 0) := by
  simp only [meta_Lower.f, if_neg (show ¬ (n : Int) < 0 by omega), decide_eq_false (show ¬ (n : Int) > 10 by omega)]; have hb := tow_bk hl hj; have hV := Value_ev (l := tow (a + n) l) (by omega)
  have hc : checkS 4 (tow (a + n) l) = 0 := by
    obtain ⟨m, rfl⟩ : ∃ m, n = m + 1 := ⟨n - 1, by omega⟩; obtain ⟨c8, hf⟩ := hj (a + m) (by omega); exact check_up c8 hf
  refine Evt.succ ?_; simp only [meta_Lower.j0, Bool.false_eq_true, if_false]; refine Evt.bind hV ?_; simp only [if_pos hc]; exact Evt.bind (copy_ev _ _ (Nat.le_refl _) (by omega)) (lower_tow hl a n hn hj n 0 rfl (by omega))
theorem metaTowers_pure (l : List S44) (x : Int) (ok : ok44s l) (w : (Lit.int .u8 x).wf = true) (h : bk44s l + 0 ≤ 1048576) : ∃ k, chiasmuslaw09_MetaTowers.f k l x = some true := by
  refine Evt.get ?_
  have hx : 0 ≤ x ∧ x < 256 := by
    simp [Lit.wf, IntKind.min, IntKind.max, IntKind.signed, IntKind.bits] at w
    omega
  have hl : bk44s l ≤ 40400000 := by omega
  obtain ⟨n, hn, hn5⟩ : ∃ n : Nat, Int.tmod (wrap64 x) 6 = (n : Int) ∧ n ≤ 5 := by
    rw [wrap64_id (by omega) (by omega), Int.tmod_eq_emod_of_nonneg (by omega)]; exact ⟨(x % 6).toNat, by omega, by omega⟩
  obtain ⟨v, hv⟩ := Small_ev (l := l) (by omega) 200; obtain ⟨r, r1, r2, r3⟩ := Raise_tow hl n (by omega); simp only [chiasmuslaw09_MetaTowers.f, hn]; refine Evt.bind hv ?_
  by_cases c : v = true
  · simp only [if_pos c]; refine Evt.bind r1 ?_
    by_cases c0 : r.2 = 0
    · obtain ⟨hj, c8⟩ := r2 c0; have hr := r3 hj c8; simp only [if_pos c0]
      by_cases cn : (n : Int) > 0
      · obtain ⟨m, rfl⟩ : ∃ m, n = m + 1 := ⟨n - 1, by omega⟩; have hL := Lower_tow hl 0 (m + 1) (by omega) (by omega) (fun j hjj => hj j (by omega)); have hL1 := Lower_tow hl m 1 (by omega) (by omega) hj; obtain ⟨s, s1, s2, s3⟩ := Raise_tow hl m (by omega); have hs := s3 (fun j hjm => hj j (by omega)) c8
        have hw : wrap64 (((m + 1 : Nat) : Int) - 1) = (m : Int) := by rw [wrap64_id (by omega) (by omega)]; omega
        have hb := tow_bk hl (n := m) (fun j hjm => hj j (by omega)); rw [Nat.zero_add] at hL; rw [hs] at s1; simp only [if_pos cn, hr, hw]; refine Evt.bind hL (Evt.bind (show Evt (fun k => meta_Lower.f k (tow (m + 1) l) 1) (tow m l, 0) from hL1) (Evt.bind s1 ?_)); simp only [if_true]; refine Evt.bind (Equal_self (l := l) (by omega)) ?_; simp only [if_true]; refine Evt.bind (Equal_self (l := tow m l) (by omega)) ?_; simp only [if_true]; exact Evt.bind awake_ev (Evt.const _)
      · simp only [if_neg cn]; exact Evt.bind awake_ev (Evt.const _)
    · simp only [if_neg c0]; exact Evt.bind awake_ev (Evt.const _)
  · simp only [if_neg c]; exact Evt.bind awake_ev (Evt.const _)
end Go.Proofs.Ytnffhiiihegjbaa.MD
