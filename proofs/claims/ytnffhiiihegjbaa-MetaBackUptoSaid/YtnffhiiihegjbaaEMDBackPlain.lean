/- Plain laws: Dn of Up is the expression, and Up of Dn the value; a value without a star is its own metacode. -/
import Derived.Test.YtnffhiiihegjbaaEMDLevelsLaw
namespace Go.Proofs.Ytnffhiiihegjbaa.MD
open Go.RowKit Go.Proofs.YtnffhiiihegjbaaW.PrintWords Go.Proofs.YtnffhiiihegjbaaW.PrintLast Go.Proofs.YtnffhiiihegjbaaW.PrintMore Go.Proofs.Ytnffhiiihegjbaa.Evs
set_option linter.unusedVariables false
set_option linter.unusedSimpArgs false
theorem UpS_ok {l : List S44} (h : (UpS l).2 = 0) : (UpS l).1 = upL l ∧ checkS 8 l = 0 ∧ fitsS (upL l) = 0 := by
  unfold UpS at h ⊢
  by_cases c : checkS 8 l = 0
  · rw [if_pos c] at h ⊢
    by_cases c2 : fitsS (upL l) = 0
    · rw [if_pos c2]; exact ⟨rfl, c, c2⟩
    · rw [if_neg c2] at h; exact absurd h c2
  · rw [if_neg c] at h; exact absurd h c
theorem UpS_of {l : List S44} (h : checkS 8 l = 0) (h2 : fitsS (upL l) = 0) : UpS l = (upL l, 0) := by
  unfold UpS; rw [if_pos h, if_pos h2]
theorem fits_of_check {m : Int} {l : List S44} (h : checkS m l = 0) : fitsS l = 0 := by
  unfold checkS at h; unfold fitsS
  by_cases c : 4000 < (flat l).length
  · rw [if_pos c] at h; exact absurd h (by decide)
  · rw [if_neg c] at h ⊢
    by_cases d : 100 < dpL 0 l
    · rw [if_pos d] at h; exact absurd h (by decide)
    · rw [if_neg d]
theorem check_of_fits {m : Int} {l : List S44} (h : fitsS l = 0) (hf : (flat l).all (fineS m) = true) : checkS m l = 0 := by
  unfold fitsS at h; unfold checkS
  by_cases c : 4000 < (flat l).length
  · rw [if_pos c] at h; exact absurd h (by decide)
  · rw [if_neg c] at h ⊢
    by_cases d : 100 < dpL 0 l
    · rw [if_pos d] at h; exact absurd h (by decide)
    · rw [if_neg d, if_pos hf]
theorem dnB_up : ∀ (n : Nat) (e : List S44), bk44s e ≤ n → n ≤ 17179869184 → (flat e).all (fineS 8) = true → ∀ (rest : List S44) (q : Option (List S44)), DnB rest q → DnB (upL e ++ rest) (q.map (e ++ ·)) := by
  intro n
  induction n using Nat.strongRecOn with
  | _ n ih =>
  intro e hbk hn hf rest q hq
  cases e with
  | nil =>
    have : q.map (([] : List S44) ++ ·) = q := by cases q <;> rfl
    rw [this]; simp only [upL, List.nil_append]; exact hq
  | cons x r =>
    obtain ⟨b1, b2⟩ := bk_two x r; have hl := bk_len x.f2; have hu := upL_len x.f2
    have hul : (upL x.f2).length ≤ 1099511627776 := by
      generalize bk44s x.f2 = a at b1 hl
      generalize bk44s (x :: r) = b at b1 hbk
      omega
    rw [flat_cons, List.all_cons, List.all_append, Bool.and_eq_true, Bool.and_eq_true] at hf; obtain ⟨fx, fk, fr⟩ := hf; have hr : DnB (upL r ++ rest) (q.map (r ++ ·)) := ih (bk44s r) (Nat.lt_of_lt_of_le b2 hbk) r (Nat.le_refl _) (Nat.le_trans (Nat.le_of_lt (Nat.lt_of_lt_of_le b2 hbk)) hn) fr rest q hq
    have hk : DnB (upL x.f2) (some x.f2) := by
      have h := ih (bk44s x.f2) (Nat.lt_of_lt_of_le b1 hbk) x.f2 (Nat.le_refl _) (Nat.le_trans (Nat.le_of_lt (Nat.lt_of_lt_of_le b1 hbk)) hn) fk [] (some []) dnB_nil
      simpa using h
    clear ih b1 b2 hbk hl hu
    have hq' : (q.map (x :: r ++ ·)) = (q.map (r ++ ·)).map (x :: ·) := by cases q <;> rfl
    rw [hq']
    generalize (q.map (r ++ ·)) = qr at hr
    simp only [upL, List.append_assoc]
    generalize upL r ++ rest = rest' at hr
    have hs := shape_of fx
    generalize ha : upT x = a at hs
    rcases hs with ⟨ks, rfl, rfl⟩ | ⟨t, ks, rfl, rfl⟩ | ⟨k, t, hv, rfl, rfl⟩ | ⟨rfl, rfl⟩ | ⟨k, t, h3, hn3, rfl, rfl⟩
    · exact dnB_group hk hr hul
    · exact dnB_call hk hr hul
    · exact dnB_var hv hr
    · exact dnB_V hr
    · refine dnB_plain (show ¬ k = 4 by omega) ?_ rfl ha hr
      cases hb : isCharB (⟨k, t, []⟩ : S44) [42] with
      | false => rfl
      | true =>
        exfalso
        simp only [isCharB, Bool.and_eq_true, decide_eq_true_eq, beq_iff_eq] at hb; exact hn3 hb
theorem dn_up_f {e : List S44} (h : bk44s e ≤ 17179869184) (hf : (flat e).all (fineS 8) = true) : Evt (fun k => meta_dn.f k (upL e)) (e, true) := by
  have h1 := dnB_up _ e (Nat.le_refl _) h hf [] (some []) dnB_nil; rw [List.append_nil] at h1; have hl := bk_len e; have hu := upL_len e; have h2 := (h1.f (by omega)).1; exact h2.eq (by simp [fin])
theorem byte_imp (P Q : UInt8 → Bool) (h : ∀ n : Fin 256, P (UInt8.ofNat n.val) = true → Q (UInt8.ofNat n.val) = true) {l : List UInt8} (hl : l.all P = true) : l.all Q = true := by
  rw [List.all_eq_true] at hl ⊢
  exact fun b hb => byte_all (fun b => P b = true → Q b = true) h b (hl b hb)
theorem inn_put {l : List UInt8} (h : l.all isInn = true) : l.all isPut = true := byte_imp _ _ (by decide +kernel) h
theorem ld_put {l : List UInt8} (h : l.all (fun b => isLet b || isDig b) = true) : l.all isPut = true := byte_imp _ _ (by decide +kernel) h
theorem word_of_name {l : List UInt8} (h : nameS 40 l = true) : wordS l = true := by
  unfold nameS at h; unfold wordS
  cases l with
  | nil => cases h
  | cons b r =>
    simp only [Bool.and_eq_true, decide_eq_true_eq] at h ⊢; exact ⟨⟨by simp, by omega⟩, inn_put h.2⟩
theorem word_of_var {l : List UInt8} (h : varS l = true) : wordS l = true := by
  unfold varS at h; unfold wordS; simp only [Bool.and_eq_true, decide_eq_true_eq] at h ⊢; exact ⟨⟨h.1.1, by omega⟩, ld_put h.2⟩
theorem fine_word {t : ByteArray} (h : wordS t.data.toList = true) : fineS 4 (wordT t) = true := by
  have : rightS (wordT t) = wordS t.data.toList := by simp [rightS, wordT]
  simp only [fineS, this, h, Bool.and_true]; rfl
theorem fine_char (t : ByteArray) (h : t.data.toList.length = 1) : fineS 4 (⟨1, t, []⟩ : S44) = true := by
  have : rightS (⟨1, t, []⟩ : S44) = true := by simp [rightS, h]
  simp only [fineS, this, Bool.and_true]; rfl
theorem fine_group (ks : List S44) : fineS 4 (⟨4, ⟨#[]⟩, ks⟩ : S44) = true := by
  have : rightS (⟨4, ⟨#[]⟩, ks⟩ : S44) = true := by simp [rightS]
  simp only [fineS, this, Bool.and_true]; rfl
theorem flat_one (x : S44) : flat [x] = x :: flat x.f2 := by rw [flat_cons, flat_nil, List.append_nil]
theorem up_fine : ∀ (n : Nat) (e : List S44), bk44s e ≤ n → (flat e).all (fineS 8) = true → (flat (upL e)).all (fineS 4) = true := by
  intro n
  induction n using Nat.strongRecOn with
  | _ n ih =>
  intro e hbk hf
  cases e with
  | nil => simp [upL, flat_nil]
  | cons x r =>
    obtain ⟨b1, b2⟩ := bk_two x r; rw [flat_cons, List.all_cons, List.all_append, Bool.and_eq_true, Bool.and_eq_true] at hf; obtain ⟨fx, fk, fr⟩ := hf; have hr := ih (bk44s r) (Nat.lt_of_lt_of_le b2 hbk) r (Nat.le_refl _) fr; have hk := ih (bk44s x.f2) (Nat.lt_of_lt_of_le b1 hbk) x.f2 (Nat.le_refl _) fk; clear ih b1 b2 hbk; simp only [upL]; rw [flat_append, List.all_append, hr, Bool.and_true]
    have hR : rightS x = true := by simp only [fineS, Bool.and_eq_true] at fx; exact fx.2
    have hs := shape_of fx
    generalize ha : upT x = a at hs
    rcases hs with ⟨ks, rfl, rfl⟩ | ⟨t, ks, rfl, rfl⟩ | ⟨k, t, hv, rfl, rfl⟩ | ⟨rfl, rfl⟩ | ⟨k, t, h3, hn3, rfl, rfl⟩
    · rw [flat_one, List.all_cons, fine_group, Bool.true_and]; exact hk
    · have hw : fineS 4 (wordT t) = true := fine_word (word_of_name (by simpa [rightS] using hR)); rw [flat_cons, List.all_cons, List.all_append, flat_one, List.all_cons, fine_group, flat_cons, List.all_cons, List.all_append, hw]; have hk' : (flat (upL ks)).all (fineS 4) = true := hk; simp only [hk', charS, wordT, flat_nil, List.all_nil, Bool.and_true, fine_char _ (show (⟨#[42]⟩ : ByteArray).data.toList.length = 1 from rfl)]
    · have hw : fineS 4 (wordT t) = true := by
        refine fine_word (word_of_var ?_)
        have n4 : ¬ k = 4 := by omega
        have n8 : ¬ k = 8 := by omega
        have n1 : ¬ k = 1 := by omega
        have n2 : ¬ k = 2 := by omega
        have n3 : ¬ k = 3 := by omega
        have h5 : k = 5 ∨ k = 6 ∨ k = 7 := by omega
        simpa [rightS, n4, n8, n1, n2, n3, h5] using hR
      have hl : fineS 4 (⟨1, meta_letter k, []⟩ : S44) = true := by
        refine fine_char _ ?_
        obtain rfl | rfl | rfl : k = 5 ∨ k = 6 ∨ k = 7 := by omega
        · rfl
        · rfl
        · rfl
      rw [flat_cons, List.all_cons, List.all_append, flat_cons, List.all_cons, List.all_append, flat_one, List.all_cons, hw, hl]; simp only [charS, wordT, flat_nil, List.all_nil, Bool.and_true, fine_char _ (show (⟨#[42]⟩ : ByteArray).data.toList.length = 1 from rfl)]
    · rw [flat_cons, List.all_cons, List.all_append, flat_one, List.all_cons]; simp only [charS, flat_nil, List.all_nil, Bool.and_true, fine_char _ (show (⟨#[42]⟩ : ByteArray).data.toList.length = 1 from rfl), fine_char _ (show (⟨#[86]⟩ : ByteArray).data.toList.length = 1 from rfl)]
    · rw [flat_one, List.all_cons]; simp only [flat_nil, List.all_nil, Bool.and_true, fineS, hR, Bool.not_eq_true', decide_eq_false_iff_not]
      omega
theorem check_up {e : List S44} (h : checkS 8 e = 0) (h2 : fitsS (upL e) = 0) : checkS 4 (upL e) = 0 := check_of_fits h2 (up_fine _ e (Nat.le_refl _) (check_fine' h))
theorem Dn_Up {e : List S44} (h : bk44s e ≤ 17179869184) (h8 : checkS 8 e = 0) (h2 : fitsS (upL e) = 0) : Evt (fun k => meta_Dn.f k (upL e)) (e, 0) := by
  have hb := upL_bk _ e (Nat.le_refl _); have v := Value_ev (l := upL e) (by omega); rw [check_up h8 h2] at v; have w := Result_ev (l := e) (by omega); rw [h8] at w; simp only [meta_Dn.f]; refine Evt.bind v ?_; simp only [if_true]; refine Evt.bind (dn_up_f h (check_fine' h8)) ?_; simp only [if_true]; refine Evt.bind w ?_; simp only [if_true]; exact Evt.const _
theorem starred_loop {x0 : List S44} (hb : x0.length ≤ 1099511627776) : ∀ (r : List S44) (n : Nat), x0.drop n = r → (∀ x ∈ r, ∃ b : Bool, Evt (fun k => chiasmuslaw09_starred.f k x.f2) b ∧ (b = false → ∀ y ∈ flat x.f2, isCharB y [42] = false)) →
    ∃ b : Bool, Evt (fun k => chiasmuslaw09_starred.l0 k x0 (n : Int)) b ∧ (b = false → ∀ y ∈ flat r, isCharB y [42] = false)
  | [], n, h, _ => by
    refine ⟨false, Evt.succ ?_, fun _ y hy => by rw [flat_nil] at hy; cases hy⟩; simp only [chiasmuslaw09_starred.l0, if_neg (stop h)]; exact Evt.const _
  | x :: r, n, h, hk => by
    obtain ⟨h1, h2, h3, h4, h5⟩ := mid h hb; obtain ⟨b, hb1, hb2⟩ := hk x List.mem_cons_self
    obtain ⟨c, hc1, hc2⟩ := starred_loop hb r (n + 1) h4 fun y hy => hk y (List.mem_cons_of_mem _ hy)
    have hrest : isCharB x [42] = false → ∃ d : Bool, Evt (fun k => (chiasmuslaw09_starred.f k x.f2).bind fun t => if t = true then some true else chiasmuslaw09_starred.l0 k x0 ((n + 1 : Nat) : Int)) d ∧ (d = false → ∀ y ∈ flat (x :: r), isCharB y [42] = false) := fun hs => by
      cases b with
      | true => exact ⟨true, Evt.bind hb1 (by simp only [if_true]; exact Evt.const _), fun e => by cases e⟩
      | false =>
        refine ⟨c, Evt.bind hb1 (by simp only [Bool.false_eq_true, if_false]; exact hc1), fun e y hy => ?_⟩; rw [flat_cons] at hy
        rcases List.mem_cons.1 hy with rfl | hy
        · exact hs
        · rcases List.mem_append.1 hy with hy | hy
          · exact hb2 rfl y hy
          · exact hc2 e y hy
    by_cases c1 : x.f0 = 1
    · by_cases c2 : x.f1.toList = [42]
      · refine ⟨true, Evt.succ ?_, fun e => by cases e⟩; simp only [chiasmuslaw09_starred.l0, if_pos h1, if_pos h2, rd_mid h3, if_pos c1, if_pos c2]; exact Evt.const _
      · obtain ⟨d, hd1, hd2⟩ := hrest (by simp [isCharB, c2]); refine ⟨d, Evt.succ ?_, hd2⟩; simp only [chiasmuslaw09_starred.l0, if_pos h1, if_pos h2, rd_mid h3, if_pos c1, if_neg c2, h5]; exact hd1
    · obtain ⟨d, hd1, hd2⟩ := hrest (isCharB_ne c1 _); refine ⟨d, Evt.succ ?_, hd2⟩; simp only [chiasmuslaw09_starred.l0, if_pos h1, if_pos h2, rd_mid h3, if_neg c1, h5]; exact hd1
theorem starred_ev : ∀ (n : Nat) (l : List S44), bk44s l ≤ n → n ≤ 1099511627776 → ∃ b : Bool, Evt (fun k => chiasmuslaw09_starred.f k l) b ∧ (b = false → ∀ y ∈ flat l, isCharB y [42] = false) := by
  intro n
  induction n using Nat.strongRecOn with
  | _ n ih =>
    intro l h hn; have := bk_len l
    obtain ⟨b, h1, h2⟩ := starred_loop (x0 := l) (by omega) l 0 rfl fun x hx => by
      have := bk_mem hx; exact ih (bk44s x.f2) (by omega) x.f2 (Nat.le_refl _) (by omega)
    refine ⟨b, Evt.succ ?_, h2⟩; simp only [chiasmuslaw09_starred.f]; exact h1
theorem up_self : ∀ (n : Nat) (e : List S44), bk44s e ≤ n → (flat e).all (fineS 4) = true → (∀ y ∈ flat e, isCharB y [42] = false) → upL e = e := by
  intro n
  induction n using Nat.strongRecOn with
  | _ n ih =>
  intro e hbk hf hs
  cases e with
  | nil => simp [upL]
  | cons x r =>
    obtain ⟨b1, b2⟩ := bk_two x r; rw [flat_cons] at hs; rw [flat_cons, List.all_cons, List.all_append, Bool.and_eq_true, Bool.and_eq_true] at hf; obtain ⟨fx, fk, fr⟩ := hf
    have hr := ih (bk44s r) (Nat.lt_of_lt_of_le b2 hbk) r (Nat.le_refl _) fr fun y hy => hs y (List.mem_cons_of_mem _ (List.mem_append_right _ hy))
    have hk := ih (bk44s x.f2) (Nat.lt_of_lt_of_le b1 hbk) x.f2 (Nat.le_refl _) fk fun y hy => hs y (List.mem_cons_of_mem _ (List.mem_append_left _ hy))
    have hx := hs x List.mem_cons_self; clear ih b1 b2 hbk hs; simp only [upL, hr]
    have : upT x = [x] := by
      rcases right_form4 fx with ⟨c4, e1⟩ | ⟨c4, e2⟩
      · rw [upT_eq, if_pos c4, hk]; cases x; simp only at c4 e1; subst c4; subst e1; rfl
      · exact fine_up4 fx c4 hx e2
    rw [this]; rfl
theorem fine48 {l : List S44} (h : (flat l).all (fineS 4) = true) : (flat l).all (fineS 8) = true := by
  rw [List.all_eq_true] at h ⊢; intro x hx; have := h x hx; simp only [fineS, Bool.and_eq_true, Bool.not_eq_true', decide_eq_false_iff_not] at this ⊢; exact ⟨by omega, this.2⟩
theorem metaBack_pure (l : List S44) (ok : ok44s l) (h : bk44s l ≤ 1048576) : ∃ k, chiasmuslaw09_MetaBack.f k l = some true := by
  refine Evt.get ?_
  have hl : bk44s l ≤ 17179869184 := by omega
  obtain ⟨v, hv⟩ := Small_ev (l := l) (by omega) 2000; have hVal := Value_ev (l := l) (by omega); have hUp := Up_ev hl; have hbu := upL_bk _ l (Nat.le_refl _); have hEq := Equal_self (l := l) (by omega)
  have j2f : Evt (fun k => chiasmuslaw09_MetaBack.j2 k l false) true := by
    refine Evt.succ ?_; simp only [chiasmuslaw09_MetaBack.j2, Bool.false_eq_true, if_false]; exact Evt.bind awake_ev (Evt.const _)
  have j2t : checkS 4 l = 0 → (∀ y ∈ flat l, isCharB y [42] = false) → Evt (fun k => chiasmuslaw09_MetaBack.j2 k l true) true := fun c4 hs => by
    have hup := up_self _ l (Nat.le_refl _) (check_fine' c4) hs; have f8 := fine48 (check_fine' c4); have c8 : checkS 8 l = 0 := check_of_fits (fits_of_check c4) f8
    have hf : fitsS (upL l) = 0 := by rw [hup]; exact fits_of_check c4
    have hU := UpS_of c8 hf; rw [hup] at hU; rw [hU] at hUp; have hD := Dn_Up hl c8 hf; rw [hup] at hD; refine Evt.succ ?_; simp only [chiasmuslaw09_MetaBack.j2, if_true]; refine Evt.bind hUp (Evt.bind hD ?_); simp only [if_true]; refine Evt.bind hEq ?_; simp only [if_true]; refine Evt.bind hEq ?_; simp only [if_true]; exact Evt.bind awake_ev (Evt.const _)
  have j1 : Evt (fun k => chiasmuslaw09_MetaBack.j1 k l) true := by
    refine Evt.succ ?_; simp only [chiasmuslaw09_MetaBack.j1]; refine Evt.bind hVal ?_
    by_cases c4 : checkS 4 l = 0
    · simp only [if_pos c4]; obtain ⟨b, hb1, hb2⟩ := starred_ev _ l (Nat.le_refl _) (by omega); refine Evt.bind hb1 ?_
      cases b with
      | true => simp only [Bool.not_true]; exact j2f
      | false => simp only [Bool.not_false]; exact j2t c4 (hb2 rfl)
    · simp only [if_neg c4]; exact j2f
  have j0 : Evt (fun k => chiasmuslaw09_MetaBack.j0 k l) true := by
    obtain ⟨r, r1, _, rb, rc, _⟩ := Dn_both' (l := l) (by omega); refine Evt.succ ?_; simp only [chiasmuslaw09_MetaBack.j0]; refine Evt.bind r1 ?_
    by_cases c : r.2 = 0
    · obtain ⟨c4, hup, c8⟩ := rc c
      have hf : fitsS (upL r.1) = 0 := by rw [hup]; exact fits_of_check c4
      have hU := Up_ev (l := r.1) (by omega); rw [UpS_of c8 hf, hup] at hU; simp only [if_pos c]; refine Evt.bind hU ?_; simp only [if_true]; refine Evt.bind hEq ?_; simp only [if_true]; exact j1
    · simp only [if_neg c]; exact j1
  simp only [chiasmuslaw09_MetaBack.f]; refine Evt.bind hv ?_
  by_cases c : v = true
  · simp only [if_pos c]; refine Evt.bind hUp ?_
    by_cases cu : (UpS l).2 = 0
    · obtain ⟨e1, c8, hf⟩ := UpS_ok cu; have hD := Dn_Up hl c8 hf; have hV := Value_ev (l := upL l) (by omega); rw [check_up c8 hf] at hV; simp only [if_pos cu, e1]; refine Evt.bind hD ?_; simp only [if_true]; refine Evt.bind hEq ?_; simp only [if_true]; refine Evt.bind hV ?_; simp only [if_true]; exact j0
    · simp only [if_neg cu]; exact j0
  · simp only [if_neg c]; exact Evt.bind awake_ev (Evt.const _)
end Go.Proofs.Ytnffhiiihegjbaa.MD
