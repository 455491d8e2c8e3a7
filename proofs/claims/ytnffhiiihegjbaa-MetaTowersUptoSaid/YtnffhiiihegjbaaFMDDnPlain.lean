/- Plain laws: Dn of an expression, in the program and in the reference. -/
import Derived.Test.YtnffhiiihegjbaaFMDEqPlain
namespace Go.Proofs.Ytnffhiiihegjbaa.MD
open Go.RowKit Go.Proofs.YtnffhiiihegjbaaW.PrintWords Go.Proofs.YtnffhiiihegjbaaW.PrintLast Go.Proofs.YtnffhiiihegjbaaW.PrintMore Go.Proofs.Ytnffhiiihegjbaa.Evs
set_option linter.unusedVariables false
set_option linter.unusedSimpArgs false
theorem isCharB_char (b : UInt8) (s : List UInt8) : isCharB (charS b) s = ([b] == s) := by
  have : (⟨#[b]⟩ : ByteArray).toList = [b] := by rw [toList_data]
  simp [isCharB, charS, this]
theorem isCharB_ne {x : S44} (h : x.f0 ≠ 1) (s : List UInt8) : isCharB x s = false := by simp [isCharB, h]
theorem isCharB_letter {k : Int} (s : List UInt8) : isCharB ⟨1, meta_letter k, []⟩ s = ((meta_letter k).toList == s) := by simp [isCharB]
theorem isCharB_eq {x : S44} {b : UInt8} (h : isCharB x [b] = true) (hk : x.f2 = []) : x = charS b := by
  simp only [isCharB, Bool.and_eq_true, decide_eq_true_eq, beq_iff_eq] at h; obtain ⟨k, t, ks⟩ := x; obtain ⟨h1, h2⟩ := h
  dsimp only at h1 h2 hk
  subst h1; subst hk; have : t = ⟨#[b]⟩ := ba_ext (by rw [← toList_data, h2]); rw [this]; rfl
def fin (out : List S44) : Option (List S44) → List S44 × Bool
  | some q => (out ++ q, true)
  | none => ([], false)
theorem fin_cons (out : List S44) (e : S44) (q : Option (List S44)) : fin (out ++ [e]) q = fin out (q.map (e :: ·)) := by cases q <;> simp [fin]
theorem is_eq (x : S44) (s : ByteArray) : chiasmusref09_is.f x.f0 x.f1 x.f2 s = some (isCharB x s.toList) := by
  unfold chiasmusref09_is.f isCharB
  by_cases c : x.f0 = 1
  · simp [c]
  · simp [c]
theorem l42 : (⟨#[42]⟩ : ByteArray).toList = [42] := by rw [toList_data]
theorem l86 : (⟨#[86]⟩ : ByteArray).toList = [86] := by rw [toList_data]
theorem l1_ev {x0 x4 : List S44} {x5 : Int} {x : S44} {v : List S44 × Bool} (h : Evt (fun k => chiasmusref09_dn.l1 k x0 x4 x5 (letKind x) 8 x.f0 x.f1 x.f2) v) :
    Evt (fun k => chiasmusref09_dn.l1 k x0 x4 x5 0 5 x.f0 x.f1 x.f2) v := by
  have e5 : (meta_letter 5).toList = [83] := by rw [toList_data]; rfl
  have e6 : (meta_letter 6).toList = [84] := by rw [toList_data]; rfl
  have e7 : (meta_letter 7).toList = [69] := by rw [toList_data]; rfl
  have w6 : wrap64 (5 + 1) = 6 := by unfold wrap64; omega
  have w7 : wrap64 (6 + 1) = 7 := by unfold wrap64; omega
  have w8 : wrap64 (7 + 1) = 8 := by unfold wrap64; omega
  have s7 : ∀ y, (if isCharB x [69] = true then 7 else y) = letKind x → Evt (fun k => chiasmusref09_dn.l1 k x0 x4 x5 y 7 x.f0 x.f1 x.f2) v := fun y hy => by
    refine Evt.succ ?_; simp only [chiasmusref09_dn.l1, show ((7 : Int) ≤ 7) = True from by simp, if_true, rletter_eq (k := 7) (by decide), Option.bind_some, is_eq, e7, w8]
    by_cases c : isCharB x [69] = true
    · rw [if_pos c] at hy; simp only [c, if_true, hy]; exact h
    · rw [if_neg c] at hy; simp only [c, if_false, hy]; exact h
  have s6 : ∀ y, (if isCharB x [69] = true then 7 else if isCharB x [84] = true then 6 else y) = letKind x → Evt (fun k => chiasmusref09_dn.l1 k x0 x4 x5 y 6 x.f0 x.f1 x.f2) v := fun y hy => by
    refine Evt.succ ?_; simp only [chiasmusref09_dn.l1, show ((6 : Int) ≤ 7) = True from by simp, if_true, rletter_eq (k := 6) (by decide), Option.bind_some, is_eq, e6, w7]
    by_cases c : isCharB x [84] = true
    · simp only [c, if_true] at hy ⊢; exact s7 6 hy
    · simp only [c, if_false] at hy ⊢; exact s7 y hy
  refine Evt.succ ?_; simp only [chiasmusref09_dn.l1, show ((5 : Int) ≤ 7) = True from by simp, if_true, rletter_eq (k := 5) (by decide), Option.bind_some, is_eq, e5, w6]
  by_cases c : isCharB x [83] = true
  · have c6 : isCharB x [84] = false := by
      simp only [isCharB, Bool.and_eq_true, beq_iff_eq] at c; simp [isCharB, c.2]
    have c7 : isCharB x [69] = false := by
      simp only [isCharB, Bool.and_eq_true, beq_iff_eq] at c; simp [isCharB, c.2]
    simp only [c, if_true]; exact s6 5 (by simp [letKind, c, c6, c7])
  · simp only [c, if_false]; refine s6 0 ?_
    by_cases c6 : isCharB x [84] = true
    · have c7 : isCharB x [69] = false := by
        simp only [isCharB, Bool.and_eq_true, beq_iff_eq] at c6; simp [isCharB, c6.2]
      simp [letKind, c, c6, c7]
    · simp [letKind, c, c6]
structure DnB (rest : List S44) (q : Option (List S44)) : Prop where
  res : ∀ q', q = some q' → bk44s q' ≤ bk44s rest ∧ q'.length ≤ rest.length ∧ upL q' = rest
  go : ∀ out : List S44, out.length + rest.length ≤ 1099511627776 → Evt (fun k => meta_dn.l0 k out rest) (fin out q)
  rf : ∀ (x0 : List S44) (m : Nat) (out : List S44), x0.drop m = rest → x0.length ≤ 1099511627776 → out.length + rest.length ≤ 1099511627776 → Evt (fun k => chiasmusref09_dn.l0 k x0 out (m : Int)) (fin out q)
theorem DnB.f {l : List S44} {q : Option (List S44)} (h : DnB l q) (hl : l.length ≤ 1099511627776) : Evt (fun k => meta_dn.f k l) (fin [] q) ∧ Evt (fun k => chiasmusref09_dn.f k l) (fin [] q) := by
  refine ⟨Evt.succ ?_, Evt.succ ?_⟩
  · simp only [meta_dn.f]; exact h.go [] (by simpa using hl)
  · simp only [chiasmusref09_dn.f]; exact h.rf l 0 [] rfl hl (by simpa using hl)
theorem dnB_nil : DnB [] (some []) := by
  refine ⟨fun q' h => (by cases h; exact ⟨Nat.le_refl _, Nat.le_refl _, by simp [upL]⟩), fun out _ => Evt.succ ?_, fun x0 m out h hx _ => Evt.succ ?_⟩
  · simp only [meta_dn.l0]; exact (Evt.const _).eq (by simp [fin])
  · simp only [chiasmusref09_dn.l0, if_neg (stop h)]; exact (Evt.const _).eq (by simp [fin])
theorem len_next {out : List S44} {x : S44} {r : List S44} (h : out.length + (x :: r).length ≤ 1099511627776) (y : S44) : (out ++ [y]).length + r.length ≤ 1099511627776 ∧ out.length < 2932031007402 := by
  simp only [List.length_append, List.length_cons, List.length_nil] at h ⊢
  omega
theorem dnB_group {ks rest : List S44} {qk qr : Option (List S44)} (hk : DnB ks qk) (hr : DnB rest qr) (hl : ks.length ≤ 1099511627776) :
    DnB ((⟨4, ⟨#[]⟩, ks⟩ : S44) :: rest) (qk.bind fun l => qr.map ((⟨4, ⟨#[]⟩, l⟩ : S44) :: ·)) := by
  obtain ⟨k1, k2⟩ := hk.f hl
  cases qk with
  | none =>
    refine ⟨fun q' h => (by cases h), fun out _ => Evt.succ ?_, fun x0 m out h hx0 _ => Evt.succ ?_⟩
    · simp only [meta_dn.l0, if_true]; refine Evt.bind k1 ?_; simp only [fin, Bool.false_eq_true, if_false]; exact Evt.const _
    · obtain ⟨h1, h2, h3, h4, h5⟩ := mid h hx0; simp only [chiasmusref09_dn.l0, if_pos h1, if_pos h2, rd_mid h3, if_true]; refine Evt.bind k2 ?_; simp only [fin, Bool.false_eq_true, if_false]; exact Evt.const _
  | some l =>
    refine ⟨?_, fun out ho => Evt.succ ?_, fun x0 m out h hx0 ho => Evt.succ ?_⟩
    · intro q' h; obtain ⟨q2, h2, rfl⟩ := Option.map_eq_some_iff.1 h; obtain ⟨a1, a2, a3⟩ := hr.res q2 h2; obtain ⟨b1, b2, b3⟩ := hk.res l rfl; refine ⟨?_, by simp only [List.length_cons]; omega, ?_⟩
      · simp only [bk44s, bk44]; omega
      · simp only [upL, upT, if_true, a3, b3]; rfl
    · obtain ⟨n1, n2⟩ := len_next ho (⟨4, ⟨#[]⟩, l⟩ : S44); simp only [meta_dn.l0, if_true]; refine Evt.bind k1 ?_; simp only [fin, if_true, List.nil_append, if_pos n2]; exact (hr.go _ n1).eq (fin_cons _ _ _)
    · obtain ⟨h1, h2, h3, h4, h5⟩ := mid h hx0; obtain ⟨n1, n2⟩ := len_next ho (⟨4, ⟨#[]⟩, l⟩ : S44); simp only [chiasmusref09_dn.l0, if_pos h1, if_pos h2, rd_mid h3, if_true]; refine Evt.bind k2 ?_; simp only [fin, if_true, List.nil_append, if_pos n2, h5]; exact (hr.rf x0 (m + 1) _ h4 hx0 n1).eq (fin_cons _ _ _)
theorem dnB_plain {x : S44} {rest : List S44} {qr : Option (List S44)} (c4 : ¬ x.f0 = 4) (cs : isCharB x [42] = false) (hks : x.f2 = []) (hup : upT x = [x]) (hr : DnB rest qr) : DnB (x :: rest) (qr.map (x :: ·)) := by
  have hte : (⟨x.f0, x.f1, []⟩ : S44) = x := by cases x; simp only at hks; subst hks; rfl
  refine ⟨?_, fun out ho => Evt.succ ?_, fun x0 m out h hx0 ho => Evt.succ ?_⟩
  · intro q' h; obtain ⟨q2, h2, rfl⟩ := Option.map_eq_some_iff.1 h; obtain ⟨a1, a2, a3⟩ := hr.res q2 h2; refine ⟨?_, by simp only [List.length_cons]; omega, by simp only [upL, hup, a3]; rfl⟩; simp only [bk44s]; omega
  · obtain ⟨n1, n2⟩ := len_next ho x; simp only [meta_dn.l0, if_neg c4, cs, Bool.false_eq_true, if_false, if_pos n2]; exact (hr.go _ n1).eq (fin_cons _ _ _)
  · obtain ⟨h1, h2, h3, h4, h5⟩ := mid h hx0; obtain ⟨n1, n2⟩ := len_next ho x; simp only [chiasmusref09_dn.l0, if_pos h1, if_pos h2, rd_mid h3, if_neg c4, is_eq, l42, cs, Option.bind_some, Bool.false_eq_true, if_false, if_pos n2, h5, hte]; exact (hr.rf x0 (m + 1) _ h4 hx0 n1).eq (fin_cons _ _ _)
theorem star4 : ¬ (charS 42).f0 = 4 := by decide
theorem starB : isCharB (charS 42) [42] = true := by rw [isCharB_char]; rfl
theorem ref_star {x0 : List S44} {m : Nat} {x : S44} {rest out : List S44} {v : List S44 × Bool} (h : x0.drop m = charS 42 :: x :: rest) (hx0 : x0.length ≤ 1099511627776)
    (hV : isCharB x [86] = true → Evt (fun k => if out.length < 2932031007402 then chiasmusref09_dn.l0 k x0 (out ++ [(⟨1, (⟨#[42]⟩ : ByteArray), []⟩ : S44)]) ((m + 2 : Nat) : Int) else none) v)
    (hG0 : isCharB x [86] = false → x.f0 = 4 → (x.f2.length : Int) = 0 → Evt (fun k => chiasmusref09_dn.j1 k x0 out ((m + 1 : Nat) : Int) true x.f0 x.f1 x.f2) v)
    (hG1 : isCharB x [86] = false → x.f0 = 4 → ¬ (x.f2.length : Int) = 0 → Evt (fun k => chiasmusref09_dn.j1 k x0 out ((m + 1 : Nat) : Int) (((rd_T44 x.f2 0).f0) != 2) x.f0 x.f1 x.f2) v)
    (hL : isCharB x [86] = false → ¬ x.f0 = 4 → Evt (fun k => chiasmusref09_dn.l1 k x0 out ((m + 1 : Nat) : Int) 0 5 x.f0 x.f1 x.f2) v) :
    Evt (fun k => chiasmusref09_dn.l0 k x0 out (m : Int)) v := by
  obtain ⟨h1, h2, h3, h4, h5⟩ := mid h hx0; obtain ⟨g1, g2, g3, g4, g5⟩ := mid h4 hx0; have hne := Int.ne_of_lt g1; refine Evt.succ ?_; simp only [chiasmusref09_dn.l0, if_pos h1, if_pos h2, rd_mid h3, if_neg star4, is_eq, l42, l86, starB, Option.bind_some, if_true, h5, if_neg hne, if_pos g1, if_pos g2, rd_mid g3]
  by_cases cv : isCharB x [86] = true
  · simp only [cv, if_true, chiasmusref09_char.f, Option.bind_some, g5]; exact hV cv
  · have cv' : isCharB x [86] = false := by simpa using cv
    simp only [cv', Bool.false_eq_true, if_false]
    by_cases c4 : x.f0 = 4
    · simp only [if_pos c4]
      by_cases cl : (x.f2.length : Int) = 0
      · simp only [if_pos cl]; exact hG0 cv' c4 cl
      · have cp : (0 : Int) < (x.f2.length : Int) := by omega
        simp only [if_neg cl, if_pos cp]; exact hG1 cv' c4 cl
    · simp only [if_neg c4]; exact hL cv' c4
theorem dnB_V {rest : List S44} {qr : Option (List S44)} (hr : DnB rest qr) : DnB (charS 42 :: charS 86 :: rest) (qr.map (charS 42 :: ·)) := by
  have cv : isCharB (charS 86) [86] = true := by rw [isCharB_char]; rfl
  refine ⟨?_, fun out ho => Evt.succ ?_, fun x0 m out h hx0 ho => ?_⟩
  · intro q' h; obtain ⟨q2, h2, rfl⟩ := Option.map_eq_some_iff.1 h; obtain ⟨a1, a2, a3⟩ := hr.res q2 h2
    have hup : upT (charS 42) = [charS 42, charS 86] := by rw [upT_eq]; simp [charS, l42]
    refine ⟨?_, by simp only [List.length_cons]; omega, by simp only [upL, hup, a3]; rfl⟩; simp only [bk44s]; omega
  · have n0 : out.length + (charS 86 :: rest).length ≤ 1099511627776 := by simp only [List.length_cons] at ho ⊢; omega
    obtain ⟨n1, n2⟩ := len_next n0 (charS 42); simp only [meta_dn.l0, if_neg star4, starB, if_true, starS, starC, cv, Option.bind_some, if_pos n2]; exact (hr.go _ n1).eq (fin_cons _ _ _)
  · have n0 : out.length + (charS 86 :: rest).length ≤ 1099511627776 := by simp only [List.length_cons] at ho ⊢; omega
    obtain ⟨n1, n2⟩ := len_next n0 (charS 42)
    have h4 : x0.drop (m + 2) = rest := by rw [← List.drop_drop, h]; rfl
    refine ref_star h hx0 (fun _ => ?_) (fun e => by rw [cv] at e; cases e) (fun e => by rw [cv] at e; cases e) (fun e => by rw [cv] at e; cases e); simp only [if_pos n2]; exact (hr.rf x0 (m + 2) _ h4 hx0 n1).eq (fin_cons _ _ _)
theorem dnB_call {t : ByteArray} {ks rest : List S44} {qk qr : Option (List S44)} (hk : DnB ks qk) (hr : DnB rest qr) (hl : ks.length ≤ 1099511627776) :
    DnB (charS 42 :: (⟨4, ⟨#[]⟩, wordT t :: ks⟩ : S44) :: rest) (qk.bind fun l => qr.map ((⟨8, t, l⟩ : S44) :: ·)) := by
  obtain ⟨k1, k2⟩ := hk.f hl; have cv : isCharB (⟨4, ⟨#[]⟩, wordT t :: ks⟩ : S44) [86] = false := isCharB_ne (show (4 : Int) ≠ 1 by decide) _; have cw : (wordT t).f0 = 2 := rfl
  have hlx : ¬ ((wordT t :: ks).length : Int) = 0 := by simp only [List.length_cons]; omega
  have hl1 : (1 : Int) ≤ ((wordT t :: ks).length : Int) := by simp only [List.length_cons]; omega
  have hl0 : (0 : Int) < ((wordT t :: ks).length : Int) := by omega
  have hne : (((rd_T44 (wordT t :: ks) 0).f0) != 2) = false := rfl; have hrd : (rd_T44 (wordT t :: ks) 0).f1 = t := rfl
  cases qk with
  | none =>
    refine ⟨fun q' h => (by cases h), fun out _ => Evt.succ ?_, fun x0 m out h hx0 _ => ?_⟩
    · simp only [meta_dn.l0, if_neg star4, starB, if_true, starS, starC, cv, Bool.false_eq_true, if_false, if_pos cw]; refine Evt.bind (Evt.bind k1 (Evt.const _)) ?_; simp only [fin, Bool.false_eq_true, if_false]; exact Evt.const _
    · refine ref_star h hx0 (fun e => by rw [cv] at e; cases e) (fun _ _ e => absurd e hlx) (fun _ _ _ => Evt.succ ?_) (fun _ e => absurd rfl e); simp only [hne, chiasmusref09_dn.j1, Bool.false_eq_true, if_false, if_pos hl1, List.drop_succ_cons, List.drop_zero]; refine Evt.bind k2 ?_; simp only [fin, Bool.false_eq_true, if_false]; exact Evt.const _
  | some l =>
    refine ⟨?_, fun out ho => Evt.succ ?_, fun x0 m out h hx0 ho => ?_⟩
    · intro q' h; obtain ⟨q2, h2, rfl⟩ := Option.map_eq_some_iff.1 h; obtain ⟨a1, a2, a3⟩ := hr.res q2 h2; obtain ⟨b1, b2, b3⟩ := hk.res l rfl; refine ⟨?_, by simp only [List.length_cons]; omega, ?_⟩
      · simp only [bk44s, bk44, wordT]; omega
      · simp only [upL, upT_eq, a3, b3]; rfl
    · have n0 : out.length + ((⟨4, ⟨#[]⟩, wordT t :: ks⟩ : S44) :: rest).length ≤ 1099511627776 := by simp only [List.length_cons] at ho ⊢; omega
      obtain ⟨n1, n2⟩ := len_next n0 (⟨8, t, l⟩ : S44); simp only [meta_dn.l0, if_neg star4, starB, if_true, starS, starC, cv, Bool.false_eq_true, if_false, if_pos cw]; refine Evt.bind (Evt.bind k1 (Evt.const _)) ?_; simp only [fin, if_true, List.nil_append, if_pos n2]; exact (hr.go _ n1).eq (fin_cons _ _ _)
    · have n0 : out.length + ((⟨4, ⟨#[]⟩, wordT t :: ks⟩ : S44) :: rest).length ≤ 1099511627776 := by simp only [List.length_cons] at ho ⊢; omega
      obtain ⟨n1, n2⟩ := len_next n0 (⟨8, t, l⟩ : S44)
      have h4 : x0.drop (m + 2) = rest := by rw [← List.drop_drop, h]; rfl
      have h5 : x0.drop (m + 1) = (⟨4, ⟨#[]⟩, wordT t :: ks⟩ : S44) :: rest := by rw [← List.drop_drop, h]; rfl
      have g5 := (mid h5 hx0).2.2.2.2; refine ref_star h hx0 (fun e => by rw [cv] at e; cases e) (fun _ _ e => absurd e hlx) (fun _ _ _ => Evt.succ ?_) (fun _ e => absurd rfl e); simp only [hne, chiasmusref09_dn.j1, Bool.false_eq_true, if_false, if_pos hl1, List.drop_succ_cons, List.drop_zero]; refine Evt.bind k2 ?_; simp only [fin, if_true, List.nil_append, if_pos hl0, if_pos n2, hrd, g5]; exact (hr.rf x0 (m + 2) _ h4 hx0 n1).eq (fin_cons _ _ _)
theorem letKind_letter {k : Int} (h : 5 ≤ k ∧ k ≤ 7) : letKind (⟨1, meta_letter k, []⟩ : S44) = k ∧ isCharB (⟨1, meta_letter k, []⟩ : S44) [86] = false := by
  have e5 : (meta_letter 5).toList = [83] := by rw [toList_data]; rfl
  have e6 : (meta_letter 6).toList = [84] := by rw [toList_data]; rfl
  have e7 : (meta_letter 7).toList = [69] := by rw [toList_data]; rfl
  obtain rfl | rfl | rfl : k = 5 ∨ k = 6 ∨ k = 7 := by omega
  · simp [letKind, isCharB_letter, e5]
  · simp [letKind, isCharB_letter, e6]
  · simp [letKind, isCharB_letter, e7]
theorem dnB_var {k : Int} {t : ByteArray} {rest : List S44} {qr : Option (List S44)} (hk : 5 ≤ k ∧ k ≤ 7) (hr : DnB rest qr) : DnB (charS 42 :: (⟨1, meta_letter k, []⟩ : S44) :: wordT t :: rest) (qr.map ((⟨k, t, []⟩ : S44) :: ·)) := by
  obtain ⟨hlk, cv⟩ := letKind_letter hk
  have c4 : ¬ (⟨1, meta_letter k, []⟩ : S44).f0 = 4 := show ¬ (1 : Int) = 4 by decide
  have k0 : ¬ k = 0 := by omega
  have cn : (wordT t).f0 = 2 := rfl; refine ⟨?_, fun out ho => Evt.succ ?_, fun x0 m out h hx0 ho => ?_⟩
  · intro q' h; obtain ⟨q2, h2, rfl⟩ := Option.map_eq_some_iff.1 h; obtain ⟨a1, a2, a3⟩ := hr.res q2 h2; refine ⟨?_, by simp only [List.length_cons]; omega, ?_⟩
    · simp only [bk44s, bk44, wordT]; omega
    · have n4 : ¬ k = 4 := by omega
      have n8 : ¬ k = 8 := by omega
      simp only [upL, upT_eq, a3, if_neg n4, if_neg n8, if_pos hk]; rfl
  · have n0 : out.length + (wordT t :: rest).length ≤ 1099511627776 := by simp only [List.length_cons] at ho ⊢; omega
    obtain ⟨n1, n2⟩ := len_next n0 (⟨k, t, []⟩ : S44); simp only [meta_dn.l0, if_neg star4, starB, if_true, starS, starC, cv, Bool.false_eq_true, if_false, if_neg c4, hlk, if_neg k0, Option.bind_some, wordT, decide_true, if_pos n2]; exact (hr.go _ n1).eq (fin_cons _ _ _)
  · have n0 : out.length + (wordT t :: rest).length ≤ 1099511627776 := by simp only [List.length_cons] at ho ⊢; omega
    obtain ⟨n1, n2⟩ := len_next n0 (⟨k, t, []⟩ : S44)
    have h5 : x0.drop (m + 1) = (⟨1, meta_letter k, []⟩ : S44) :: wordT t :: rest := by rw [← List.drop_drop, h]; rfl
    have g5 := (mid h5 hx0).2.2.2.2
    have h6 : x0.drop (m + 1 + 1) = wordT t :: rest := by rw [← List.drop_drop, h5]; rfl
    obtain ⟨p1, p2, p3, p4, p5⟩ := mid h6 hx0; have hne := Int.ne_of_lt p1; refine ref_star h hx0 (fun e => by rw [cv] at e; cases e) (fun _ e _ => absurd e c4) (fun _ e _ => absurd e c4) (fun _ _ => l1_ev (Evt.succ ?_)); simp only [chiasmusref09_dn.l1, show ((8 : Int) ≤ 7) = False from by simp, if_false, hlk, if_neg k0, g5, if_neg hne, if_pos p1, if_pos p2, rd_mid p3, if_pos cn, if_pos n2, p5]; exact (hr.rf x0 (m + 1 + 1 + 1) _ p4 hx0 n1).eq (fin_cons _ _ _)
theorem bk_two (x : S44) (r : List S44) : bk44s x.f2 < bk44s (x :: r) ∧ bk44s r < bk44s (x :: r) := by
  have := bk44_eq x; simp only [bk44s]; omega
end Go.Proofs.Ytnffhiiihegjbaa.MD
