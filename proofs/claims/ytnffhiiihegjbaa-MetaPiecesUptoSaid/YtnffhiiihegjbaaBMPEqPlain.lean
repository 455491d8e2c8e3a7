/- Plain laws: the reference's comparison says equal just of the same expressions; different right expressions have different metacodes. -/
import Derived.Test.YtnffhiiihegjbaaBMPUpPlain
namespace Go.Proofs.Ytnffhiiihegjbaa.MP
open Go.RowKit Go.Proofs.YtnffhiiihegjbaaW.PrintWords Go.Proofs.YtnffhiiihegjbaaW.PrintLast Go.Proofs.YtnffhiiihegjbaaW.PrintMore Go.Proofs.Ytnffhiiihegjbaa.Evs
set_option linter.unusedVariables false
set_option linter.unusedSimpArgs false
theorem less_total : ∀ a b : List UInt8, Op.bytesLess a b = false → Op.bytesLess b a = false → a = b
  | [], [], _, _ => rfl
  | [], _ :: _, h, _ => by simp [Op.bytesLess] at h
  | _ :: _, [], _, h => by simp [Op.bytesLess] at h
  | x :: r, y :: s, h, h2 => by
    simp only [Op.bytesLess] at h h2
    by_cases c : x < y
    · simp [c] at h
    · by_cases c2 : y < x
      · simp [c2] at h2
      · have : x = y := UInt8.le_antisymm (UInt8.not_lt.1 c2) (UInt8.not_lt.1 c); subst this; simp [c] at h h2; rw [less_total r s h h2]
theorem sign_eq (a b : ByteArray) : ∃ v, chiasmusref01_Sign.f a b = some v ∧ (v = 0 ↔ a = b) := by
  unfold chiasmusref01_Sign.f
  by_cases c : Op.bytesLess a.toList b.toList = true
  · rw [if_pos c]; refine ⟨-1, rfl, ⟨fun h => by omega, fun h => ?_⟩⟩; subst h; have := sign_self a; unfold chiasmusref01_Sign.f at this; rw [if_pos c] at this; cases this
  · rw [if_neg c]
    by_cases c2 : Op.bytesLess b.toList a.toList = true
    · rw [if_pos c2]; refine ⟨1, rfl, ⟨fun h => by omega, fun h => ?_⟩⟩; subst h; exact absurd c2 c
    · rw [if_neg c2]; refine ⟨0, rfl, ⟨fun _ => ba_ext ?_, fun _ => rfl⟩⟩; have := less_total _ _ (Bool.eq_false_iff.2 c) (Bool.eq_false_iff.2 c2)
      rwa [toList_data, toList_data] at this
theorem cmp2_loop {x0 x1 : List S44} (hb : x0.length ≤ 1099511627776) (hb1 : x1.length ≤ 1099511627776) : ∀ (r : List S44) (s : List S44) (n : Nat), x0.drop n = r → x1.drop n = s → x0.length = n + r.length → x1.length = n + s.length →
    (∀ x ∈ r, ∀ y ∈ s, ∃ v, Evt (fun k => chiasmusref01_Compare.f k x.f2 y.f2) v ∧ (v = 0 ↔ x.f2 = y.f2)) →
    ∃ v, Evt (fun k => chiasmusref01_Compare.l0 k x0 x1 (n : Int)) v ∧ (v = 0 ↔ r = s)
  | [], s, n, h, h', hl, hl', _ => by
    have e : ∀ k, chiasmusref01_Compare.l0 (k + 1) x0 x1 (n : Int) = chiasmusref01_Compare.j1 k x0 x1 (n : Int) false := fun k => by simp only [chiasmusref01_Compare.l0, if_neg (stop h)]
    simp only [List.length_nil] at hl
    by_cases c : (x0.length : Int) < (x1.length : Int)
    · refine ⟨-1, Evt.succ ?_, ⟨fun h => by omega, fun h => by subst h; simp at hl'; omega⟩⟩; simp only [e]; refine Evt.succ ?_; simp only [chiasmusref01_Compare.j1, Bool.false_eq_true, if_false, if_pos c]; exact Evt.const _
    · by_cases c2 : (x0.length : Int) > (x1.length : Int)
      · refine ⟨1, Evt.succ ?_, ⟨fun h => by omega, fun h => by subst h; simp at hl'; omega⟩⟩; simp only [e]; refine Evt.succ ?_; simp only [chiasmusref01_Compare.j1, Bool.false_eq_true, if_false, if_neg c, if_pos c2]; exact Evt.const _
      · have hs : s = [] := List.length_eq_zero_iff.1 (by omega); refine ⟨0, Evt.succ ?_, ⟨fun _ => hs.symm, fun _ => rfl⟩⟩; simp only [e]; refine Evt.succ ?_; simp only [chiasmusref01_Compare.j1, Bool.false_eq_true, if_false, if_neg c, if_neg c2]; exact Evt.const _
  | x :: r, [], n, h, h', hl, hl', _ => by
    obtain ⟨h1, h2, h3, h4, h5⟩ := mid h hb; simp only [List.length_nil] at hl'
    have c0 : ¬ (n : Int) < (x1.length : Int) := by omega
    refine ⟨1, Evt.succ ?_, ⟨fun h => by omega, fun h => by cases h⟩⟩; simp only [chiasmusref01_Compare.l0, if_pos h1, decide_eq_false c0]; refine Evt.succ ?_; simp only [chiasmusref01_Compare.j1, Bool.false_eq_true, if_false, if_neg (show ¬ (x0.length : Int) < (x1.length : Int) by omega), if_pos (show (x0.length : Int) > (x1.length : Int) by omega)]; exact Evt.const _
  | x :: r, y :: s, n, h, h', hl, hl', hk => by
    obtain ⟨h1, h2, h3, h4, h5⟩ := mid h hb; obtain ⟨g1, _, g3, g4, _⟩ := mid h' hb1; simp only [List.length_cons] at hl hl'; obtain ⟨v, hv, iv⟩ := hk x List.mem_cons_self y List.mem_cons_self
    obtain ⟨u, hu, iu⟩ := cmp2_loop hb hb1 r s (n + 1) h4 g4 (by omega) (by omega) fun a ha b hb => hk a (List.mem_cons_of_mem _ ha) b (List.mem_cons_of_mem _ hb)
    obtain ⟨t, ht, it⟩ := sign_eq x.f1 y.f1
    have hx : ∀ x y : S44, x = y ↔ x.f0 = y.f0 ∧ x.f1 = y.f1 ∧ x.f2 = y.f2 := fun x y => by cases x; cases y; simp
    by_cases c : x.f0 = y.f0
    · by_cases ct : t = 0
      · by_cases cv : v = 0
        · refine ⟨u, Evt.succ ?_, by rw [iu, List.cons.injEq, hx x y]; simp [c, it.1 ct, iv.1 cv]⟩; simp only [chiasmusref01_Compare.l0, if_pos h1, decide_eq_true g1]; refine Evt.succ ?_; simp only [chiasmusref01_Compare.j1, if_true, if_pos h1, if_pos h2, if_pos g1, rd_mid h3, rd_mid g3, h5, if_pos c, ht, Option.bind_some, if_pos ct]; refine Evt.bind hv ?_; simp only [if_pos cv]; exact hu
        · refine ⟨v, Evt.succ ?_, ⟨fun h => absurd h cv, fun h => by injection h with h _; exact iv.2 (by rw [h])⟩⟩; simp only [chiasmusref01_Compare.l0, if_pos h1, decide_eq_true g1]; refine Evt.succ ?_; simp only [chiasmusref01_Compare.j1, if_true, if_pos h1, if_pos h2, if_pos g1, rd_mid h3, rd_mid g3, h5, if_pos c, ht, Option.bind_some, if_pos ct]; refine Evt.bind hv ?_; simp only [if_neg cv]; exact Evt.const _
      · refine ⟨t, Evt.succ ?_, ⟨fun h => absurd h ct, fun h => by injection h with h _; exact it.2 (by rw [h])⟩⟩; simp only [chiasmusref01_Compare.l0, if_pos h1, decide_eq_true g1]; refine Evt.succ ?_; simp only [chiasmusref01_Compare.j1, if_true, if_pos h1, if_pos h2, if_pos g1, rd_mid h3, rd_mid g3, h5, if_pos c, ht, Option.bind_some, if_neg ct]; exact Evt.const _
    · refine ⟨if x.f0 < y.f0 then -1 else 1, Evt.succ ?_, ⟨fun h => by split at h <;> omega, fun h => by injection h with h _; exact absurd (by rw [h]) c⟩⟩; simp only [chiasmusref01_Compare.l0, if_pos h1, decide_eq_true g1]; refine Evt.succ ?_; simp only [chiasmusref01_Compare.j1, if_true, if_pos h1, if_pos h2, if_pos g1, rd_mid h3, rd_mid g3, h5, if_neg c]; exact Evt.ite (fun _ => Evt.const _) (fun _ => Evt.const _)
theorem cmp2_ev : ∀ (n : Nat) (l m : List S44), bk44s l ≤ n → n ≤ 1099511627776 → bk44s m ≤ 1099511627776 → ∃ v, Evt (fun k => chiasmusref01_Compare.f k l m) v ∧ (v = 0 ↔ l = m) := by
  intro n
  induction n using Nat.strongRecOn with
  | _ n ih =>
    intro l m h hn hm; have h1 := bk_len l; have h2 := bk_len m
    obtain ⟨v, hv, iv⟩ := cmp2_loop (x0 := l) (x1 := m) (by omega) (by omega) l m 0 rfl rfl (by omega) (by omega) fun x hx y hy => by
      have := bk_mem hx; have := bk_mem hy; exact ih (bk44s x.f2) (by omega) x.f2 y.f2 (Nat.le_refl _) (by omega) (by omega)
    refine ⟨v, Evt.succ ?_, iv⟩; simp only [chiasmusref01_Compare.f]; exact hv
theorem Equal_ev {l m : List S44} (h : bk44s l ≤ 1099511627776) (h2 : bk44s m ≤ 1099511627776) : ∃ b : Bool, Evt (fun k => chiasmusref01_Equal.f k l m) b ∧ (b = true ↔ l = m) := by
  obtain ⟨v, hv, iv⟩ := cmp2_ev _ l m (Nat.le_refl _) h h2; refine ⟨v == 0, ?_, by rw [beq_iff_eq]; exact iv⟩; simp only [chiasmusref01_Equal.f]; exact Evt.bind hv (Evt.const _)
theorem right_form {x : S44} (h : fineS 8 x = true) : (x.f0 = 4 ∧ x.f1 = ⟨#[]⟩) ∨ x.f0 = 8 ∨ ((5 ≤ x.f0 ∧ x.f0 ≤ 7) ∧ x.f2 = []) ∨ (x.f0 = 1 ∧ x.f1.size = 1 ∧ x.f2 = []) ∨ ((x.f0 = 2 ∨ x.f0 = 3) ∧ x.f2 = []) := by
  have hr : rightS x = true := by simp only [fineS, Bool.and_eq_true] at h; exact h.2
  unfold rightS at hr
  by_cases c4 : x.f0 = 4
  · rw [if_pos c4] at hr; exact .inl ⟨c4, ba_ext (of_decide_eq_true hr)⟩
  rw [if_neg c4] at hr
  by_cases c8 : x.f0 = 8
  · exact .inr (.inl c8)
  rw [if_neg c8] at hr
  by_cases cl : 0 < x.f2.length
  · rw [if_pos cl] at hr; cases hr
  rw [if_neg cl] at hr; have e : x.f2 = [] := List.length_eq_zero_iff.1 (by omega)
  by_cases c1 : x.f0 = 1
  · rw [if_pos c1] at hr; exact .inr (.inr (.inr (.inl ⟨c1, by rw [size_len]; exact of_decide_eq_true hr, e⟩)))
  rw [if_neg c1] at hr
  by_cases c2 : x.f0 = 2
  · exact .inr (.inr (.inr (.inr ⟨.inl c2, e⟩)))
  rw [if_neg c2] at hr
  by_cases c3 : x.f0 = 3
  · exact .inr (.inr (.inr (.inr ⟨.inr c3, e⟩)))
  rw [if_neg c3] at hr
  by_cases c5 : x.f0 = 5 ∨ x.f0 = 6 ∨ x.f0 = 7
  · exact .inr (.inr (.inl ⟨by omega, e⟩))
  · rw [if_neg c5] at hr; cases hr
theorem letter_inj {k m : Int} (h : 5 ≤ k ∧ k ≤ 7) (h2 : 5 ≤ m ∧ m ≤ 7) (e : meta_letter k = meta_letter m) : k = m := by
  have a : k = 5 ∨ k = 6 ∨ k = 7 := by omega
  have b : m = 5 ∨ m = 6 ∨ m = 7 := by omega
  rcases a with rfl | rfl | rfl <;> rcases b with rfl | rfl | rfl <;> first | rfl | (exact absurd (congrArg (fun s : ByteArray => s.data.toList) e) (by decide))
theorem letter_ne {k : Int} (h : 5 ≤ k ∧ k ≤ 7) : meta_letter k ≠ ⟨#[86]⟩ := by
  have a : k = 5 ∨ k = 6 ∨ k = 7 := by omega
  intro e
  rcases a with rfl | rfl | rfl <;> exact absurd (congrArg (fun s : ByteArray => s.data.toList) e) (by decide)
def Shape (x : S44) (a : List S44) : Prop :=
  (∃ ks, x = ⟨4, ⟨#[]⟩, ks⟩ ∧ a = [⟨4, ⟨#[]⟩, upL ks⟩]) ∨ (∃ t ks, x = ⟨8, t, ks⟩ ∧ a = [charS 42, ⟨4, ⟨#[]⟩, wordT t :: upL ks⟩]) ∨
  (∃ k t, (5 ≤ k ∧ k ≤ 7) ∧ x = ⟨k, t, []⟩ ∧ a = [charS 42, ⟨1, meta_letter k, []⟩, wordT t]) ∨ (x = charS 42 ∧ a = [charS 42, charS 86]) ∨
  (∃ k t, (k = 1 ∨ k = 2 ∨ k = 3) ∧ ¬ (k = 1 ∧ t.toList = [42]) ∧ x = ⟨k, t, []⟩ ∧ a = [⟨k, t, []⟩])
theorem shape_of {x : S44} (h : fineS 8 x = true) : Shape x (upT x) := by
  rcases right_form h with ⟨h1, h2⟩ | h1 | ⟨h1, h2⟩ | ⟨h1, h2, h3⟩ | ⟨h1, h2⟩
  · obtain ⟨k, t, ks⟩ := x; simp only at h1 h2; subst h1; subst h2; rw [upT_eq]; exact .inl ⟨ks, rfl, rfl⟩
  · obtain ⟨k, t, ks⟩ := x; simp only at h1; subst h1; rw [upT_eq]; exact .inr (.inl ⟨t, ks, rfl, rfl⟩)
  · obtain ⟨k, t, ks⟩ := x; simp only at h1 h2; subst h2; rw [upT_eq, if_neg (show ¬ k = 4 by omega), if_neg (show ¬ k = 8 by omega), if_pos h1]; exact .inr (.inr (.inl ⟨k, t, h1, rfl, rfl⟩))
  · obtain ⟨k, t, ks⟩ := x; simp only at h1 h2 h3; subst h1; subst h3; rw [upT_eq, if_neg (show ¬ (1 : Int) = 4 by decide), if_neg (show ¬ (1 : Int) = 8 by decide), if_neg (show ¬ ((5 : Int) ≤ 1 ∧ (1 : Int) ≤ 7) by decide)]
    by_cases c : t.toList = [42]
    · rw [if_pos ⟨rfl, c⟩]; have : t = ⟨#[42]⟩ := ba_ext (by rw [← toList_data, c]); subst this; exact .inr (.inr (.inr (.inl ⟨rfl, rfl⟩)))
    · rw [if_neg (fun h => c h.2)]; exact .inr (.inr (.inr (.inr ⟨1, t, .inl rfl, (fun h => c h.2), rfl, rfl⟩)))
  · obtain ⟨k, t, ks⟩ := x; simp only at h1 h2; subst h2
    have n1 : ¬ k = 1 := by omega
    rw [upT_eq, if_neg (show ¬ k = 4 by omega), if_neg (show ¬ k = 8 by omega), if_neg (show ¬ (5 ≤ k ∧ k ≤ 7) by omega), if_neg (fun h => n1 h.1)]; exact .inr (.inr (.inr (.inr ⟨k, t, .inr h1, (fun h => n1 h.1), rfl, rfl⟩)))
theorem star_list : (⟨#[42]⟩ : ByteArray).toList = [42] := by rw [toList_data]
theorem shape_inj {x y : S44} {a b r s : List S44} (hx : Shape x a) (hy : Shape y b) (hk : upL x.f2 = upL y.f2 → x.f2 = y.f2) (h : a ++ r = b ++ s) : x = y ∧ r = s := by
  have n41 : ¬ (4 : Int) = 1 := by decide
  have n14 : ¬ (1 : Int) = 4 := by decide
  rcases hx with ⟨ks, rfl, rfl⟩ | ⟨t, ks, rfl, rfl⟩ | ⟨k, t, hv, rfl, rfl⟩ | ⟨rfl, rfl⟩ | ⟨k, t, h3, hn, rfl, rfl⟩ <;>
  rcases hy with ⟨ks', rfl, rfl⟩ | ⟨t', ks', rfl, rfl⟩ | ⟨k', t', hv', rfl, rfl⟩ | ⟨rfl, rfl⟩ | ⟨k', t', h3', hn', rfl, rfl⟩ <;>
  simp only [List.cons_append, List.nil_append, List.cons.injEq, charS, wordT, S44.mk.injEq, and_assoc, true_and, and_true, n41, n14, false_and, and_false] at h hk ⊢
  all_goals first
    | exact ⟨hk h.1, h.2⟩
    | exact ⟨h.1, hk h.2.1, h.2.2⟩
    | exact ⟨letter_inj hv hv' h.1, h.2⟩
    | exact absurd h.1 (letter_ne hv)
    | exact absurd h.1.symm (letter_ne hv')
    | exact h
    | omega
    | exact absurd ⟨h.1.symm, by rw [← h.2.1]; exact star_list⟩ hn'
    | exact absurd ⟨h.1, by rw [h.2.1]; exact star_list⟩ hn
theorem up_inj : ∀ (n : Nat) (l m : List S44), bk44s l ≤ n → (flat l).all (fineS 8) = true → (flat m).all (fineS 8) = true → upL l = upL m → l = m := by
  intro n
  induction n using Nat.strongRecOn with
  | _ n ih =>
    intro l m h hl hm he
    match l, m with
    | [], [] => rfl
    | [], y :: s =>
      have hy : fineS 8 y = true := by rw [flat_cons, List.all_cons, Bool.and_eq_true] at hm; exact hm.1
      simp only [upL] at he; have := shape_of hy
      generalize upT y = a at he this
      rcases this with ⟨_, _, rfl⟩ | ⟨_, _, _, rfl⟩ | ⟨_, _, _, _, rfl⟩ | ⟨_, rfl⟩ | ⟨_, _, _, _, _, rfl⟩ <;> simp at he
    | x :: r, [] =>
      have hy : fineS 8 x = true := by rw [flat_cons, List.all_cons, Bool.and_eq_true] at hl; exact hl.1
      simp only [upL] at he; have := shape_of hy
      generalize upT x = a at he this
      rcases this with ⟨_, _, rfl⟩ | ⟨_, _, _, rfl⟩ | ⟨_, _, _, _, rfl⟩ | ⟨_, rfl⟩ | ⟨_, _, _, _, _, rfl⟩ <;> simp at he
    | x :: r, y :: s =>
      rw [flat_cons, List.all_cons, List.all_append, Bool.and_eq_true, Bool.and_eq_true] at hl hm; have hb := bk44_eq x; simp only [bk44s] at h; simp only [upL] at he; obtain ⟨e1, e2⟩ := shape_inj (shape_of hl.1) (shape_of hm.1) (fun e => ih (bk44s x.f2) (by omega) x.f2 y.f2 (Nat.le_refl _) hl.2.1 hm.2.1 e) he; rw [e1, ih (bk44s r) (by omega) r s (Nat.le_refl _) hl.2.2 hm.2.2 e2]
end Go.Proofs.Ytnffhiiihegjbaa.MP
