/- Plain laws: the program's comparison and the reference's have one value, which is 0 just for the same expressions; twin is the expression. -/
import Derived.Test.YtdbjjaodkapikaaLTEPlain
import Derived.Test.YtdbjjaodkapikaaLTEx13
namespace Go.Proofs.Ytdbjjaodkapikaa.TE
open Go.RowKit Go.Proofs.YtdbjjaodkapikaaW.PrintWords Go.Proofs.YtdbjjaodkapikaaW.PrintLast Go.Proofs.YtdbjjaodkapikaaW.PrintMore Go.Proofs.Ytdbjjaodkapikaa.Evs
set_option linter.unusedVariables false
set_option linter.unusedSimpArgs false
theorem less_self (l : List UInt8) : Op.bytesLess l l = false := by
  induction l with
  | nil => rfl
  | cons b r ih => simp [Op.bytesLess, ih]
theorem less_total : ∀ a b : List UInt8, Op.bytesLess a b = false → Op.bytesLess b a = false → a = b
  | [], [], _, _ => rfl
  | [], _ :: _, h, _ => by simp [Op.bytesLess] at h
  | _ :: _, [], _, h => by simp [Op.bytesLess] at h
  | x :: r, y :: s, h, h2 => by
    simp only [Op.bytesLess] at h h2
    by_cases c : x < y
    · simp [c] at h
    · by_cases c2 : y < x
      · simp [c2] at h2
      · have : x = y := UInt8.le_antisymm (UInt8.not_lt.1 c2) (UInt8.not_lt.1 c); subst this; simp [c] at h h2; rw [less_total r s h h2]
theorem cmps_eq (a b : ByteArray) : cmp_Compare_string.f a b = chiasmusref01_Sign.f a b := by
  simp [cmp_Compare_string.f, cmp_isNaN_string.f, chiasmusref01_Sign.f]
theorem cmpi_eq (a b : Int) : cmp_Compare_int.f a b = some (if a < b then -1 else if a > b then 1 else 0) := by
  simp only [cmp_Compare_int.f, cmp_isNaN_int.f, Option.bind_some, bne_self_eq_false, Bool.false_eq_true, if_false]
  split
  · rfl
  · split <;> rfl
theorem sign_eq (a b : ByteArray) : ∃ v, chiasmusref01_Sign.f a b = some v ∧ (v = 0 ↔ a = b) := by
  unfold chiasmusref01_Sign.f
  by_cases c : Op.bytesLess a.toList b.toList = true
  · rw [if_pos c]; refine ⟨-1, rfl, ⟨fun h => by omega, fun h => ?_⟩⟩; subst h; rw [less_self] at c; cases c
  · rw [if_neg c]
    by_cases c2 : Op.bytesLess b.toList a.toList = true
    · rw [if_pos c2]; refine ⟨1, rfl, ⟨fun h => by omega, fun h => ?_⟩⟩; subst h; exact absurd c2 c
    · rw [if_neg c2]; refine ⟨0, rfl, ⟨fun _ => ba_ext ?_, fun _ => rfl⟩⟩; have := less_total _ _ (Bool.eq_false_iff.2 c) (Bool.eq_false_iff.2 c2)
      rwa [toList_data, toList_data] at this
theorem mn_lt (a b i : Int) : i < mn a b ↔ i < a ∧ i < b := by unfold mn; split <;> omega
theorem cmp2_loop {x0 x1 : List S42} (hb : x0.length ≤ 1099511627776) (hb1 : x1.length ≤ 1099511627776) : ∀ (r : List S42) (s : List S42) (n : Nat), x0.drop n = r → x1.drop n = s → x0.length = n + r.length → x1.length = n + s.length →
    (∀ x ∈ r, ∀ y ∈ s, ∃ v, Evt (fun k => chiasmusref01_Compare.f k x.f2 y.f2) v ∧ Evt (fun k => term_Compare.f k x.f2 y.f2) v ∧ (v = 0 ↔ x.f2 = y.f2)) →
    ∃ v, Evt (fun k => chiasmusref01_Compare.l0 k x0 x1 (n : Int)) v ∧ Evt (fun k => term_Compare.l0 k x0 x1 (mn (x0.length : Int) (x1.length : Int)) (n : Int)) v ∧ (v = 0 ↔ r = s)
  | [], s, n, h, h', hl, hl', _ => by
    have e : ∀ k, chiasmusref01_Compare.l0 (k + 1) x0 x1 (n : Int) = chiasmusref01_Compare.j1 k x0 x1 (n : Int) false := fun k => by simp only [chiasmusref01_Compare.l0, if_neg (stop h)]
    have e2 : ∀ k, term_Compare.l0 (k + 1) x0 x1 (mn (x0.length : Int) (x1.length : Int)) (n : Int) = some (if (x0.length : Int) < (x1.length : Int) then -1 else if (x0.length : Int) > (x1.length : Int) then 1 else 0) := fun k => by
      simp only [term_Compare.l0, if_neg (show ¬ (n : Int) < mn (x0.length : Int) (x1.length : Int) from fun hh => stop h ((mn_lt _ _ _).1 hh).1), cmpi_eq, Option.bind_some]
    simp only [List.length_nil] at hl
    by_cases c : (x0.length : Int) < (x1.length : Int)
    · refine ⟨-1, Evt.succ ?_, Evt.succ ?_, ⟨fun h => by omega, fun h => by subst h; simp at hl'; omega⟩⟩
      · simp only [e]; refine Evt.succ ?_; simp only [chiasmusref01_Compare.j1, Bool.false_eq_true, if_false, if_pos c]; exact Evt.const _
      · simp only [e2, if_pos c]; exact Evt.const _
    · by_cases c2 : (x0.length : Int) > (x1.length : Int)
      · refine ⟨1, Evt.succ ?_, Evt.succ ?_, ⟨fun h => by omega, fun h => by subst h; simp at hl'; omega⟩⟩
        · simp only [e]; refine Evt.succ ?_; simp only [chiasmusref01_Compare.j1, Bool.false_eq_true, if_false, if_neg c, if_pos c2]; exact Evt.const _
        · simp only [e2, if_neg c, if_pos c2]; exact Evt.const _
      · have hs : s = [] := List.length_eq_zero_iff.1 (by omega); refine ⟨0, Evt.succ ?_, Evt.succ ?_, ⟨fun _ => hs.symm, fun _ => rfl⟩⟩
        · simp only [e]; refine Evt.succ ?_; simp only [chiasmusref01_Compare.j1, Bool.false_eq_true, if_false, if_neg c, if_neg c2]; exact Evt.const _
        · simp only [e2, if_neg c, if_neg c2]; exact Evt.const _
  | x :: r, [], n, h, h', hl, hl', _ => by
    obtain ⟨h1, h2, h3, h4, h5⟩ := mid h hb; simp only [List.length_nil] at hl'
    have c0 : ¬ (n : Int) < (x1.length : Int) := by omega
    refine ⟨1, Evt.succ ?_, Evt.succ ?_, ⟨fun h => by omega, fun h => by cases h⟩⟩
    · simp only [chiasmusref01_Compare.l0, if_pos h1, decide_eq_false c0]; refine Evt.succ ?_; simp only [chiasmusref01_Compare.j1, Bool.false_eq_true, if_false, if_neg (show ¬ (x0.length : Int) < (x1.length : Int) by omega), if_pos (show (x0.length : Int) > (x1.length : Int) by omega)]; exact Evt.const _
    · simp only [term_Compare.l0, if_neg (show ¬ (n : Int) < mn (x0.length : Int) (x1.length : Int) from fun hh => c0 ((mn_lt _ _ _).1 hh).2), cmpi_eq, Option.bind_some, if_neg (show ¬ (x0.length : Int) < (x1.length : Int) by omega), if_pos (show (x0.length : Int) > (x1.length : Int) by omega)]; exact Evt.const _
  | x :: r, y :: s, n, h, h', hl, hl', hk => by
    obtain ⟨h1, h2, h3, h4, h5⟩ := mid h hb; obtain ⟨g1, _, g3, g4, _⟩ := mid h' hb1; simp only [List.length_cons] at hl hl'; obtain ⟨v, hv, hv', iv⟩ := hk x List.mem_cons_self y List.mem_cons_self
    obtain ⟨u, hu, hu', iu⟩ := cmp2_loop hb hb1 r s (n + 1) h4 g4 (by omega) (by omega) fun a ha b hb => hk a (List.mem_cons_of_mem _ ha) b (List.mem_cons_of_mem _ hb)
    obtain ⟨t, ht, it⟩ := sign_eq x.f1 y.f1
    have hx : ∀ x y : S42, x = y ↔ x.f0 = y.f0 ∧ x.f1 = y.f1 ∧ x.f2 = y.f2 := fun x y => by cases x; cases y; simp
    have hmn : (n : Int) < mn (x0.length : Int) (x1.length : Int) := (mn_lt _ _ _).2 ⟨h1, g1⟩
    have htl : x.f1.toList = y.f1.toList ↔ t = 0 := by
      rw [it, toList_data, toList_data]; exact ⟨ba_ext, fun h => by rw [h]⟩
    by_cases c : x.f0 = y.f0
    · by_cases ct : t = 0
      · by_cases cv : v = 0
        · refine ⟨u, Evt.succ ?_, Evt.succ ?_, by rw [iu, List.cons.injEq, hx x y]; simp [c, it.1 ct, iv.1 cv]⟩
          · simp only [chiasmusref01_Compare.l0, if_pos h1, decide_eq_true g1]; refine Evt.succ ?_; simp only [chiasmusref01_Compare.j1, if_true, if_pos h1, if_pos h2, if_pos g1, rd_mid h3, rd_mid g3, h5, if_pos c, ht, Option.bind_some, if_pos ct]; refine Evt.bind hv ?_; simp only [if_pos cv]; exact hu
          · simp only [term_Compare.l0, if_pos hmn, if_pos h1, if_pos h2, if_pos g1, rd_mid h3, rd_mid g3, h5, if_pos c, if_pos (htl.2 ct)]; refine Evt.bind hv' ?_; simp only [if_pos cv]; exact hu'
        · refine ⟨v, Evt.succ ?_, Evt.succ ?_, ⟨fun h => absurd h cv, fun h => by injection h with h _; exact iv.2 (by rw [h])⟩⟩
          · simp only [chiasmusref01_Compare.l0, if_pos h1, decide_eq_true g1]; refine Evt.succ ?_; simp only [chiasmusref01_Compare.j1, if_true, if_pos h1, if_pos h2, if_pos g1, rd_mid h3, rd_mid g3, h5, if_pos c, ht, Option.bind_some, if_pos ct]; refine Evt.bind hv ?_; simp only [if_neg cv]; exact Evt.const _
          · simp only [term_Compare.l0, if_pos hmn, if_pos h1, if_pos h2, if_pos g1, rd_mid h3, rd_mid g3, h5, if_pos c, if_pos (htl.2 ct)]; refine Evt.bind hv' ?_; simp only [if_neg cv]; exact Evt.const _
      · refine ⟨t, Evt.succ ?_, Evt.succ ?_, ⟨fun h => absurd h ct, fun h => by injection h with h _; exact it.2 (by rw [h])⟩⟩
        · simp only [chiasmusref01_Compare.l0, if_pos h1, decide_eq_true g1]; refine Evt.succ ?_; simp only [chiasmusref01_Compare.j1, if_true, if_pos h1, if_pos h2, if_pos g1, rd_mid h3, rd_mid g3, h5, if_pos c, ht, Option.bind_some, if_neg ct]; exact Evt.const _
        · simp only [term_Compare.l0, if_pos hmn, if_pos h1, if_pos h2, if_pos g1, rd_mid h3, rd_mid g3, h5, if_pos c, if_neg (fun hh => ct (htl.1 hh)), cmps_eq, ht, Option.bind_some]; exact Evt.const _
    · refine ⟨if x.f0 < y.f0 then -1 else 1, Evt.succ ?_, Evt.succ ?_, ⟨fun h => by split at h <;> omega, fun h => by injection h with h _; exact absurd (by rw [h]) c⟩⟩
      · simp only [chiasmusref01_Compare.l0, if_pos h1, decide_eq_true g1]; refine Evt.succ ?_; simp only [chiasmusref01_Compare.j1, if_true, if_pos h1, if_pos h2, if_pos g1, rd_mid h3, rd_mid g3, h5, if_neg c]; exact Evt.ite (fun _ => Evt.const _) (fun _ => Evt.const _)
      · simp only [term_Compare.l0, if_pos hmn, if_pos h1, if_pos h2, if_pos g1, rd_mid h3, rd_mid g3, h5, if_neg c, cmpi_eq, Option.bind_some]
        have e : (if x.f0 < y.f0 then (-1 : Int) else if x.f0 > y.f0 then 1 else 0) = if x.f0 < y.f0 then -1 else 1 := by
          split
          · rfl
          · rw [if_pos (by omega)]
        rw [e]; exact Evt.const _
theorem cmp2_ev : ∀ (n : Nat) (l m : List S42), bk42s l ≤ n → n ≤ 1099511627776 → bk42s m ≤ 1099511627776 → ∃ v, Evt (fun k => chiasmusref01_Compare.f k l m) v ∧ Evt (fun k => term_Compare.f k l m) v ∧ (v = 0 ↔ l = m) := by
  intro n
  induction n using Nat.strongRecOn with
  | _ n ih =>
    intro l m h hn hm; have h1 := bk_len l; have h2 := bk_len m
    obtain ⟨v, hv, hv', iv⟩ := cmp2_loop (x0 := l) (x1 := m) (by omega) (by omega) l m 0 rfl rfl (by omega) (by omega) fun x hx y hy => by
      have := bk_mem hx; have := bk_mem hy; exact ih (bk42s x.f2) (by omega) x.f2 y.f2 (Nat.le_refl _) (by omega) (by omega)
    refine ⟨v, Evt.succ ?_, Evt.succ ?_, iv⟩
    · simp only [chiasmusref01_Compare.f]; exact hv
    · simp only [term_Compare.f]; exact hv'
theorem Equals_ev {l m : List S42} (h : bk42s l ≤ 1099511627776) (h2 : bk42s m ≤ 1099511627776) : ∃ v : Int, Evt (fun k => chiasmusref01_Compare.f k l m) v ∧ Evt (fun k => term_Compare.f k l m) v ∧ Evt (fun k => chiasmusref01_Equal.f k l m) (v == 0) ∧ Evt (fun k => term_Equal.f k l m) (v == 0) ∧ (v = 0 ↔ l = m) := by
  obtain ⟨v, hv, hv', iv⟩ := cmp2_ev _ l m (Nat.le_refl _) h h2; refine ⟨v, hv, hv', ?_, ?_, iv⟩
  · simp only [chiasmusref01_Equal.f]; exact Evt.bind hv (Evt.const _)
  · simp only [term_Equal.f]; exact Evt.bind hv' (Evt.const _)
end Go.Proofs.Ytdbjjaodkapikaa.TE
