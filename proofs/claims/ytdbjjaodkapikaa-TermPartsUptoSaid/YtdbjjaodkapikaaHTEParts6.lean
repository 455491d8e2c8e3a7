/- Plain laws for TermParts, second part: String, Variable, Variables. -/
import Derived.Test.YtdbjjaodkapikaaHTEParts5
import Derived.Test.YtdbjjaodkapikaaHTEx14
namespace Go.Proofs.Ytdbjjaodkapikaa.TE
open Go.RowKit Go.Proofs.YtdbjjaodkapikaaW.PrintWords Go.Proofs.YtdbjjaodkapikaaW.PrintLast Go.Proofs.YtdbjjaodkapikaaW.PrintMore Go.Proofs.Ytdbjjaodkapikaa.Evs
set_option linter.unusedVariables false
set_option linter.unusedSimpArgs false
theorem nmStep_len (ns : List ByteArray) (x : Tm) : (nmStep ns x).length ≤ ns.length + 1 := by
  unfold nmStep
  split
  · omega
  · split
    · omega
    · simp
theorem names_loop {x0 : List S42} (hb : x0.length ≤ 1048576) : ∀ (r : List S42) (n : Nat) (out : List ByteArray), x0.drop n = r → out.length + (flat r).length ≤ 4194304 → (∀ x ∈ r, x.f1.size ≤ 1099511627776) →
    (∀ x ∈ r, ∀ out : List ByteArray, out.length + (flat x.f2).length ≤ 4194304 → Evt (fun k => chiasmusref01_names.f k x.f2 out) ((flat x.f2).foldl nmStep out)) →
    Evt (fun k => chiasmusref01_names.l0 k x0 out (n : Int)) ((flat r).foldl nmStep out)
  | [], n, out, h, _, _, _ => by
    refine Evt.succ ?_; simp only [chiasmusref01_names.l0, if_neg (stop h), flat_nil, List.foldl_nil]; exact Evt.const _
  | x :: r, n, out, h, hl, hs, hk => by
    obtain ⟨h1, h2, h3, h4, h5⟩ := mid h (by omega); rw [flat_cons, List.length_cons, List.length_append] at hl; have hst := nmStep_len out x; have hfl := foldl_len (flat x.f2) (nmStep out x); have h8 := name_eq x.f0 x.f1 x.f2 (hs x List.mem_cons_self); have hkid := hk x List.mem_cons_self (nmStep out x) (by omega); have hrest := names_loop hb r (n + 1) ((flat x.f2).foldl nmStep (nmStep out x)) h4 (by omega) (fun y hy => hs y (List.mem_cons_of_mem _ hy)) (fun y hy => hk y (List.mem_cons_of_mem _ hy)); refine Evt.succ ?_; rw [flat_cons, List.foldl_cons, List.foldl_append]; simp only [chiasmusref01_names.l0, if_pos h1, if_pos h2, rd_mid h3, h5, h8, Option.bind_some, toList_data]
    by_cases he : (nameB x.f0 x.f1).data.toList = []
    · have hn : nmStep out x = out := by unfold nmStep; rw [if_pos he]
      rw [hn] at hkid hrest ⊢; simp only [if_pos he]; exact Evt.bind hkid hrest
    · simp only [if_neg he]; refine Evt.bind (Has_ev (by omega) _) ?_
      by_cases hh : hasB out (nameB x.f0 x.f1) = true
      · have hn : nmStep out x = out := by unfold nmStep; rw [if_neg he, if_pos hh]
        rw [hn] at hkid hrest ⊢; simp only [if_pos hh]; exact Evt.bind hkid hrest
      · have hn : nmStep out x = out ++ [nameB x.f0 x.f1] := by unfold nmStep; rw [if_neg he, if_neg hh]
        rw [hn] at hkid hrest ⊢
        have g1 : ([] : List ByteArray).length + out.length < 8796093022208 := by simp; omega
        have g2 : out.length < 8796093022208 := by omega
        simp only [if_neg hh, Option.bind_some, if_pos g1, List.nil_append, if_pos g2]; exact Evt.bind hkid hrest
theorem names_ev : ∀ (n : Nat) (l : List S42) (out : List ByteArray), bk42s l ≤ n → n ≤ 1048576 → out.length + (flat l).length ≤ 4194304 → Evt (fun k => chiasmusref01_names.f k l out) ((flat l).foldl nmStep out) := by
  intro n
  induction n using Nat.strongRecOn with
  | _ n ih =>
    intro l out h hn ho; have h1 := bk_len l; refine Evt.succ ?_; simp only [chiasmusref01_names.f]
    refine names_loop (by omega) l 0 out rfl ho (fun x hx => by have := bk_mem hx; omega) fun x hx out2 h2 => by
      have := bk_mem hx; exact ih (bk42s x.f2) (by omega) x.f2 out2 (Nat.le_refl _) (by omega) h2
theorem Variables_ev {l : List S42} (h : bk42s l ≤ 1048576) : Evt (fun k => chiasmusref01_Variables.f k l) (namesL l) := by
  simp only [chiasmusref01_Variables.f]; refine Evt.bind (names_ev _ l [] (Nat.le_refl _) h (by have := flat_len l; simp; omega)) (Evt.const _)
theorem chr_iff (x : Tm) : chrOk x = true ↔ x.f0 = 1 ∧ x.f1.data.toList.length = 1 ∧ x.f2 = [] := by
  unfold chrOk
  by_cases h1 : x.f0 = 1
  · rw [decide_eq_true h1, Bool.true_and]; unfold rightS; rw [if_neg (by omega), if_neg (by omega)]
    by_cases h2 : 0 < x.f2.length
    · rw [if_pos h2]
      constructor
      · intro h; cases h
      · rintro ⟨_, _, h3⟩; rw [h3] at h2; simp at h2
    · rw [if_neg h2, if_pos h1, decide_eq_true_iff]; have : x.f2 = [] := List.length_eq_zero_iff.1 (by omega); exact ⟨fun h => ⟨h1, h, this⟩, fun h => h.2.1⟩
  · rw [decide_eq_false h1, Bool.false_and]; exact ⟨fun h => (by cases h), fun h => absurd h.1 h1⟩
theorem ba_app (a : List UInt8) (t : ByteArray) : (⟨a.toArray⟩ : ByteArray) ++ t = ⟨(a ++ t.data.toList).toArray⟩ := by
  apply ba_ext; simp
theorem String_loop {x0 : List S42} (hb : x0.length ≤ 1048576) (hs : (strL x0).length ≤ 1048576) : ∀ (r : List S42) (n : Nat) (acc : ByteArray), x0.drop n = r → acc = ⟨(strL (x0.take n)).toArray⟩ → (x0.take n).all chrOk = true →
    Evt (fun k => chiasmusref01_String.l0 k x0 acc (n : Int)) ((strR x0).1, (strR x0).2)
  | [], n, acc, h, ha, hall => by
    have ht : x0.take n = x0 := List.take_of_length_le (List.drop_eq_nil_iff.1 h); rw [ht] at ha hall; refine Evt.succ ?_
    have hr : strR x0 = (⟨(strL x0).toArray⟩, true) := by unfold strR; rw [if_pos hall]
    simp only [chiasmusref01_String.l0, if_neg (stop h), hr, ha]; exact Evt.const _
  | x :: r, n, acc, h, ha, hall => by
    obtain ⟨h1, h2, h3, h4, h5⟩ := mid h (by omega)
    have hx : x0[n]? = some x := by
      have := congrArg (fun l => l[0]?) h
      simpa using this
    refine Evt.succ ?_; simp only [chiasmusref01_String.l0, if_pos h1, if_pos h2, rd_mid h3, h5]
    have hsl : (x.f1.size : Int) = 1 ↔ x.f1.data.toList.length = 1 := by rw [size_len]; omega
    by_cases c : chrOk x = true
    · obtain ⟨c1, c2, c3⟩ := (chr_iff x).1 c
      have c4 : ¬ (x.f2.length : Int) > 0 := by rw [c3]; simp
      have hlen := strL_take_len (l := x0) (n + 1); rw [strL_take hx, List.length_append, ← size_len] at hlen
      have c5 : acc.size + x.f1.size ≤ 9223372036854775807 := by
        have : acc.size = (strL (x0.take n)).length := by rw [ha, size_len]
        omega
      simp only [if_pos c1, if_pos (hsl.2 c2), if_neg c4, if_pos c5]; refine String_loop hb hs r (n + 1) _ h4 ?_ ?_
      · rw [strL_take hx, ha, ba_app]
      · rw [take_succ_at hx, List.all_append, hall]; simp [c]
    · have hr : strR x0 = (⟨#[]⟩, false) := strR_no hx (Bool.eq_false_iff.2 c); rw [hr]
      by_cases c1 : x.f0 = 1
      · simp only [if_pos c1]
        by_cases c2 : (x.f1.size : Int) = 1
        · simp only [if_pos c2]
          have c3 : (x.f2.length : Int) > 0 := by
            rcases Nat.eq_zero_or_pos x.f2.length with h0 | h0
            · exact absurd ((chr_iff x).2 ⟨c1, hsl.1 c2, List.length_eq_zero_iff.1 h0⟩) c
            · omega
          simp only [if_pos c3]; exact Evt.const _
        · simp only [if_neg c2]; exact Evt.const _
      · simp only [if_neg c1]; exact Evt.const _
theorem String_ev {l : List S42} (h : bk42s l ≤ 1048576) : Evt (fun k => chiasmusref01_String.f k l) ((strR l).1, (strR l).2) := by
  simp only [chiasmusref01_String.f]; exact String_loop (by have := bk_len l; omega) (by have := strL_len l; omega) l 0 _ rfl rfl rfl
set_option maxRecDepth 20000 in
theorem idx_cases (b : UInt8) : (b.toNat = 115 ∧ idxB b = 0) ∨ (b.toNat = 116 ∧ idxB b = 1) ∨ (b.toNat = 101 ∧ idxB b = 2) ∨ ((b.toNat ≠ 115 ∧ b.toNat ≠ 116 ∧ b.toNat ≠ 101) ∧ idxB b = -1) :=
  byte_all (fun b => (b.toNat = 115 ∧ idxB b = 0) ∨ (b.toNat = 116 ∧ idxB b = 1) ∨ (b.toNat = 101 ∧ idxB b = 2) ∨ ((b.toNat ≠ 115 ∧ b.toNat ≠ 116 ∧ b.toNat ≠ 101) ∧ idxB b = -1)) (by decide) b
theorem right_var (s : ByteArray) (b : UInt8) (h : 0 ≤ idxB b) : rightS (varT s b) = varS (s.extract 2 s.size).data.toList := by
  have h2 := (idx_le b).1; unfold rightS; have e0 : (varT s b).f0 = 5 + idxB b := rfl; have e2 : (varT s b).f2 = [] := rfl; rw [e0, e2, if_neg (by omega), if_neg (by omega), if_neg (by simp), if_neg (by omega), if_neg (by omega), if_neg (by omega), if_pos (by omega)]; rfl
theorem Variable_ev {s : ByteArray} (hb : s.size ≤ 1048576) : Evt (fun k => chiasmusref01_Variable.f k s) ((varV s).1.f0, (varV s).1.f1, ([] : List S42), (varV s).2) := by
  have hz : ∀ k, chiasmusref01_Variable.j0 (k + 1) s true = some (0, (⟨#[]⟩ : ByteArray), ([] : List S42), false) := fun k => by simp only [chiasmusref01_Variable.j0, if_true]
  have hzE : Evt (fun k => chiasmusref01_Variable.j0 k s true) (0, (⟨#[]⟩ : ByteArray), ([] : List S42), false) := Evt.succ (by simp only [hz]; exact Evt.const _); simp only [chiasmusref01_Variable.f]
  by_cases h3 : (s.size : Int) < 3
  · simp only [if_pos h3]
    have hv : varV s = (z42, false) := by
      unfold varV
      by_cases h2 : 2 ≤ s.size
      · rw [dif_pos h2, if_neg]; rintro ⟨_, h0, hr⟩; rw [right_var s _ h0] at hr
        have : (s.extract 2 s.size).data.toList = [] := by
          rw [extract_list]; apply List.length_eq_zero_iff.1; rw [List.length_take, List.length_drop, ← size_len]; omega
        rw [this] at hr; simp [varS] at hr
      · rw [dif_neg h2]
    rw [hv]; exact hzE
  · have h2 : 2 ≤ s.size := by omega
    have h1i : (1 : Int) < (s.size : Int) := by omega
    have h2i : (2 : Int) ≤ (s.size : Int) := by omega
    have h0i : (0 : Int) < (s.size : Int) := by omega
    have hb1 : bt s 1 = ((s[1]'(by omega)).toNat : Int) := (bt_at s 1 (by show 1 < s.size; omega)).symm; have hb0 : bt s 0 = ((s[0]'(by omega)).toNat : Int) := (bt_at s 0 (by show 0 < s.size; omega)).symm; obtain ⟨b1, e1⟩ : ∃ b1, b1 = s[1]'(by omega) := ⟨_, rfl⟩; obtain ⟨b0, e0⟩ : ∃ b0, b0 = s[0]'(by omega) := ⟨_, rfl⟩
    have hv : varV s = if b1 = 46 ∧ (0 : Int) ≤ idxB b0 ∧ rightS (varT s b0) = true then (varT s b0, true) else (z42, false) := by unfold varV; rw [dif_pos h2, e0, e1]
    rw [← e1] at hb1; rw [← e0] at hb0; simp only [if_neg h3, if_pos h1i, hb1]
    by_cases c46 : (b1.toNat : Int) = 46
    · have c46' : b1 = 46 := UInt8.toNat_inj.1 (by show b1.toNat = 46; omega); simp only [if_pos c46, if_pos h2i]
      refine Evt.bind (rvar_ev (s := s.extract 2 s.size) (by
        have h := size_len (s.extract 2 s.size); rw [extract_list, List.length_take, List.length_drop, ← size_len] at h
        omega)) ?_
      by_cases cv : varS (s.extract 2 s.size).data.toList = true
      · rw [cv]; refine Evt.succ ?_; simp only [chiasmusref01_Variable.j0, Bool.not_true, Bool.false_eq_true, if_false, if_pos h0i, hb0, if_pos h2i]
        rcases idx_cases b0 with ⟨g, gi⟩ | ⟨g, gi⟩ | ⟨g, gi⟩ | ⟨⟨g1, g2, g3⟩, gi⟩
        · have hvv : varV s = (varT s b0, true) := by rw [hv, if_pos ⟨c46', by omega, by rw [right_var s b0 (by omega)]; exact cv⟩]
          simp only [if_pos (show (b0.toNat : Int) = 115 by omega), hvv, varT, gi]; exact Evt.const _
        · have hvv : varV s = (varT s b0, true) := by rw [hv, if_pos ⟨c46', by omega, by rw [right_var s b0 (by omega)]; exact cv⟩]
          simp only [if_neg (show ¬ (b0.toNat : Int) = 115 by omega), if_pos (show (b0.toNat : Int) = 116 by omega), hvv, varT, gi]; exact Evt.const _
        · have hvv : varV s = (varT s b0, true) := by rw [hv, if_pos ⟨c46', by omega, by rw [right_var s b0 (by omega)]; exact cv⟩]
          simp only [if_neg (show ¬ (b0.toNat : Int) = 115 by omega), if_neg (show ¬ (b0.toNat : Int) = 116 by omega), if_pos (show (b0.toNat : Int) = 101 by omega), hvv, varT, gi]; exact Evt.const _
        · have hvv : varV s = (z42, false) := by rw [hv, if_neg (fun h => by have := h.2.1; omega)]
          simp only [if_neg (show ¬ (b0.toNat : Int) = 115 by omega), if_neg (show ¬ (b0.toNat : Int) = 116 by omega), if_neg (show ¬ (b0.toNat : Int) = 101 by omega), hvv]; exact Evt.const _
      · have hvv : varV s = (z42, false) := by
          rw [hv, if_neg]; rintro ⟨_, h0, hr⟩; rw [right_var s b0 h0] at hr; exact cv hr
        rw [hvv, Bool.eq_false_iff.2 cv]; exact hzE
    · have hvv : varV s = (z42, false) := by rw [hv, if_neg (fun h => c46 (by rw [h.1]; rfl))]
      simp only [if_neg c46]; rw [hvv]; exact hzE
end Go.Proofs.Ytdbjjaodkapikaa.TE
