/- Plain law: Raise and Lower of any expression are what the reference says. -/
import Derived.Test.YtnffhiiihegjbaaDMDDnLaw
namespace Go.Proofs.Ytnffhiiihegjbaa.MD
open Go.RowKit Go.Proofs.YtnffhiiihegjbaaW.PrintWords Go.Proofs.YtnffhiiihegjbaaW.PrintLast Go.Proofs.YtnffhiiihegjbaaW.PrintMore Go.Proofs.Ytnffhiiihegjbaa.Evs
set_option linter.unusedVariables false
set_option linter.unusedSimpArgs false
theorem copy_loop {x0 : List S44} (hb : x0.length ≤ 1099511627776) : ∀ (r : List S44) (n : Nat), x0.drop n = r → (∀ x ∈ r, Evt (fun k => term_Copy.f k x.f2) x.f2) →
    Evt (fun k => term_Copy.l0 k x0 (x0.length : Int) (n : Int)) x0
  | [], n, h, _ => by
    refine Evt.succ ?_; simp only [term_Copy.l0, if_neg (stop h)]; exact Evt.const _
  | x :: r, n, h, hk => by
    obtain ⟨h1, h2, h3, h4, h5⟩ := mid h hb; refine Evt.succ ?_; simp only [term_Copy.l0, if_pos h1, if_pos h2, rd_mid h3, h5]; refine Evt.bind (hk x List.mem_cons_self) ?_
    have hx : (⟨x.f0, x.f1, x.f2⟩ : S44) = x := by cases x; rfl
    have hg : x0[n]? = some x := by
      have := congrArg (fun l : List S44 => l[0]?) h
      simpa using this
    have hset : x0.set (n : Int).toNat x = x0 := by
      rw [Int.toNat_natCast]; apply List.ext_getElem?; intro i; rw [List.getElem?_set]
      by_cases e : n = i
      · subst e; have hl : n < x0.length := (List.getElem?_eq_some_iff.1 hg).1; rw [if_pos rfl, if_pos hl, hg]
      · rw [if_neg e]
    simp only [hx, hset]
    exact copy_loop hb r (n + 1) h4 fun y hy => hk y (List.mem_cons_of_mem _ hy)
theorem copy_ev : ∀ (n : Nat) (l : List S44), bk44s l ≤ n → n ≤ 1099511627776 → Evt (fun k => term_Copy.f k l) l := by
  intro n
  induction n using Nat.strongRecOn with
  | _ n ih =>
    intro l h hn; have := bk_len l; refine Evt.succ ?_; simp only [term_Copy.f, api_Term.f, if_pos (show l.length < 2932031007402 by omega), Option.bind_some]
    exact copy_loop (by omega) l 0 rfl fun x hx => by
      have := bk_mem hx; exact ih (bk44s x.f2) (by omega) x.f2 (Nat.le_refl _) (by omega)
theorem rcopy_loop {x0 : List S44} (hb : x0.length ≤ 1099511627776) : ∀ (r : List S44) (n : Nat) (a : List S44), x0.drop n = r → a.length + r.length ≤ 1099511627776 → (∀ x ∈ r, Evt (fun k => chiasmusref01_Copy.f k x.f2) x.f2) →
    Evt (fun k => chiasmusref01_Copy.l0 k x0 a (n : Int)) (a ++ r)
  | [], n, a, h, _, _ => by
    refine Evt.succ ?_; simp only [chiasmusref01_Copy.l0, if_neg (stop h)]; exact (Evt.const _).eq (by simp)
  | x :: r, n, a, h, ha, hk => by
    obtain ⟨h1, h2, h3, h4, h5⟩ := mid h hb; simp only [List.length_cons] at ha
    have hx : (⟨x.f0, x.f1, x.f2⟩ : S44) = x := by cases x; rfl
    have ih : Evt (fun k => chiasmusref01_Copy.l0 k x0 (a ++ [x]) ((n + 1 : Nat) : Int)) (a ++ x :: r) :=
      (rcopy_loop hb r (n + 1) (a ++ [x]) h4 (by simp; omega) fun y hy => hk y (List.mem_cons_of_mem _ hy)).eq (by simp)
    refine Evt.succ ?_; simp only [chiasmusref01_Copy.l0, if_pos h1, if_pos h2, rd_mid h3, h5]
    by_cases c : (x.f2.length : Int) > 0
    · simp only [if_pos c]; refine Evt.bind (hk x List.mem_cons_self) ?_; simp only [if_pos (show a.length < 2932031007402 by omega), hx]; exact ih
    · have hn : x.f2 = [] := List.length_eq_zero_iff.1 (by omega)
      have hx' : (⟨x.f0, x.f1, []⟩ : S44) = x := by cases x; simp only at hn; rw [hn]
      simp only [if_neg c, if_pos (show a.length < 2932031007402 by omega), hx']; exact ih
theorem rcopy_ev : ∀ (n : Nat) (l : List S44), bk44s l ≤ n → n ≤ 1099511627776 → Evt (fun k => chiasmusref01_Copy.f k l) l := by
  intro n
  induction n using Nat.strongRecOn with
  | _ n ih =>
    intro l h hn; have := bk_len l; refine Evt.succ ?_; simp only [chiasmusref01_Copy.f]
    exact (rcopy_loop (by omega) l 0 [] rfl (by simp; omega) fun x hx => by
      have := bk_mem hx
      exact ih (bk44s x.f2) (by omega) x.f2 (Nat.le_refl _) (by omega)).eq (by simp)
theorem right_size {x : S44} (h : rightS x = true) : x.f1.size ≤ 501 := by
  unfold rightS at h; rw [size_len]
  repeat' split at h
  · rw [of_decide_eq_true h]; simp
  · unfold nameS at h
    split at h
    · cases h
    · simp only [Bool.and_eq_true, decide_eq_true_eq] at h; omega
  · cases h
  · rw [of_decide_eq_true h]; omega
  · simp only [wordS, Bool.and_eq_true, decide_eq_true_eq] at h; omega
  · simp only [numS, coreS, Bool.and_eq_true, decide_eq_true_eq] at h; have h1 := h.1.1.2
    generalize x.f1.data.toList = L at h1 ⊢
    cases L with
    | nil => simp
    | cons b r =>
      simp only [cutS] at h1
      split at h1
      · simp only [List.length_cons] at h1 ⊢; omega
      · simp only [List.length_cons] at h1 ⊢; omega
  · simp only [varS, Bool.and_eq_true, decide_eq_true_eq] at h; omega
  · cases h
theorem bk_flat : ∀ (n : Nat) (l : List S44), bk44s l ≤ n → bk44s l = ((flat l).map fun x => x.f1.size + 4).sum := by
  intro n
  induction n using Nat.strongRecOn with
  | _ n ih =>
    intro l h
    match l, h with
    | [], _ => simp [flat_nil, bk44s]
    | x :: r, h =>
      have hx := bk44_eq x; simp only [bk44s] at h ⊢; rw [flat_cons]; simp only [List.map_cons, List.map_append, List.sum_cons, List.sum_append]; rw [← ih (bk44s x.f2) (by omega) x.f2 (Nat.le_refl _), ← ih (bk44s r) (by omega) r (Nat.le_refl _)]
      omega
theorem sum_le {l : List S44} {c : Nat} {f : S44 → Nat} (h : ∀ x ∈ l, f x ≤ c) : (l.map f).sum ≤ l.length * c := by
  induction l with
  | nil => simp
  | cons x r ih =>
    simp only [List.map_cons, List.sum_cons, List.length_cons]; have := h x List.mem_cons_self
    have := ih fun y hy => h y (List.mem_cons_of_mem _ hy)
    rw [Nat.succ_mul]; omega
theorem check_bk {m : Int} {l : List S44} (h : checkS m l = 0) : bk44s l ≤ 2020000 := by
  have hf := check_fine' h
  have hc : (flat l).length ≤ 4000 := by
    unfold checkS at h
    split at h
    · omega
    · omega
  rw [bk_flat _ l (Nat.le_refl _)]; refine Nat.le_trans (sum_le (c := 505) fun x hx => ?_) (by omega); have := List.all_eq_true.1 hf x hx; simp only [fineS, Bool.and_eq_true] at this; have := right_size this.2
  omega
theorem UpS_bk' {l : List S44} (h : bk44s l ≤ 17179869184) : bk44s (UpS l).1 ≤ 40400000 := by
  unfold UpS
  split
  · rename_i c
    have := check_bk c; have hu := upL_bk _ l (Nat.le_refl _)
    split
    · simp only; omega
    · simp [bk44s]
  · simp [bk44s]
theorem raise_loop (x : Int) : ∀ (n : Nat) (i : Int) (l : List S44), (x - i).toNat = n → 0 ≤ i → x ≤ 10 → bk44s l ≤ 17179869184 → ∃ r : List S44 × Int, Evt (fun k => meta_Raise.l0 k l x i) r ∧ Evt (fun k => chiasmusref09_Raise.l0 k l x i) r ∧ bk44s r.1 ≤ 17179869184 := by
  intro n
  induction n with
  | zero =>
    intro i l hi h0 hx hl
    have c : ¬ i < x := by omega
    refine ⟨(l, 0), Evt.succ ?_, Evt.succ ?_, hl⟩
    · simp only [meta_Raise.l0, if_neg c]; exact Evt.const _
    · simp only [chiasmusref09_Raise.l0, if_neg c]; exact Evt.const _
  | succ n ih =>
    intro i l hi h0 hx hl
    have c : i < x := by omega
    have hw : wrap64 (i + 1) = i + 1 := wrap64_id (by omega) (by omega); have hub := UpS_bk' hl
    by_cases cu : (UpS l).2 = 0
    · obtain ⟨r, r1, r2, rb⟩ := ih (i + 1) (UpS l).1 (by omega) (by omega) hx (by omega); refine ⟨r, Evt.succ ?_, Evt.succ ?_, rb⟩
      · simp only [meta_Raise.l0, if_pos c]; refine Evt.bind (Up_ev hl) ?_; simp only [if_pos cu, hw]; exact r1
      · simp only [chiasmusref09_Raise.l0, if_pos c]; refine Evt.bind (rUp_ev hl) ?_; simp only [if_pos cu, hw]; exact r2
    · refine ⟨([], (UpS l).2), Evt.succ ?_, Evt.succ ?_, by simp [bk44s]⟩
      · simp only [meta_Raise.l0, if_pos c]; refine Evt.bind (Up_ev hl) ?_; simp only [if_neg cu]; exact Evt.const _
      · simp only [chiasmusref09_Raise.l0, if_pos c]; refine Evt.bind (rUp_ev hl) ?_; simp only [if_neg cu]; exact Evt.const _
theorem Raise_both {l : List S44} (h : bk44s l ≤ 17179869184) (x : Int) : ∃ r : List S44 × Int, Evt (fun k => meta_Raise.f k l x) r ∧ Evt (fun k => chiasmusref09_Raise.f k l x) r ∧ bk44s r.1 ≤ 17179869184 := by
  have hj : ∀ b : Bool, (b = false → x ≤ 10) → ∃ r : List S44 × Int, Evt (fun k => meta_Raise.j0 k l x b) r ∧ Evt (fun k => chiasmusref09_Raise.j0 k l x b) r ∧ bk44s r.1 ≤ 17179869184 := fun b hb => by
    cases b with
    | true =>
      refine ⟨([], 4), Evt.succ ?_, Evt.succ ?_, by simp [bk44s]⟩
      · simp only [meta_Raise.j0, if_true]; exact Evt.const _
      · simp only [chiasmusref09_Raise.j0, if_true]; exact Evt.const _
    | false =>
      by_cases c : checkS 8 l = 0
      · obtain ⟨r, r1, r2, rb⟩ := raise_loop x _ 0 l rfl (by omega) (hb rfl) h; refine ⟨r, Evt.succ ?_, Evt.succ ?_, rb⟩
        · simp only [meta_Raise.j0, Bool.false_eq_true, if_false]; refine Evt.bind (Result_ev (by omega)) ?_; simp only [if_pos c]; exact Evt.bind (copy_ev _ l (Nat.le_refl _) (by omega)) r1
        · simp only [chiasmusref09_Raise.j0, Bool.false_eq_true, if_false]; refine Evt.bind (rResult_ev (by omega)) ?_; simp only [if_pos c]; exact Evt.bind (rcopy_ev _ l (Nat.le_refl _) (by omega)) r2
      · refine ⟨([], checkS 8 l), Evt.succ ?_, Evt.succ ?_, by simp [bk44s]⟩
        · simp only [meta_Raise.j0, Bool.false_eq_true, if_false]; refine Evt.bind (Result_ev (by omega)) ?_; simp only [if_neg c]; exact Evt.const _
        · simp only [chiasmusref09_Raise.j0, Bool.false_eq_true, if_false]; refine Evt.bind (rResult_ev (by omega)) ?_; simp only [if_neg c]; exact Evt.const _
  simp only [meta_Raise.f, chiasmusref09_Raise.f]
  by_cases c : x < 0
  · simp only [if_pos c]; exact hj true (fun e => by cases e)
  · simp only [if_neg c]; exact hj _ (fun e => by have := of_decide_eq_false e; omega)
theorem lower_loop (x : Int) : ∀ (n : Nat) (i : Int) (l : List S44), (x - i).toNat = n → 0 ≤ i → x ≤ 10 → bk44s l ≤ 17179869184 → ∃ r : List S44 × Int, Evt (fun k => meta_Lower.l0 k l x i) r ∧ Evt (fun k => chiasmusref09_Lower.l0 k l x i) r ∧ bk44s r.1 ≤ 17179869184 := by
  intro n
  induction n with
  | zero =>
    intro i l hi h0 hx hl
    have c : ¬ i < x := by omega
    refine ⟨(l, 0), Evt.succ ?_, Evt.succ ?_, hl⟩
    · simp only [meta_Lower.l0, if_neg c]; exact Evt.const _
    · simp only [chiasmusref09_Lower.l0, if_neg c]; exact Evt.const _
  | succ n ih =>
    intro i l hi h0 hx hl
    have c : i < x := by omega
    have hw : wrap64 (i + 1) = i + 1 := wrap64_id (by omega) (by omega); obtain ⟨d, d1, d2, db, dc, de⟩ := Dn_both' (l := l) (by omega)
    by_cases cv : checkS 4 l = 0
    · by_cases cu : d.2 = 0
      · obtain ⟨r, r1, r2, rb⟩ := ih (i + 1) d.1 (by omega) (by omega) hx (by omega); refine ⟨r, Evt.succ ?_, Evt.succ ?_, rb⟩
        · simp only [meta_Lower.l0, if_pos c]; refine Evt.bind d1 ?_; simp only [if_pos cu, hw]; exact r1
        · simp only [chiasmusref09_Lower.l0, if_pos c]; refine Evt.bind (rValue_ev (by omega)) ?_; simp only [if_pos cv]; refine Evt.bind d2 ?_; simp only [if_pos cu, hw]; exact r2
      · refine ⟨([], 110), Evt.succ ?_, Evt.succ ?_, by simp [bk44s]⟩
        · simp only [meta_Lower.l0, if_pos c]; refine Evt.bind d1 ?_; simp only [if_neg cu]; exact Evt.const _
        · simp only [chiasmusref09_Lower.l0, if_pos c]; refine Evt.bind (rValue_ev (by omega)) ?_; simp only [if_pos cv]; refine Evt.bind d2 ?_; simp only [if_neg cu, de cv cu]; exact Evt.const _
    · have cu : ¬ d.2 = 0 := fun e => cv (dc e).1
      refine ⟨([], 110), Evt.succ ?_, Evt.succ ?_, by simp [bk44s]⟩
      · simp only [meta_Lower.l0, if_pos c]; refine Evt.bind d1 ?_; simp only [if_neg cu]; exact Evt.const _
      · simp only [chiasmusref09_Lower.l0, if_pos c]; refine Evt.bind (rValue_ev (by omega)) ?_; simp only [if_neg cv]; exact Evt.const _
theorem Lower_both {l : List S44} (h : bk44s l ≤ 17179869184) (x : Int) : ∃ r : List S44 × Int, Evt (fun k => meta_Lower.f k l x) r ∧ Evt (fun k => chiasmusref09_Lower.f k l x) r ∧ bk44s r.1 ≤ 17179869184 := by
  have hj : ∀ b : Bool, (b = false → x ≤ 10) → ∃ r : List S44 × Int, Evt (fun k => meta_Lower.j0 k l x b) r ∧ Evt (fun k => chiasmusref09_Lower.j0 k l x b) r ∧ bk44s r.1 ≤ 17179869184 := fun b hb => by
    cases b with
    | true =>
      refine ⟨([], 4), Evt.succ ?_, Evt.succ ?_, by simp [bk44s]⟩
      · simp only [meta_Lower.j0, if_true]; exact Evt.const _
      · simp only [chiasmusref09_Lower.j0, if_true]; exact Evt.const _
    | false =>
      by_cases c : checkS 4 l = 0
      · obtain ⟨r, r1, r2, rb⟩ := lower_loop x _ 0 l rfl (by omega) (hb rfl) h; refine ⟨r, Evt.succ ?_, Evt.succ ?_, rb⟩
        · simp only [meta_Lower.j0, Bool.false_eq_true, if_false]; refine Evt.bind (Value_ev (by omega)) ?_; simp only [if_pos c]; exact Evt.bind (copy_ev _ l (Nat.le_refl _) (by omega)) r1
        · simp only [chiasmusref09_Lower.j0, Bool.false_eq_true, if_false]; refine Evt.bind (rValue_ev (by omega)) ?_; simp only [if_pos c]; exact Evt.bind (rcopy_ev _ l (Nat.le_refl _) (by omega)) r2
      · refine ⟨([], checkS 4 l), Evt.succ ?_, Evt.succ ?_, by simp [bk44s]⟩
        · simp only [meta_Lower.j0, Bool.false_eq_true, if_false]; refine Evt.bind (Value_ev (by omega)) ?_; simp only [if_neg c]; exact Evt.const _
        · simp only [chiasmusref09_Lower.j0, Bool.false_eq_true, if_false]; refine Evt.bind (rValue_ev (by omega)) ?_; simp only [if_neg c]; exact Evt.const _
  simp only [meta_Lower.f, chiasmusref09_Lower.f]
  by_cases c : x < 0
  · simp only [if_pos c]; exact hj true (fun e => by cases e)
  · simp only [if_neg c]; exact hj _ (fun e => by have := of_decide_eq_false e; omega)
theorem metaLevels_pure (l : List S44) (x : Int) (ok : ok44s l) (w : (Lit.int .i64 x).wf = true) (h : bk44s l + 0 ≤ 1048576) : ∃ k, chiasmuslaw09_MetaLevels.f k l x = some true := by
  refine Evt.get ?_; obtain ⟨v, hv⟩ := Small_ev (l := l) (by omega) 600; obtain ⟨r, r1, r2, rb⟩ := Raise_both (l := l) (by omega) x; obtain ⟨s, s1, s2, sb⟩ := Lower_both (l := l) (by omega) x; simp only [chiasmuslaw09_MetaLevels.f]; refine Evt.bind hv ?_
  by_cases c : v = true
  · simp only [if_pos c]; refine Evt.bind r1 (Evt.bind r2 ?_); simp only [if_true]; refine Evt.bind (Equal_self (by omega)) ?_; simp only [Bool.not_true]; refine Evt.succ ?_; simp only [chiasmuslaw09_MetaLevels.j0, Bool.false_eq_true, if_false]; refine Evt.bind s1 (Evt.bind s2 ?_); simp only [if_true]; refine Evt.bind (Equal_self (by omega)) ?_; simp only [if_true]; exact Evt.bind awake_ev (Evt.const _)
  · simp only [if_neg c]; exact Evt.bind awake_ev (Evt.const _)
end Go.Proofs.Ytnffhiiihegjbaa.MD
