/- Plain law: Raise and Lower of any expression are what the reference says. -/
import Derived.Test.YtnffhiiihegjbaaFMDDnLaw
namespace Go.Proofs.Ytnffhiiihegjbaa.MD
open Go.RowKit Go.Proofs.YtnffhiiihegjbaaW.PrintWords Go.Proofs.YtnffhiiihegjbaaW.PrintLast Go.Proofs.YtnffhiiihegjbaaW.PrintMore Go.Proofs.Ytnffhiiihegjbaa.Evs
set_option linter.unusedVariables false
set_option linter.unusedSimpArgs false
theorem copy_loop {x0 : List S44} (hb : x0.length ≤ 1099511627776) : ∀ (r : List S44) (n : Nat), x0.drop n = r → (∀ x ∈ r, Evt (fun k => term_Copy.f k x.f2) x.f2) →
    Evt (fun k => term_Copy.l0 k x0 (x0.length : Int) (n : Int)) x0
  | [], n, h, _ => by
    refine Evt.succ ?_; simp only [term_Copy.l0, if_neg (stop h)]; exact Evt.const _
  | x :: r, n, h, hk => by
    obtain ⟨h1, h2, h3, h4, h5⟩ := mid h hb; refine Evt.succ ?_; simp only [term_Copy.l0, if_pos h1, if_pos h2, rd_mid h3, h5]; refine Evt.bind (hk x List.mem_cons_self) ?_
    have hx : (⟨x.f0, x.f1, x.f2⟩ : S44) = x := by cases x; rfl
    have hg : x0[n]? = some x := by
      have := congrArg (fun l : List S44 => l[0]?) h
      simpa using this
    have hset : x0.set (n : Int).toNat x = x0 := by
      rw [Int.toNat_natCast]; apply List.ext_getElem?; intro i; rw [List.getElem?_set]
      by_cases e : n = i
      · subst e; have hl : n < x0.length := (List.getElem?_eq_some_iff.1 hg).1; rw [if_pos rfl, if_pos hl, hg]
      · rw [if_neg e]
    simp only [hx, hset]
    exact copy_loop hb r (n + 1) h4 fun y hy => hk y (List.mem_cons_of_mem _ hy)
theorem copy_ev : ∀ (n : Nat) (l : List S44), bk44s l ≤ n → n ≤ 1099511627776 → Evt (fun k => term_Copy.f k l) l := by
  intro n
  induction n using Nat.strongRecOn with
  | _ n ih =>
    intro l h hn; have := bk_len l; refine Evt.succ ?_; simp only [term_Copy.f, api_Term.f, if_pos (show l.length < 2932031007402 by omega), Option.bind_some]
    exact copy_loop (by omega) l 0 rfl fun x hx => by
      have := bk_mem hx; exact ih (bk44s x.f2) (by omega) x.f2 (Nat.le_refl _) (by omega)
theorem right_size {x : S44} (h : rightS x = true) : x.f1.size ≤ 501 := by
  unfold rightS at h; rw [size_len]
  repeat' split at h
  · rw [of_decide_eq_true h]; simp
  · unfold nameS at h
    split at h
    · cases h
    · simp only [Bool.and_eq_true, decide_eq_true_eq] at h; omega
  · cases h
  · rw [of_decide_eq_true h]; omega
  · simp only [wordS, Bool.and_eq_true, decide_eq_true_eq] at h; omega
  · simp only [numS, coreS, Bool.and_eq_true, decide_eq_true_eq] at h; have h1 := h.1.1.2
    generalize x.f1.data.toList = L at h1 ⊢
    cases L with
    | nil => simp
    | cons b r =>
      simp only [cutS] at h1
      split at h1
      · simp only [List.length_cons] at h1 ⊢; omega
      · simp only [List.length_cons] at h1 ⊢; omega
  · simp only [varS, Bool.and_eq_true, decide_eq_true_eq] at h; omega
  · cases h
theorem bk_flat : ∀ (n : Nat) (l : List S44), bk44s l ≤ n → bk44s l = ((flat l).map fun x => x.f1.size + 4).sum := by
  intro n
  induction n using Nat.strongRecOn with
  | _ n ih =>
    intro l h
    match l, h with
    | [], _ => simp [flat_nil, bk44s]
    | x :: r, h =>
      have hx := bk44_eq x; simp only [bk44s] at h ⊢; rw [flat_cons]; simp only [List.map_cons, List.map_append, List.sum_cons, List.sum_append]; rw [← ih (bk44s x.f2) (by omega) x.f2 (Nat.le_refl _), ← ih (bk44s r) (by omega) r (Nat.le_refl _)]
      omega
theorem sum_le {l : List S44} {c : Nat} {f : S44 → Nat} (h : ∀ x ∈ l, f x ≤ c) : (l.map f).sum ≤ l.length * c := by
  induction l with
  | nil => simp
  | cons x r ih =>
    simp only [List.map_cons, List.sum_cons, List.length_cons]; have := h x List.mem_cons_self
    have := ih fun y hy => h y (List.mem_cons_of_mem _ hy)
    rw [Nat.succ_mul]; omega
theorem check_bk {m : Int} {l : List S44} (h : checkS m l = 0) : bk44s l ≤ 2020000 := by
  have hf := check_fine' h
  have hc : (flat l).length ≤ 4000 := by
    unfold checkS at h
    split at h
    · omega
    · omega
  rw [bk_flat _ l (Nat.le_refl _)]; refine Nat.le_trans (sum_le (c := 505) fun x hx => ?_) (by omega); have := List.all_eq_true.1 hf x hx; simp only [fineS, Bool.and_eq_true] at this; have := right_size this.2
  omega
end Go.Proofs.Ytnffhiiihegjbaa.MD
