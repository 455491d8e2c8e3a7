/- Plain laws: Up of an expression, in the program and in the reference. -/
import Derived.Test.YtnffhiiihegjbaaFMDPlain
namespace Go.Proofs.Ytnffhiiihegjbaa.MD
open Go.RowKit Go.Proofs.YtnffhiiihegjbaaW.PrintWords Go.Proofs.YtnffhiiihegjbaaW.PrintLast Go.Proofs.YtnffhiiihegjbaaW.PrintMore Go.Proofs.Ytnffhiiihegjbaa.Evs
set_option linter.unusedVariables false
set_option linter.unusedSimpArgs false
theorem nodes_loop {x0 : List S44} (hb : x0.length ≤ 1099511627776) (m d : Int) : ∀ (r : List S44) (n : Nat) (a : Int), x0.drop n = r → (∀ x ∈ r, ∀ m d, ∃ v, Evt (fun k => chiasmuslaw09_nodes.f k x.f2 m d) v) →
    ∃ v, Evt (fun k => chiasmuslaw09_nodes.l0 k x0 m d a (n : Int)) v
  | [], n, a, h, _ => by
    refine ⟨a, Evt.succ ?_⟩; simp only [chiasmuslaw09_nodes.l0, if_neg (stop h)]; refine Evt.succ ?_; simp only [chiasmuslaw09_nodes.j1, Bool.false_eq_true, if_false]; exact Evt.const _
  | x :: r, n, a, h, hk => by
    obtain ⟨h1, h2, h3, h4, h5⟩ := mid h hb; obtain ⟨v, hv⟩ := hk x List.mem_cons_self (wrap64 ((wrap64 (m - a)) - 1)) (wrap64 (d + 1))
    obtain ⟨u, hu⟩ := nodes_loop hb m d r (n + 1) (wrap64 (a + (wrap64 (1 + v)))) h4 fun y hy => hk y (List.mem_cons_of_mem _ hy)
    by_cases c : a ≤ m
    · by_cases c2 : d > 150
      · refine ⟨wrap64 (m + 1), Evt.succ ?_⟩; simp only [chiasmuslaw09_nodes.l0, if_pos h1]; refine Evt.succ ?_; simp only [chiasmuslaw09_nodes.j1, decide_eq_true c, if_true, if_pos c2]; exact Evt.const _
      · refine ⟨u, Evt.succ ?_⟩; simp only [chiasmuslaw09_nodes.l0, if_pos h1]; refine Evt.succ ?_; simp only [chiasmuslaw09_nodes.j1, decide_eq_true c, if_true, if_neg c2, if_pos h1, if_pos h2, rd_mid h3, h5]; exact Evt.bind hv hu
    · refine ⟨a, Evt.succ ?_⟩; simp only [chiasmuslaw09_nodes.l0, if_pos h1]; refine Evt.succ ?_; simp only [chiasmuslaw09_nodes.j1, decide_eq_false c, Bool.false_eq_true, if_false]; exact Evt.const _
theorem nodes_ev : ∀ (n : Nat) (l : List S44), bk44s l ≤ n → n ≤ 1099511627776 → ∀ m d, ∃ v, Evt (fun k => chiasmuslaw09_nodes.f k l m d) v := by
  intro n
  induction n with
  | zero =>
    intro l h _ m d; have := bk_len l
    obtain ⟨v, hv⟩ := nodes_loop (x0 := l) (by omega) m d l 0 0 rfl fun x hx => by
      have hl : l = [] := List.length_eq_zero_iff.1 (by omega); subst hl; cases hx
    refine ⟨v, Evt.succ ?_⟩; simp only [chiasmuslaw09_nodes.f]; exact hv
  | succ n ih =>
    intro l h hn m d; have := bk_len l
    obtain ⟨v, hv⟩ := nodes_loop (x0 := l) (by omega) m d l 0 0 rfl fun x hx => ih x.f2 (by have := bk_mem hx; omega) (by omega)
    refine ⟨v, Evt.succ ?_⟩; simp only [chiasmuslaw09_nodes.f]; exact hv
theorem short_loop {x0 : List S44} (hb : x0.length ≤ 1099511627776) : ∀ (r : List S44) (n : Nat), x0.drop n = r → (∀ x ∈ r, ∃ v, Evt (fun k => chiasmuslaw09_short.f k x.f2) v) →
    ∃ v, Evt (fun k => chiasmuslaw09_short.l0 k x0 (n : Int)) v
  | [], n, h, _ => by
    refine ⟨true, Evt.succ ?_⟩; simp only [chiasmuslaw09_short.l0, if_neg (stop h)]; exact Evt.const _
  | x :: r, n, h, hk => by
    obtain ⟨h1, h2, h3, h4, h5⟩ := mid h hb; obtain ⟨v, hv⟩ := hk x List.mem_cons_self
    obtain ⟨u, hu⟩ := short_loop hb r (n + 1) h4 fun y hy => hk y (List.mem_cons_of_mem _ hy)
    refine ⟨if (x.f1.size : Int) > 600 then false else if v = true then u else false, Evt.succ ?_⟩; simp only [chiasmuslaw09_short.l0, if_pos h1, if_pos h2, rd_mid h3, h5]; exact Evt.ite (fun _ => Evt.const _) (fun _ => Evt.bind hv (Evt.ite (fun _ => hu) (fun _ => Evt.const _)))
theorem short_ev : ∀ (n : Nat) (l : List S44), bk44s l ≤ n → n ≤ 1099511627776 → ∃ v, Evt (fun k => chiasmuslaw09_short.f k l) v := by
  intro n
  induction n with
  | zero =>
    intro l h _; have := bk_len l
    obtain ⟨v, hv⟩ := short_loop (x0 := l) (by omega) l 0 rfl fun x hx => by
      have hl : l = [] := List.length_eq_zero_iff.1 (by omega); subst hl; cases hx
    refine ⟨v, Evt.succ ?_⟩; simp only [chiasmuslaw09_short.f]; exact hv
  | succ n ih =>
    intro l h hn; have := bk_len l
    obtain ⟨v, hv⟩ := short_loop (x0 := l) (by omega) l 0 rfl fun x hx => ih x.f2 (by have := bk_mem hx; omega) (by omega)
    refine ⟨v, Evt.succ ?_⟩; simp only [chiasmuslaw09_short.f]; exact hv
theorem Small_ev {l : List S44} (h : bk44s l ≤ 1099511627776) (m : Int) : ∃ v, Evt (fun k => chiasmuslaw09_Small.f k l m) v := by
  obtain ⟨v, hv⟩ := nodes_ev _ l (Nat.le_refl _) h m 0; obtain ⟨u, hu⟩ := short_ev _ l (Nat.le_refl _) h; refine ⟨if v ≤ m then u else false, ?_⟩; simp only [chiasmuslaw09_Small.f]; exact Evt.bind hv (Evt.ite (fun _ => Evt.bind hu (Evt.const _)) (fun _ => Evt.const _))
theorem sign_self (s : ByteArray) : chiasmusref01_Sign.f s s = some 0 := by
  have h : ∀ l : List UInt8, Op.bytesLess l l = false := fun l => by
    induction l with
    | nil => rfl
    | cons b r ih => simp [Op.bytesLess, ih]
  simp [chiasmusref01_Sign.f, h]
theorem cmp_loop {x0 : List S44} (hb : x0.length ≤ 1099511627776) : ∀ (r : List S44) (n : Nat), x0.drop n = r → (∀ x ∈ r, Evt (fun k => chiasmusref01_Compare.f k x.f2 x.f2) 0) →
    Evt (fun k => chiasmusref01_Compare.l0 k x0 x0 (n : Int)) 0
  | [], n, h, _ => by
    refine Evt.succ ?_; simp only [chiasmusref01_Compare.l0, if_neg (stop h)]; refine Evt.succ ?_; simp only [chiasmusref01_Compare.j1, Bool.false_eq_true, if_false, gt_iff_lt, Int.lt_irrefl]; exact Evt.const _
  | x :: r, n, h, hk => by
    obtain ⟨h1, h2, h3, h4, h5⟩ := mid h hb; refine Evt.succ ?_; simp only [chiasmusref01_Compare.l0, if_pos h1, decide_eq_true h1]; refine Evt.succ ?_; simp only [chiasmusref01_Compare.j1, if_true, if_pos h1, if_pos h2, rd_mid h3, h5, sign_self, Option.bind_some]; refine Evt.bind (hk x List.mem_cons_self) ?_; simp only [if_true]
    exact cmp_loop hb r (n + 1) h4 fun y hy => hk y (List.mem_cons_of_mem _ hy)
theorem cmp_ev : ∀ (n : Nat) (l : List S44), bk44s l ≤ n → n ≤ 1099511627776 → Evt (fun k => chiasmusref01_Compare.f k l l) 0 := by
  intro n
  induction n with
  | zero =>
    intro l h _; have := bk_len l; have hl : l = [] := List.length_eq_zero_iff.1 (by omega); subst hl; refine Evt.succ ?_; simp only [chiasmusref01_Compare.f]; exact cmp_loop (by simp) [] 0 rfl (by simp)
  | succ n ih =>
    intro l h hn; have := bk_len l; refine Evt.succ ?_; simp only [chiasmusref01_Compare.f]
    exact cmp_loop (by omega) l 0 rfl fun x hx => ih x.f2 (by have := bk_mem hx; omega) (by omega)
theorem Equal_self {l : List S44} (h : bk44s l ≤ 1099511627776) : Evt (fun k => chiasmusref01_Equal.f k l l) true := by
  simp only [chiasmusref01_Equal.f]; exact Evt.bind (cmp_ev _ l (Nat.le_refl _) h) (Evt.const _)
def charS (b : UInt8) : S44 := ⟨1, ⟨#[b]⟩, []⟩
def wordT (t : ByteArray) : S44 := ⟨2, t, []⟩
mutual
def upT : S44 → List S44
  | ⟨k, t, ks⟩ => if k = 4 then [⟨4, ⟨#[]⟩, upL ks⟩] else if k = 8 then [charS 42, ⟨4, ⟨#[]⟩, wordT t :: upL ks⟩]
    else if 5 ≤ k ∧ k ≤ 7 then [charS 42, ⟨1, meta_letter k, []⟩, wordT t] else if k = 1 ∧ t.toList = [42] then [charS 42, charS 86] else [⟨k, t, []⟩]
def upL : List S44 → List S44
  | [] => []
  | x :: r => upT x ++ upL r
end
theorem upT_eq (x : S44) : upT x = if x.f0 = 4 then [⟨4, ⟨#[]⟩, upL x.f2⟩] else if x.f0 = 8 then [charS 42, ⟨4, ⟨#[]⟩, wordT x.f1 :: upL x.f2⟩]
    else if 5 ≤ x.f0 ∧ x.f0 ≤ 7 then [charS 42, ⟨1, meta_letter x.f0, []⟩, wordT x.f1] else if x.f0 = 1 ∧ x.f1.toList = [42] then [charS 42, charS 86] else [⟨x.f0, x.f1, []⟩] := by cases x; simp [upT]
theorem upT_len (x : S44) : (upT x).length ≤ 3 := by rw [upT_eq]; (repeat' split) <;> simp
theorem upL_len : ∀ l : List S44, (upL l).length ≤ 3 * l.length
  | [] => by simp [upL]
  | x :: r => by
    have := upT_len x; have := upL_len r; simp only [upL, List.length_append, List.length_cons]; omega
theorem bk_app : ∀ a b : List S44, bk44s (a ++ b) = bk44s a + bk44s b
  | [], b => by simp [bk44s]
  | x :: r, b => by simp only [List.cons_append, bk44s, bk_app r b]; omega
theorem letter_size (k : Int) : (meta_letter k).size ≤ 1 := by unfold meta_letter; repeat (first | split | decide)
theorem upL_bk : ∀ (n : Nat) (l : List S44), bk44s l ≤ n → bk44s (upL l) ≤ 20 * bk44s l := by
  intro n
  induction n using Nat.strongRecOn with
  | _ n ih =>
    intro l h
    match l, h with
    | [], _ => simp [upL, bk44s]
    | x :: r, h =>
      have hx := bk44_eq x; simp only [bk44s] at h; have h1 := ih (bk44s x.f2) (by omega) x.f2 (Nat.le_refl _); have h2 := ih (bk44s r) (by omega) r (Nat.le_refl _)
      have hc : ∀ b, (⟨#[b]⟩ : ByteArray).size = 1 := fun _ => rfl
      have h0 : (⟨#[]⟩ : ByteArray).size = 0 := rfl; have hle := letter_size x.f0
      have ht : bk44s (upT x) ≤ 20 * bk44 x := by
        rw [upT_eq]
        split
        · simp only [bk44s, bk44, h0]; omega
        split
        · simp only [bk44s, bk44, charS, wordT, hc, h0]; omega
        split
        · simp only [bk44s, bk44, charS, wordT, hc, h0]; omega
        split
        · rename_i hk
          have : x.f1.size = 1 := by rw [size_len, ← toList_data, hk.2]; rfl
          simp only [bk44s, bk44, charS, hc]; omega
        · simp only [bk44s, bk44]; omega
      simp only [upL, bk_app, bk44s]
      omega
theorem up_loop {x0 : List S44} (hb : x0.length ≤ 1099511627776 / 8) : ∀ (r : List S44) (n : Nat) (a : List S44), x0.drop n = r → a.length + 3 * r.length ≤ 1099511627776 → (∀ x ∈ r, x.f2.length ≤ 1099511627776 / 8) → (∀ x ∈ r, Evt (fun k => meta_up.f k x.f2) (upL x.f2)) →
    Evt (fun k => meta_up.l0 k a x0 (x0.length : Int) (n : Int)) (a ++ upL r)
  | [], n, a, h, _, _, _ => by
    refine Evt.succ ?_; simp only [meta_up.l0, if_neg (stop h), upL, List.append_nil]; exact Evt.const _
  | x :: r, n, a, h, ha, hq, hk => by
    obtain ⟨h1, h2, h3, h4, h5⟩ := mid h (by omega); simp only [List.length_cons] at ha; have hl := upT_len x; have hkl := upL_len x.f2; have hqx := hq x List.mem_cons_self
    have ih : ∀ t : List S44, t = upT x → Evt (fun k => meta_up.l0 k (a ++ t) x0 (x0.length : Int) ((n + 1 : Nat) : Int)) (a ++ upL (x :: r)) := fun t ht => by
      refine (up_loop hb r (n + 1) (a ++ t) h4 (by rw [List.length_append, ht]; omega) (fun y hy => hq y (List.mem_cons_of_mem _ hy)) fun y hy => hk y (List.mem_cons_of_mem _ hy)).eq ?_; rw [ht]; simp [upL]
    have g1 : ∀ m : Nat, m ≤ 3 → a.length + m < 2932031007402 := fun m hm => by omega
    have g0 : a.length < 2932031007402 := by omega
    refine Evt.succ ?_; simp only [meta_up.l0, if_pos h1, if_pos h2, rd_mid h3, h5, meta_char.f, meta_word.f, meta_group.f, meta_letters.f, Option.bind_some]
    by_cases c4 : x.f0 = 4
    · simp only [if_pos c4]; refine Evt.bind (hk x List.mem_cons_self) ?_; simp only [if_pos g0]; exact ih _ (by rw [upT_eq, if_pos c4])
    simp only [if_neg c4]
    by_cases c8 : x.f0 = 8
    · simp only [if_pos c8]; refine Evt.bind (hk x List.mem_cons_self) ?_; simp only [List.length_cons, List.length_nil, if_pos (show 0 + 1 + (upL x.f2).length < 2932031007402 by omega), if_pos (g1 (0 + 1 + 1) (by omega))]; exact ih _ (by rw [upT_eq, if_neg c4, if_pos c8]; rfl)
    simp only [if_neg c8]
    have hj : ∀ b : Bool, b = (decide (x.f0 = 1) && (x.f1.toList == ([42] : List UInt8))) → ¬ (5 ≤ x.f0 ∧ x.f0 ≤ 7) → Evt (fun k => meta_up.j1 k a x0 (x0.length : Int) (n : Int) b x.f0 x.f1 x.f2) (a ++ upL (x :: r)) := fun b hbe hv => by
      refine Evt.succ ?_; simp only [meta_up.j1, meta_char.f, Option.bind_some, h5]
      by_cases c : b = true
      · have c' : x.f0 = 1 ∧ x.f1.toList = [42] := by rw [c] at hbe; simpa using hbe.symm
        simp only [if_pos c, List.length_cons, List.length_nil, if_pos (g1 (0 + 1 + 1) (by omega))]; exact ih _ (by rw [upT_eq, if_neg c4, if_neg c8, if_neg hv, if_pos c']; rfl)
      · have c' : ¬ (x.f0 = 1 ∧ x.f1.toList = [42]) := fun hc => c (by rw [hbe]; simp [hc.1, hc.2])
        simp only [if_neg c, if_pos g0]; exact ih _ (by rw [upT_eq, if_neg c4, if_neg c8, if_neg hv, if_neg c'])
    have hvar : term_IsVariable.f x.f0 x.f1 x.f2 = some (decide (5 ≤ x.f0 ∧ x.f0 ≤ 7)) := by
      unfold term_IsVariable.f
      by_cases c : x.f0 ≥ 5
      · rw [if_pos c]; simp [show 5 ≤ x.f0 from c]
      · rw [if_neg c]; simp [show ¬ 5 ≤ x.f0 from c]
    simp only [hvar, Option.bind_some]
    by_cases cv : 5 ≤ x.f0 ∧ x.f0 ≤ 7
    · simp only [decide_eq_true cv, if_true, List.length_cons, List.length_nil, if_pos (g1 (0 + 1 + 1 + 1) (by omega))]; exact ih _ (by rw [upT_eq, if_neg c4, if_neg c8, if_pos cv]; rfl)
    · simp only [decide_eq_false cv, Bool.false_eq_true, if_false]
      by_cases c1 : x.f0 = 1
      · simp only [if_pos c1]; exact hj _ (by rw [decide_eq_true c1, Bool.true_and]) cv
      · simp only [if_neg c1]; exact hj _ (by rw [decide_eq_false c1, Bool.false_and]) cv
theorem up_ev : ∀ (n : Nat) (l : List S44), bk44s l ≤ n → n ≤ 1099511627776 / 16 → Evt (fun k => meta_up.f k l) (upL l) := by
  intro n
  induction n with
  | zero =>
    intro l h _; have := bk_len l; have hl : l = [] := List.length_eq_zero_iff.1 (by omega); subst hl; refine Evt.succ ?_; simp only [meta_up.f]; exact up_loop (by simp) [] 0 [] rfl (by simp) (by simp) (by simp)
  | succ n ih =>
    intro l h hn; have := bk_len l; refine Evt.succ ?_; simp only [meta_up.f]
    exact up_loop (by omega) l 0 [] rfl (by simp; omega) (fun x hx => by have := bk_mem hx; have := bk_len x.f2; omega) fun x hx => ih x.f2 (by have := bk_mem hx; omega) (by omega)
theorem rletter_eq {k : Int} (h : 5 ≤ k ∧ k ≤ 7) : chiasmusref09_letter.f k = some (meta_letter k) := by
  have : k = 5 ∨ k = 6 ∨ k = 7 := by omega
  rcases this with rfl | rfl | rfl <;> rfl
def fitsS (l : List S44) : Int := if 4000 < (flat l).length then 7 else if 100 < dpL 0 l then 6 else 0
theorem fits_ev {l : List S44} (h : bk44s l ≤ 1099511627776) : Evt (fun k => meta_fits.f k l) (fitsS l) := by
  simp only [meta_fits.f, fitsS]; refine Evt.bind (size_ev h) ?_; simp only [show (((flat l).length : Int) > 4000) = (4000 < (flat l).length) from propext ⟨fun h => by omega, fun h => by omega⟩, show (dpL 0 l > 100) = (100 < dpL 0 l) from rfl]; exact Evt.ite (fun _ => Evt.const _) (fun _ => Evt.ite (fun _ => Evt.const _) (fun _ => Evt.const _))
def UpS (l : List S44) : List S44 × Int := if checkS 8 l = 0 then (if fitsS (upL l) = 0 then (upL l, 0) else ([], fitsS (upL l))) else ([], checkS 8 l)
theorem Up_ev {l : List S44} (h : bk44s l ≤ 17179869184) : Evt (fun k => meta_Up.f k l) (UpS l) := by
  have hu := upL_bk _ l (Nat.le_refl _); simp only [meta_Up.f, UpS]; refine Evt.bind (Result_ev (by omega)) (Evt.ite (fun _ => ?_) (fun _ => Evt.const _)); exact Evt.bind (up_ev _ l (Nat.le_refl _) (by omega)) (Evt.bind (fits_ev (by omega)) (Evt.ite (fun _ => Evt.const _) (fun _ => Evt.const _)))
theorem awake_ev : Evt (fun k => chiasmuslaw09_awake.f k) true := by
  simp only [chiasmuslaw09_awake.f]; refine Evt.bind (Up_ev (by decide +kernel)) ?_
  have e : UpS [(⟨5, ⟨#[120]⟩, []⟩ : S44)] = ([charS 42, ⟨1, ⟨#[83]⟩, []⟩, wordT ⟨#[120]⟩], 0) := by
    have f1 : flat [(⟨5, ⟨#[120]⟩, []⟩ : S44)] = [⟨5, ⟨#[120]⟩, []⟩] := by simp [flat_cons, flat_nil]
    have u1 : upL [(⟨5, ⟨#[120]⟩, []⟩ : S44)] = [charS 42, ⟨1, ⟨#[83]⟩, []⟩, wordT ⟨#[120]⟩] := by simp [upL, upT_eq, meta_letter]
    have f2 : flat [charS 42, ⟨1, ⟨#[83]⟩, []⟩, wordT ⟨#[120]⟩] = [charS 42, ⟨1, ⟨#[83]⟩, []⟩, wordT ⟨#[120]⟩] := by simp [flat_cons, flat_nil, charS, wordT]
    have d1 : dpL 0 [(⟨5, ⟨#[120]⟩, []⟩ : S44)] = 0 := by simp [dpL, dpT]
    have d2 : dpL 0 [charS 42, ⟨1, ⟨#[83]⟩, []⟩, wordT ⟨#[120]⟩] = 0 := by simp [dpL, dpT, charS, wordT]
    have c1 : checkS 8 [(⟨5, ⟨#[120]⟩, []⟩ : S44)] = 0 := by
      simp only [checkS, f1, d1]
      decide +kernel
    have c2 : fitsS [charS 42, ⟨1, ⟨#[83]⟩, []⟩, wordT ⟨#[120]⟩] = 0 := by
      simp only [fitsS, f2, d2]
      decide +kernel
    simp only [UpS, c1, u1, c2, if_true]
  rw [e]; refine ⟨0, fun k _ => ?_⟩; simp [toList_data, rd_T44, charS, wordT]
end Go.Proofs.Ytnffhiiihegjbaa.MD
