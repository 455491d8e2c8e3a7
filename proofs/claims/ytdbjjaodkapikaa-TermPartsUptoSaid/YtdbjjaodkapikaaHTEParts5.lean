/- Plain laws for TermParts: the reference's functions have the values of the program's. -/
import Derived.Test.YtdbjjaodkapikaaHTEParts1
import Derived.Test.YtdbjjaodkapikaaHTEParts2
import Derived.Test.YtdbjjaodkapikaaHTEParts3
import Derived.Test.YtdbjjaodkapikaaHTEParts4
import Derived.Test.YtdbjjaodkapikaaHTECmp
import Derived.Test.YtdbjjaodkapikaaHTEx14
import Derived.Test.YtdbjjaodkapikaaHTEx15
namespace Go.Proofs.Ytdbjjaodkapikaa.TE
open Go.RowKit Go.Proofs.YtdbjjaodkapikaaW.PrintWords Go.Proofs.YtdbjjaodkapikaaW.PrintLast Go.Proofs.YtdbjjaodkapikaaW.PrintMore Go.Proofs.Ytdbjjaodkapikaa.Evs
set_option linter.unusedVariables false
set_option linter.unusedSimpArgs false
theorem sym_some (a : Int) (b : ByteArray) (c : List S42) : ∃ r, term_IsSymbol.f a b c = some r := by unfold term_IsSymbol.f; split <;> exact ⟨_, rfl⟩
theorem isv_some (a : Int) (b : ByteArray) (c : List S42) : ∃ r, term_IsVariable.f a b c = some r := by unfold term_IsVariable.f; split <;> exact ⟨_, rfl⟩
theorem name_eq (k : Int) (s : ByteArray) (l : List S42) (h : s.size ≤ 1099511627776) : chiasmusref01_Name.f k s l = some (nameB k s) := by
  have h2 : 2 + s.size ≤ 9223372036854775807 := by omega
  unfold chiasmusref01_Name.f nameB
  by_cases h5 : k = 5
  · subst h5; simp only [if_true, if_pos h2]; rfl
  · rw [if_neg h5]
    by_cases h6 : k = 6
    · subst h6; simp only [if_true, if_pos h2]; rfl
    · rw [if_neg h6]
      by_cases h7 : k = 7
      · subst h7; simp only [if_true, if_pos h2]; rfl
      · rw [if_neg h7, if_neg (by omega)]; rfl
theorem Has_loop {x0 : List ByteArray} (hb : x0.length ≤ 1099511627776) (s : ByteArray) : ∀ (r : List ByteArray) (n : Nat), x0.drop n = r → Evt (fun k => chiasmusref01_Has.l0 k x0 s (n : Int)) (hasB r s)
  | [], n, h => by
    refine Evt.succ ?_; simp only [chiasmusref01_Has.l0, if_neg (stop h)]; exact Evt.const _
  | x :: r, n, h => by
    obtain ⟨h1, h2, h3, h4, h5⟩ := mid h hb; refine Evt.succ ?_; have hr : rdOf ByteArray.empty x0 (n : Int) = x := h3 _; have hd : hasB (x :: r) s = (decide (x.data.toList = s.data.toList) || hasB r s) := rfl; simp only [chiasmusref01_Has.l0, if_pos h1, if_pos h2, hr, h5, toList_data]
    by_cases c : x.data.toList = s.data.toList
    · rw [hd, decide_eq_true c]; simp only [if_pos c, Bool.true_or]; exact Evt.const _
    · rw [hd, decide_eq_false c]; simp only [if_neg c, Bool.false_or]; exact Has_loop hb s r (n + 1) h4
theorem Has_ev {ns : List ByteArray} (hb : ns.length ≤ 1099511627776) (s : ByteArray) : Evt (fun k => chiasmusref01_Has.f k ns s) (hasB ns s) := Has_loop hb s ns 0 rfl
theorem calls_cons (x : S42) (r : List S42) : callsB (x :: r) = (decide (x.f0 = 8) || (callsB x.f2 || callsB r)) := by
  unfold callsB; rw [flat_cons, List.any_cons, List.any_append]
theorem Calls_loop {x0 : List S42} (hb : x0.length ≤ 1099511627776) : ∀ (r : List S42) (n : Nat), x0.drop n = r → (∀ x ∈ r, Evt (fun k => chiasmusref01_Calls.f k x.f2) (callsB x.f2)) → Evt (fun k => chiasmusref01_Calls.l0 k x0 (n : Int)) (callsB r)
  | [], n, h, _ => by
    refine Evt.succ ?_; simp only [chiasmusref01_Calls.l0, if_neg (stop h)]
    have : callsB ([] : List S42) = false := by unfold callsB; rw [flat_nil]; rfl
    rw [this]; exact Evt.const _
  | x :: r, n, h, hk => by
    obtain ⟨h1, h2, h3, h4, h5⟩ := mid h hb; refine Evt.succ ?_; rw [calls_cons]; simp only [chiasmusref01_Calls.l0, if_pos h1, if_pos h2, rd_mid h3, h5]
    by_cases c : x.f0 = 8
    · simp only [if_pos c, decide_eq_true c, Bool.true_or]; exact Evt.const _
    · simp only [if_neg c, decide_eq_false c, Bool.false_or]; refine Evt.bind (hk x List.mem_cons_self) ?_
      by_cases c2 : callsB x.f2 = true
      · simp only [if_pos c2, c2, Bool.true_or]; exact Evt.const _
      · simp only [if_neg c2, Bool.eq_false_iff.2 c2, Bool.false_or]; exact Calls_loop hb r (n + 1) h4 (fun y hy => hk y (List.mem_cons_of_mem _ hy))
theorem Calls_ev : ∀ (n : Nat) (l : List S42), bk42s l ≤ n → n ≤ 1099511627776 → Evt (fun k => chiasmusref01_Calls.f k l) (callsB l) := by
  intro n
  induction n using Nat.strongRecOn with
  | _ n ih =>
    intro l h hn; have h1 := bk_len l; refine Evt.succ ?_; simp only [chiasmusref01_Calls.f]
    exact Calls_loop (by omega) l 0 rfl fun x hx => by
      have := bk_mem hx; exact ih (bk42s x.f2) (by omega) x.f2 (Nat.le_refl _) (by omega)
def chrL (s : ByteArray) : List S42 := s.data.toList.map (fun b => ⟨1, ⟨#[b]⟩, []⟩)
theorem one_byte {s : ByteArray} {n : Nat} {b : UInt8} {r : List UInt8} (h : s.data.toList.drop n = b :: r) : s.extract n (n + 1) = ⟨#[b]⟩ := by
  apply ba_ext; rw [extract_list, h]; simp
theorem Chars_loop {s : ByteArray} (hb : s.size ≤ 1099511627776) : ∀ (r : List UInt8) (n : Nat) (acc : List S42), s.data.toList.drop n = r → acc = (s.data.toList.take n).map (fun b => (⟨1, ⟨#[b]⟩, []⟩ : S42)) →
    Evt (fun k => chiasmusref01_Chars.l0 k s acc (n : Int)) (chrL s) ∧ Evt (fun k => term_Chars.l0 k s acc (s.size : Int) (n : Int)) (chrL s)
  | [], n, acc, h, ha => by
    have hs : ¬ (n : Int) < (s.size : Int) := by rw [size_len]; exact stop h
    have he : acc = chrL s := by rw [ha, List.take_of_length_le (List.drop_eq_nil_iff.1 h)]; rfl
    refine ⟨Evt.succ ?_, Evt.succ ?_⟩
    · simp only [chiasmusref01_Chars.l0, if_neg hs, he]; exact Evt.const _
    · simp only [term_Chars.l0, if_neg hs, he]; exact Evt.const _
  | b :: r, n, acc, h, ha => by
    obtain ⟨h1, h2, h3, h4, h5⟩ := mid h (by rw [← size_len]; exact hb)
    have h1' : (n : Int) < (s.size : Int) := by rw [size_len]; exact h1
    have hb1 := one_byte h
    have h6 : (n : Int) ≤ ((n + 1 : Nat) : Int) := by omega
    have h7 : ((n + 1 : Nat) : Int) ≤ (s.size : Int) := by omega
    have hl : acc.length < 2932031007402 := by rw [ha, List.length_map, List.length_take]; rw [size_len] at hb; omega
    have hx : s.data.toList[n]? = some b := by
      have := congrArg (fun l => l[0]?) h
      simpa using this
    have ih := Chars_loop hb r (n + 1) (acc ++ [⟨1, ⟨#[b]⟩, []⟩]) h4 (by rw [ha, List.take_add_one, hx]; simp); refine ⟨Evt.succ ?_, Evt.succ ?_⟩
    · simp only [chiasmusref01_Chars.l0, if_pos h1', if_pos h2, h5, if_pos h6, if_pos h7, Int.toNat_natCast, hb1, if_pos hl]; exact ih.1
    · simp only [term_Chars.l0, if_pos h1', if_pos h2, h5, if_pos h6, if_pos h7, Int.toNat_natCast, hb1, if_pos hl]; exact ih.2
theorem Chars_ev {s : ByteArray} (hb : s.size ≤ 1099511627776) : Evt (fun k => chiasmusref01_Chars.f k s) (chrL s) ∧ Evt (fun k => term_Chars.f k s) (chrL s) := Chars_loop hb _ 0 [] rfl rfl
theorem sEq_loop {x0 : List ByteArray} (hb : x0.length ≤ 1099511627776) : ∀ (r : List ByteArray) (n : Nat), x0.drop n = r → Evt (fun k => slices_Equal_string_string.l0 k x0 x0 (x0.length : Int) (n : Int)) true
  | [], n, h => by
    refine Evt.succ ?_; simp only [slices_Equal_string_string.l0, if_neg (stop h)]; exact Evt.const _
  | x :: r, n, h => by
    obtain ⟨h1, h2, h3, h4, h5⟩ := mid h hb; refine Evt.succ ?_; simp only [slices_Equal_string_string.l0, if_pos h1, if_pos h2, if_true, h5]; exact sEq_loop hb r (n + 1) h4
theorem sEq_ev {l : List ByteArray} (hb : l.length ≤ 1099511627776) : Evt (fun k => slices_Equal_string_string.f k l l) true := by
  simp only [slices_Equal_string_string.f, if_true]; exact sEq_loop hb l 0 rfl
end Go.Proofs.Ytdbjjaodkapikaa.TE
