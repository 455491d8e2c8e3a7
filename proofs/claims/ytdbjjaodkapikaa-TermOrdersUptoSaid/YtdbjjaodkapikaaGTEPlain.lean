/- Plain laws of terms: depth, size, the right forms of a term, in the program and in the reference. -/
import Derived.Test.YtdbjjaodkapikaaGEv
import Derived.Test.YtdbjjaodkapikaaGTETerm
import Derived.Test.YtdbjjaodkapikaaGTEAll
namespace Go.Proofs.Ytdbjjaodkapikaa.TE
open Go.RowKit Go.Proofs.YtdbjjaodkapikaaW.PrintWords Go.Proofs.YtdbjjaodkapikaaW.PrintLast Go.Proofs.YtdbjjaodkapikaaW.PrintMore Go.Proofs.Ytdbjjaodkapikaa.Evs
set_option linter.unusedVariables false
set_option linter.unusedSimpArgs false
theorem rd_mid {xs : List S42} {n : Nat} {x : S42} (h : ∀ z, xs.getD (n : Int).toNat z = x) : rd_T42 xs (n : Int) = x := h _
theorem bk42_eq (x : S42) : bk42 x = x.f1.size + 4 + bk42s x.f2 := by cases x; simp [bk42]
theorem bk_mem : ∀ {l : List S42} {x : S42}, x ∈ l → bk42s x.f2 + x.f1.size + 4 ≤ bk42s l
  | y :: r, x, h => by
    simp only [bk42s]
    rcases List.mem_cons.1 h with rfl | h
    · have := bk42_eq x; omega
    · have := bk_mem h; omega
theorem bk_len : ∀ l : List S42, 4 * l.length ≤ bk42s l
  | [] => by simp
  | x :: r => by
    have := bk_len r; have := bk42_eq x; simp only [bk42s, List.length_cons]; omega
def isLet (b : UInt8) : Bool := (97 ≤ b && b ≤ 122) || (65 ≤ b && b ≤ 90)
def isDig (b : UInt8) : Bool := 48 ≤ b && b ≤ 57
def isInn (b : UInt8) : Bool := isLet b || isDig b || b == 45 || b == 95
theorem byte_all (P : UInt8 → Prop) (h : ∀ n : Fin 256, P (UInt8.ofNat n.val)) (b : UInt8) : P b := by
  have := h ⟨b.toNat, b.toNat_lt⟩
  simpa using this
theorem class_ev (b : UInt8) : Evt (fun k => term_classOf.f k (b.toNat : Int)) (if isLet b then 5 else if isDig b then 6 else if isInn b then 4 else if b = 32 ∨ b = 9 ∨ b = 10 ∨ b = 13 then 8 else 0) := by
  refine Evt.of (k := 8) (term_classOf.mono _) ?_
  revert b
  refine byte_all _ ?_
  decide +kernel
theorem is_ev (b : UInt8) (m : Int) (hm : m = 1 ∨ m = 2 ∨ m = 3 ∨ m = 4) : Evt (fun k => term_is.f k (b.toNat : Int) m) (if m = 1 then isLet b else if m = 2 then isDig b else if m = 3 then isLet b || isDig b else isInn b) := by
  refine Evt.of (k := 8) (term_is.mono _ _) ?_
  revert b
  refine byte_all _ ?_
  rcases hm with rfl | rfl | rfl | rfl <;> decide +kernel
def setOf (m : Int) (b : UInt8) : Bool := if m = 1 then isLet b else if m = 2 then isDig b else if m = 3 then isLet b || isDig b else isInn b
theorem every_loop {s : ByteArray} (hb : s.size ≤ 1099511627776) {m : Int} (hm : m = 1 ∨ m = 2 ∨ m = 3 ∨ m = 4) : ∀ (r : List UInt8) (n : Nat), s.data.toList.drop n = r →
    Evt (fun k => term_every.l0 k s m (s.size : Int) (n : Int)) (r.all (setOf m))
  | [], n, h => by
    refine Evt.succ ?_; simp only [term_every.l0, if_neg (size_stop h), List.all_nil]; exact Evt.const _
  | b :: r, n, h => by
    obtain ⟨h1, h2, h3, h4, h5⟩ := size_mid h hb; refine Evt.succ ?_; simp only [term_every.l0, if_pos h1, if_pos h2, h3, h5]; refine Evt.bind (is_ev b m hm) ?_; rw [List.all_cons]
    by_cases c : setOf m b = true
    · rw [c, Bool.true_and]; simp only [show (if m = 1 then isLet b else if m = 2 then isDig b else if m = 3 then isLet b || isDig b else isInn b) = true from c, if_true]; exact every_loop hb hm r (n + 1) h4
    · rw [Bool.eq_false_iff.2 c, Bool.false_and]; simp only [show (if m = 1 then isLet b else if m = 2 then isDig b else if m = 3 then isLet b || isDig b else isInn b) = false from Bool.eq_false_iff.2 c, Bool.false_eq_true, if_false]; exact Evt.const _
theorem every_ev {s : ByteArray} (hb : s.size ≤ 1099511627776) {m : Int} (hm : m = 1 ∨ m = 2 ∨ m = 3 ∨ m = 4) : Evt (fun k => term_every.f k s m) (s.data.toList.all (setOf m)) :=
  every_loop hb hm _ 0 rfl
theorem nil_iff (s : ByteArray) : s.toList = ([] : List UInt8) ↔ s.data.toList = [] := by rw [toList_data]
def nameS (n : Int) (l : List UInt8) : Bool := match l with
  | [] => false
  | b :: _ => decide ((l.length : Int) ≤ n) && isLet b && l.all isInn
theorem all_congr' {l : List UInt8} {p q : UInt8 → Bool} (h : ∀ b, p b = q b) : l.all p = l.all q := by rw [show p = q from funext h]
theorem ident_ev {s : ByteArray} (hb : s.size ≤ 1099511627776) (n : Int) : Evt (fun k => term_identifier.f k s n) (nameS n s.data.toList) := by
  simp only [term_identifier.f, nil_iff]
  rcases hs : s.data.toList with _ | ⟨b, r⟩
  · simp only [if_true, nameS]; exact Evt.const _
  · have hl : s.size = r.length + 1 := by rw [size_len, hs]; rfl
    simp only [reduceCtorEq, if_false, nameS]
    by_cases c : (s.size : Int) ≤ n
    · have c' : (((b :: r).length : Nat) : Int) ≤ n := by simp only [List.length_cons]; omega
      simp only [if_pos c, if_pos (show (0 : Int) < s.size by omega), decide_eq_true c', Bool.true_and]; rw [show bt s 0 = (b.toNat : Int) from bt_mid (n := 0) (by simpa using hs)]; refine Evt.bind (is_ev b 1 (.inl rfl)) ?_; simp only [if_true]
      by_cases c1 : isLet b = true
      · simp only [c1, if_true, Bool.true_and]; refine (Evt.bind (every_ev hb (.inr (.inr (.inr rfl)))) (Evt.const _)).eq ?_; rw [hs]
        exact all_congr' fun b => by simp [setOf]
      · simp only [Bool.eq_false_iff.2 c1, Bool.false_eq_true, if_false, Bool.false_and]; exact Evt.const _
    · have c' : ¬ (((b :: r).length : Nat) : Int) ≤ n := by simp only [List.length_cons]; omega
      simp only [if_neg c, decide_eq_false c', Bool.false_and]; exact Evt.const _
end Go.Proofs.Ytdbjjaodkapikaa.TE
