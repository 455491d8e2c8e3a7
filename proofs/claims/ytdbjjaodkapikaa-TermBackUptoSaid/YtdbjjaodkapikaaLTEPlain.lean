/- Plain laws of terms: depth, size, the right forms of a term, in the program and in the reference. -/
import Derived.Test.YtdbjjaodkapikaaLOpen
import Derived.Test.YtdbjjaodkapikaaLTEx1
import Derived.Test.YtdbjjaodkapikaaLEv
import Derived.Test.YtdbjjaodkapikaaLTEBa
section
namespace Go.Proofs.Ytdbjjaodkapikaa.TE
open Go.RowKit Go.Proofs.YtdbjjaodkapikaaW.PrintWords Go.Proofs.Ytdbjjaodkapikaa.Opn
set_option linter.unusedVariables false
set_option linter.unusedSimpArgs false
mutual
def bk42 : S42 → Nat
  | ⟨_, t, ks⟩ => t.size + 4 + bk42s ks
def bk42s : List S42 → Nat
  | [] => 0
  | x :: r => bk42 x + bk42s r
end
mutual
def ok42 : S42 → Prop
  | ⟨k, _, ks⟩ => (Lit.int .i64 k).wf = true ∧ ok42s ks
def ok42s : List S42 → Prop
  | [] => True
  | x :: r => ok42 x ∧ ok42s r
end
theorem bk42s_eq : ∀ l, bkL bk42 l = bk42s l
  | [] => by simp [bkL, bk42s]
  | x :: r => by simp [bkL, bk42s, bk42s_eq r]
theorem ok42s_of : ∀ l, (∀ a ∈ l, ok42 a) → ok42s l
  | [], _ => by simp [ok42s]
  | x :: r, h => by
    simp only [ok42s]; exact ⟨h x List.mem_cons_self, ok42s_of r fun a ha => h a (List.mem_cons_of_mem _ ha)⟩
theorem cells42 : Try.prog.cellsOf 42 = 3 := by kernel_rfl
theorem len3 {α : Type} {l : List α} (h : l.length = 3) : ∃ a b c, l = [a, b, c] := by
  match l, h with
  | [a, b, c], _ => exact ⟨a, b, c, rfl⟩
theorem trod0 {H : Type} {enc : TypeId × Value → H} {P : Program} {w : World} {base : Nat} {spare : Nat → Bool} {held : Bool} {t : TypeId} {cs : List Value} {x : DataW H × List MemPlace} (h : DataW.trod enc P w base spare held 0 t cs = some x) : False := by
  simp [DataW.trod] at h
theorem op42 : ∀ n m, m ≤ n → OpF Try.prog m 42 k42 bk42 ok42 := by
  intro n
  induction n with
  | zero =>
    intro m hm H enc w base spare held cs x h
    obtain rfl : m = 0 := by omega
    exact (trod0 h).elim
  | succ n ih =>
    intro m hm H enc w base spare held cs x h; obtain ⟨xs, q, rfl, rfl, hcl, hxl, hf⟩ := DataW.trod_struct Try.underlying42 h; obtain ⟨x0, x1, x2, rfl⟩ := len3 hxl; obtain ⟨c0, c1, c2, rfl⟩ := len3 (hcl.trans cells42)
    have z3 : Try.prog.cellsOf 3 = 1 := by kernel_rfl
    have z9 : Try.prog.cellsOf 9 = 1 := by kernel_rfl
    have z22 : Try.prog.cellsOf 22 = 1 := by kernel_rfl
    have f0 : DataW.trod enc Try.prog w base spare held q 3 (([c0, c1, c2].drop 0).take (Try.prog.cellsOf 3)) = some x0 := hf 0 _ rfl; have f1 : DataW.trod enc Try.prog w base spare held q 9 (([c0, c1, c2].drop 1).take (Try.prog.cellsOf 9)) = some x1 := hf 1 _ rfl; have f2 : DataW.trod enc Try.prog w base spare held q 22 (([c0, c1, c2].drop 2).take (Try.prog.cellsOf 22)) = some x2 := hf 2 _ rfl; rw [z3] at f0; rw [z9] at f1; rw [z22] at f2; replace f0 : DataW.trod enc Try.prog w base spare held q 3 [c0] = some x0 := f0; replace f1 : DataW.trod enc Try.prog w base spare held q 9 [c1] = some x1 := f1; replace f2 : DataW.trod enc Try.prog w base spare held q 22 [c2] = some x2 := f2; obtain ⟨a0, e0, b0, q0⟩ := op_int Try.underlying3 enc w base spare held _ _ f0; obtain ⟨a1, e1, b1, q1⟩ := op_string Try.underlying9 enc w base spare held _ _ f1
    have g2 : ∃ (l : List S42) (A : Option Addr) (c : Nat), [c2] = [.slice A l.length c] ∧ l.length ≤ c ∧ k42.C w A l.length l ∧ bkL bk42 l + 1 ≤ Rows.uptoBulk x2.1 ∧ (∀ a ∈ l, ok42 a) := by
      cases q with
      | zero => exact (trod0 f2).elim
      | succ q => exact slice_at (ih q (by omega)) Try.underlying22 cells42 f2
    obtain ⟨l, A, c, e2, hl, hC, hb, hq⟩ := g2; replace b0 : 1 ≤ Rows.uptoBulk x0.1 := b0; replace b1 : a1.size + 1 ≤ Rows.uptoBulk x1.1 := b1; have e0' : [c0] = [Value.int .i64 a0] := e0; have e1' : [c1] = [Value.string a1] := e1; obtain rfl := (List.cons.inj e0').1; obtain rfl := (List.cons.inj e1').1; obtain rfl := (List.cons.inj e2).1; refine ⟨⟨a0, a1, l⟩, k42_mk w ⟨a0, a1, l⟩ hl hC, ?_, ?_⟩
    · rw [bk42s_eq] at hb; simp only [bk42, List.map_cons, List.map_nil, Rows.uptoBulk, Rows.uptoBulkAll]
      omega
    · exact ⟨q0, ok42s_of l hq⟩
theorem opSlice22 {n : Nat} {H : Type} {enc : TypeId × Value → H} {w : World} {base : Nat} {spare : Nat → Bool} {held : Bool} {cs : List Value} {x : DataW H × List MemPlace} (h : DataW.trod enc Try.prog w base spare held n 22 cs = some x) :
    ∃ (l : List S42) (A : Option Addr) (c : Nat), cs = [.slice A l.length c] ∧ l.length ≤ c ∧ k42.C w A l.length l ∧ bk42s l + 1 ≤ Rows.uptoBulk x.1 ∧ ok42s l := by
  cases n with
  | zero => exact (trod0 h).elim
  | succ n =>
    obtain ⟨l, A, c, h1, h2, h3, h4, h5⟩ := slice_at (op42 n n (Nat.le_refl _)) Try.underlying22 cells42 h; exact ⟨l, A, c, h1, h2, h3, by rw [← bk42s_eq]; exact h4, ok42s_of l h5⟩
end Go.Proofs.Ytdbjjaodkapikaa.TE
end
section
namespace Go.Proofs.Ytdbjjaodkapikaa.TE
open Go.RowKit Go.Proofs.YtdbjjaodkapikaaW.PrintWords Go.Proofs.YtdbjjaodkapikaaW.PrintLast Go.Proofs.YtdbjjaodkapikaaW.PrintMore Go.Proofs.Ytdbjjaodkapikaa.Evs
set_option linter.unusedVariables false
set_option linter.unusedSimpArgs false
theorem rd_mid {xs : List S42} {n : Nat} {x : S42} (h : ∀ z, xs.getD (n : Int).toNat z = x) : rd_T42 xs (n : Int) = x := h _
theorem bk42_eq (x : S42) : bk42 x = x.f1.size + 4 + bk42s x.f2 := by cases x; simp [bk42]
theorem bk_mem : ∀ {l : List S42} {x : S42}, x ∈ l → bk42s x.f2 + x.f1.size + 4 ≤ bk42s l
  | y :: r, x, h => by
    simp only [bk42s]
    rcases List.mem_cons.1 h with rfl | h
    · have := bk42_eq x; omega
    · have := bk_mem h; omega
theorem bk_len : ∀ l : List S42, 4 * l.length ≤ bk42s l
  | [] => by simp
  | x :: r => by
    have := bk_len r; have := bk42_eq x; simp only [bk42s, List.length_cons]; omega
mutual
def dpT : Int → S42 → Int
  | a, ⟨k, _, ks⟩ => if k = 4 ∨ k = 8 ∨ 0 < ks.length then mx a (wrap64 (1 + dpL 0 ks)) else a
def dpL : Int → List S42 → Int
  | a, [] => a
  | a, x :: r => dpL (dpT a x) r
end
theorem dpT_eq (a : Int) (x : S42) : dpT a x = if x.f0 = 4 ∨ x.f0 = 8 ∨ 0 < x.f2.length then mx a (wrap64 (1 + dpL 0 x.f2)) else a := by cases x; simp [dpT]
theorem depth_loop {x0 : List S42} (hb : x0.length ≤ 1099511627776) : ∀ (r : List S42) (n : Nat) (a : Int), x0.drop n = r → (∀ x ∈ r, Evt (fun k => term_depth.f k x.f2) (dpL 0 x.f2)) →
    Evt (fun k => term_depth.l0 k a x0 (x0.length : Int) (n : Int)) (dpL a r)
  | [], n, a, h, _ => by
    refine Evt.succ ?_; simp only [term_depth.l0, if_neg (stop h), dpL]; exact Evt.const _
  | x :: r, n, a, h, hk => by
    obtain ⟨h1, h2, h3, h4, h5⟩ := mid h hb
    have ih := fun a => depth_loop hb r (n + 1) a h4 fun y hy => hk y (List.mem_cons_of_mem _ hy)
    refine Evt.succ ?_; simp only [term_depth.l0, if_pos h1, if_pos h2, rd_mid h3, h5, dpL, dpT_eq]
    by_cases c4 : x.f0 = 4
    · simp only [if_pos c4, c4, true_or]; exact Evt.bind (hk x List.mem_cons_self) (ih _)
    · simp only [if_neg c4, c4, false_or]
      by_cases c8 : x.f0 = 8
      · simp only [if_pos c8, c8, true_or]; exact Evt.bind (hk x List.mem_cons_self) (ih _)
      · simp only [if_neg c8, c8, false_or]
        by_cases cl : 0 < x.f2.length
        · simp only [if_pos cl, if_pos (show (x.f2.length : Int) > 0 by omega)]; exact Evt.bind (hk x List.mem_cons_self) (ih _)
        · simp only [if_neg cl, if_neg (show ¬ (x.f2.length : Int) > 0 by omega)]; exact ih _
theorem depth_ev : ∀ (n : Nat) (l : List S42), bk42s l ≤ n → n ≤ 1099511627776 → Evt (fun k => term_depth.f k l) (dpL 0 l) := by
  intro n
  induction n with
  | zero =>
    intro l h _; refine Evt.succ ?_; simp only [term_depth.f]; have := bk_len l; have hl : l = [] := List.length_eq_zero_iff.1 (by omega); subst hl; exact depth_loop (by simp) [] 0 0 rfl (by simp)
  | succ n ih =>
    intro l h hn; refine Evt.succ ?_; simp only [term_depth.f]; have := bk_len l
    exact depth_loop (by omega) l 0 0 rfl fun x hx => ih x.f2 (by have := bk_mem hx; omega) (by omega)
theorem flat_mem_bk : ∀ {l : List S42} {n : Nat}, bk42s l ≤ n → 4 * (flat l).length ≤ bk42s l ∧ ∀ x ∈ flat l, bk42s x.f2 + x.f1.size + 4 ≤ bk42s l := by
  intro l n
  induction n using Nat.strongRecOn generalizing l with
  | _ n ih =>
    intro h
    match l, h with
    | [], _ => simp [flat_nil, bk42s]
    | x :: r, h =>
      have hx := bk42_eq x; simp only [bk42s] at h ⊢; have h1 := ih (bk42s x.f2) (by omega) (l := x.f2) (Nat.le_refl _); have h2 := ih (bk42s r) (by omega) (l := r) (Nat.le_refl _); rw [flat_cons]; refine ⟨by simp only [List.length_cons, List.length_append]; omega, fun y hy => ?_⟩
      rcases List.mem_cons.1 hy with rfl | hy
      · omega
      · rcases List.mem_append.1 hy with hy | hy
        · have := h1.2 y hy; omega
        · have := h2.2 y hy; omega
theorem flat_len (l : List S42) : 4 * (flat l).length ≤ bk42s l := (flat_mem_bk (Nat.le_refl _)).1
theorem flat_bk {l : List S42} {x : S42} (h : x ∈ flat l) : bk42s x.f2 + x.f1.size + 4 ≤ bk42s l := (flat_mem_bk (Nat.le_refl _)).2 x h
theorem mx_zero {a : Int} (h : 0 ≤ a) : mx a 0 = a := by unfold mx; split <;> omega
theorem mx_ge {a b : Int} (h : 0 ≤ a) : 0 ≤ mx a b := by unfold mx; split <;> omega
theorem dpL_nil (a : Int) : dpL a [] = a := by simp [dpL]
theorem rsize_loop {x0 : List S42} (hb : x0.length ≤ 1099511627776) : ∀ (r : List S42) (n : Nat) (c : Int) (a : Int), x0.drop n = r → 0 ≤ a → 0 ≤ c → c + (flat r).length ≤ 1099511627776 → (∀ x ∈ r, Evt (fun k => chiasmusref01_Size.f k x.f2) (((flat x.f2).length : Int), dpL 0 x.f2)) →
    Evt (fun k => chiasmusref01_Size.l0 k x0 c a (n : Int)) (c + (flat r).length, dpL a r)
  | [], n, c, a, h, _, _, _, _ => by
    refine Evt.succ ?_; simp only [chiasmusref01_Size.l0, if_neg (stop h), dpL, flat_nil]; exact (Evt.const _).eq (by simp)
  | x :: r, n, c, a, h, ha, hc, hcb, hk => by
    obtain ⟨h1, h2, h3, h4, h5⟩ := mid h hb; rw [flat_cons] at hcb ⊢; simp only [List.length_cons, List.length_append] at hcb ⊢
    have ih := fun a ha => rsize_loop hb r (n + 1) (c + (flat x.f2).length + 1) a h4 ha (by omega) (by omega) fun y hy => hk y (List.mem_cons_of_mem _ hy)
    have e1 : wrap64 (wrap64 (c + ((flat x.f2).length : Int)) + 1) = c + (flat x.f2).length + 1 := by rw [wrap64_id (n := c + ((flat x.f2).length : Int)) (by omega) (by omega), wrap64_id (by omega) (by omega)]
    have e2 : (c + (flat x.f2).length + 1 + (flat r).length : Int) = c + (((flat x.f2).length + (flat r).length + 1 : Nat) : Int) := by omega
    refine Evt.succ ?_; simp only [chiasmusref01_Size.l0, if_pos h1, if_pos h2, rd_mid h3, h5, dpL, dpT_eq]; refine Evt.bind (hk x List.mem_cons_self) ?_; simp only [e1, Int.add_comm (dpL 0 x.f2) 1]; rw [← e2]
    by_cases c4 : x.f0 = 4
    · simp only [if_pos c4, c4, true_or]; exact ih _ (mx_ge ha)
    · simp only [if_neg c4, c4, false_or]
      by_cases c8 : x.f0 = 8
      · simp only [if_pos c8, c8, true_or]; exact ih _ (mx_ge ha)
      · simp only [if_neg c8, c8, false_or]
        by_cases cl : 0 < x.f2.length
        · simp only [if_pos cl, if_pos (show (x.f2.length : Int) > 0 by omega)]; exact ih _ (mx_ge ha)
        · simp only [if_neg cl, if_neg (show ¬ (x.f2.length : Int) > 0 by omega)]; have e0 : x.f2 = [] := List.length_eq_zero_iff.1 (by omega)
          have e3 : mx a (dpL 0 x.f2) = a := by rw [e0, dpL_nil, mx_zero ha]
          rw [e3]; exact ih _ ha
theorem rsize_ev : ∀ (n : Nat) (l : List S42), bk42s l ≤ n → n ≤ 1099511627776 → Evt (fun k => chiasmusref01_Size.f k l) (((flat l).length : Int), dpL 0 l) := by
  intro n
  induction n with
  | zero =>
    intro l h _; refine Evt.succ ?_; simp only [chiasmusref01_Size.f]; have := bk_len l; have hl : l = [] := List.length_eq_zero_iff.1 (by omega); subst hl; exact (rsize_loop (by simp) [] 0 0 0 rfl (by omega) (by omega) (by simp [flat_nil]) (by simp)).eq (by simp)
  | succ n ih =>
    intro l h hn; refine Evt.succ ?_; simp only [chiasmusref01_Size.f]; have := bk_len l; have := flat_len l; exact (rsize_loop (by omega) l 0 0 0 rfl (by omega) (by omega) (by omega) fun x hx => ih x.f2 (by have := bk_mem hx; omega) (by omega)).eq (by simp)
theorem size_ev {l : List S42} (h : bk42s l ≤ 1099511627776) : Evt (fun k => term_Size.f k l) (((flat l).length : Int), dpL 0 l) := by
  have := flat_len l; refine (Evt.map (g := fun d => (wrap64 ((flat l).length : Int), d)) (depth_ev _ l (Nat.le_refl _) h)).eq ?_; rw [wrap64_id (by omega) (by omega)]
def isLet (b : UInt8) : Bool := (97 ≤ b && b ≤ 122) || (65 ≤ b && b ≤ 90)
def isDig (b : UInt8) : Bool := 48 ≤ b && b ≤ 57
def isInn (b : UInt8) : Bool := isLet b || isDig b || b == 45 || b == 95
def isPut (b : UInt8) : Bool := !(b < 32) && !(126 < b)
theorem byte_all (P : UInt8 → Prop) (h : ∀ n : Fin 256, P (UInt8.ofNat n.val)) (b : UInt8) : P b := by
  have := h ⟨b.toNat, b.toNat_lt⟩
  simpa using this
theorem class_ev (b : UInt8) : Evt (fun k => term_classOf.f k (b.toNat : Int)) (if isLet b then 5 else if isDig b then 6 else if isInn b then 4 else if b = 32 ∨ b = 9 ∨ b = 10 ∨ b = 13 then 8 else 0) := by
  refine Evt.of (k := 8) (term_classOf.mono _) ?_
  revert b
  refine byte_all _ ?_
  decide +kernel
theorem is_ev (b : UInt8) (m : Int) (hm : m = 1 ∨ m = 2 ∨ m = 3 ∨ m = 4) : Evt (fun k => term_is.f k (b.toNat : Int) m) (if m = 1 then isLet b else if m = 2 then isDig b else if m = 3 then isLet b || isDig b else isInn b) := by
  refine Evt.of (k := 8) (term_is.mono _ _) ?_
  revert b
  refine byte_all _ ?_
  rcases hm with rfl | rfl | rfl | rfl <;> decide +kernel
theorem digit_eq (b : UInt8) : chiasmusref01_Digit.f (b.toNat : Int) = some (isDig b) := by
  revert b
  refine byte_all _ ?_
  decide +kernel
theorem letter_eq (b : UInt8) : chiasmusref01_Letter.f (b.toNat : Int) = some (isLet b) := by
  revert b
  refine byte_all _ ?_
  decide +kernel
theorem inner_eq (b : UInt8) : chiasmusref01_Inner.f (b.toNat : Int) = some (isInn b) := by
  revert b
  refine byte_all _ ?_
  decide +kernel
def setOf (m : Int) (b : UInt8) : Bool := if m = 1 then isLet b else if m = 2 then isDig b else if m = 3 then isLet b || isDig b else isInn b
theorem every_loop {s : ByteArray} (hb : s.size ≤ 1099511627776) {m : Int} (hm : m = 1 ∨ m = 2 ∨ m = 3 ∨ m = 4) : ∀ (r : List UInt8) (n : Nat), s.data.toList.drop n = r →
    Evt (fun k => term_every.l0 k s m (s.size : Int) (n : Int)) (r.all (setOf m))
  | [], n, h => by
    refine Evt.succ ?_; simp only [term_every.l0, if_neg (size_stop h), List.all_nil]; exact Evt.const _
  | b :: r, n, h => by
    obtain ⟨h1, h2, h3, h4, h5⟩ := size_mid h hb; refine Evt.succ ?_; simp only [term_every.l0, if_pos h1, if_pos h2, h3, h5]; refine Evt.bind (is_ev b m hm) ?_; rw [List.all_cons]
    by_cases c : setOf m b = true
    · rw [c, Bool.true_and]; simp only [show (if m = 1 then isLet b else if m = 2 then isDig b else if m = 3 then isLet b || isDig b else isInn b) = true from c, if_true]; exact every_loop hb hm r (n + 1) h4
    · rw [Bool.eq_false_iff.2 c, Bool.false_and]; simp only [show (if m = 1 then isLet b else if m = 2 then isDig b else if m = 3 then isLet b || isDig b else isInn b) = false from Bool.eq_false_iff.2 c, Bool.false_eq_true, if_false]; exact Evt.const _
theorem every_ev {s : ByteArray} (hb : s.size ≤ 1099511627776) {m : Int} (hm : m = 1 ∨ m = 2 ∨ m = 3 ∨ m = 4) : Evt (fun k => term_every.f k s m) (s.data.toList.all (setOf m)) :=
  every_loop hb hm _ 0 rfl
theorem nil_iff (s : ByteArray) : s.toList = ([] : List UInt8) ↔ s.data.toList = [] := by rw [toList_data]
def nameS (n : Int) (l : List UInt8) : Bool := match l with
  | [] => false
  | b :: _ => decide ((l.length : Int) ≤ n) && isLet b && l.all isInn
theorem all_congr' {l : List UInt8} {p q : UInt8 → Bool} (h : ∀ b, p b = q b) : l.all p = l.all q := by rw [show p = q from funext h]
theorem ident_ev {s : ByteArray} (hb : s.size ≤ 1099511627776) (n : Int) : Evt (fun k => term_identifier.f k s n) (nameS n s.data.toList) := by
  simp only [term_identifier.f, nil_iff]
  rcases hs : s.data.toList with _ | ⟨b, r⟩
  · simp only [if_true, nameS]; exact Evt.const _
  · have hl : s.size = r.length + 1 := by rw [size_len, hs]; rfl
    simp only [reduceCtorEq, if_false, nameS]
    by_cases c : (s.size : Int) ≤ n
    · have c' : (((b :: r).length : Nat) : Int) ≤ n := by simp only [List.length_cons]; omega
      simp only [if_pos c, if_pos (show (0 : Int) < s.size by omega), decide_eq_true c', Bool.true_and]; rw [show bt s 0 = (b.toNat : Int) from bt_mid (n := 0) (by simpa using hs)]; refine Evt.bind (is_ev b 1 (.inl rfl)) ?_; simp only [if_true]
      by_cases c1 : isLet b = true
      · simp only [c1, if_true, Bool.true_and]; refine (Evt.bind (every_ev hb (.inr (.inr (.inr rfl)))) (Evt.const _)).eq ?_; rw [hs]
        exact all_congr' fun b => by simp [setOf]
      · simp only [Bool.eq_false_iff.2 c1, Bool.false_eq_true, if_false, Bool.false_and]; exact Evt.const _
    · have c' : ¬ (((b :: r).length : Nat) : Int) ≤ n := by simp only [List.length_cons]; omega
      simp only [if_neg c, decide_eq_false c', Bool.false_and]; exact Evt.const _
theorem rname_loop {s : ByteArray} (hb : s.size ≤ 1099511627776) : ∀ (r : List UInt8) (n : Nat), s.data.toList.drop n = r →
    Evt (fun k => chiasmusref01_IsName.l0 k s (n : Int)) (r.all isInn)
  | [], n, h => by
    refine Evt.succ ?_; simp only [chiasmusref01_IsName.l0, if_neg (size_stop h), List.all_nil]; exact Evt.const _
  | b :: r, n, h => by
    obtain ⟨h1, h2, h3, h4, h5⟩ := size_mid h hb; refine Evt.succ ?_; simp only [chiasmusref01_IsName.l0, if_pos h1, if_pos h2, h3, h5, inner_eq, Option.bind_some, List.all_cons]
    by_cases c : isInn b = true
    · simp only [c, if_true, Bool.true_and]; exact rname_loop hb r (n + 1) h4
    · simp only [Bool.eq_false_iff.2 c, Bool.false_eq_true, if_false, Bool.false_and]; exact Evt.const _
theorem rname_ev {s : ByteArray} (hb : s.size ≤ 1099511627776) (n : Int) : Evt (fun k => chiasmusref01_IsName.f k s n) (nameS n s.data.toList) := by
  simp only [chiasmusref01_IsName.f, nil_iff]
  have hj : Evt (fun k => chiasmusref01_IsName.j0 k s true) false := by
    refine Evt.succ ?_; simp only [chiasmusref01_IsName.j0, if_true]; exact Evt.const _
  rcases hs : s.data.toList with _ | ⟨b, r⟩
  · simp only [if_true, nameS]; exact hj
  · have hl : s.size = r.length + 1 := by rw [size_len, hs]; rfl
    simp only [reduceCtorEq, if_false, nameS]
    by_cases c : (s.size : Int) > n
    · have c' : ¬ (((b :: r).length : Nat) : Int) ≤ n := by simp only [List.length_cons]; omega
      simp only [if_pos c, decide_eq_false c', Bool.false_and]; exact hj
    · have c' : (((b :: r).length : Nat) : Int) ≤ n := by simp only [List.length_cons]; omega
      simp only [if_neg c, if_pos (show (0 : Int) < s.size by omega), decide_eq_true c', Bool.true_and]; rw [show bt s 0 = (b.toNat : Int) from bt_mid (n := 0) (by simpa using hs)]; simp only [letter_eq, Option.bind_some]; refine Evt.succ ?_; simp only [chiasmusref01_IsName.j0]
      by_cases c1 : isLet b = true
      · simp only [c1, Bool.not_true, Bool.false_eq_true, if_false, Bool.true_and]; rw [← hs]; exact rname_loop hb _ 0 rfl
      · simp only [Bool.eq_false_iff.2 c1, Bool.not_false, if_true, Bool.false_and]; exact Evt.const _
def varS (l : List UInt8) : Bool := decide (l ≠ []) && decide ((l.length : Int) ≤ 40) && l.all fun b => isLet b || isDig b
theorem rvar_loop {s : ByteArray} (hb : s.size ≤ 1099511627776) : ∀ (r : List UInt8) (n : Nat), s.data.toList.drop n = r →
    Evt (fun k => chiasmusref01_IsVar.l0 k s (n : Int)) ((r.all fun b => isLet b || isDig b) && (decide (s.data.toList ≠ []) && decide ((s.data.toList.length : Int) ≤ 40)))
  | [], n, h => by
    refine Evt.succ ?_; simp only [chiasmusref01_IsVar.l0, if_neg (size_stop h), List.all_nil, Bool.true_and]; refine (Evt.ite (fun _ => Evt.const _) (fun _ => Evt.const _)).eq ?_; rw [size_len]
    by_cases c : s.data.toList = []
    · rw [if_pos ((nil_iff s).2 c)]; simp [c]
    · rw [if_neg (fun h => c ((nil_iff s).1 h))]; simp [c]
  | b :: r, n, h => by
    obtain ⟨h1, h2, h3, h4, h5⟩ := size_mid h hb; refine Evt.succ ?_; simp only [chiasmusref01_IsVar.l0, if_pos h1, if_pos h2, h3, h5, letter_eq, digit_eq, Option.bind_some, List.all_cons]
    by_cases c : isLet b = true
    · simp only [c, if_true, Bool.true_or, Bool.true_and]; exact rvar_loop hb r (n + 1) h4
    · by_cases c2 : isDig b = true
      · simp only [Bool.eq_false_iff.2 c, c2, Bool.false_eq_true, if_false, if_true, Bool.or_true, Bool.true_and]; exact rvar_loop hb r (n + 1) h4
      · simp only [Bool.eq_false_iff.2 c, Bool.eq_false_iff.2 c2, Bool.false_eq_true, if_false, Bool.or_false, Bool.false_and]; exact Evt.const _
theorem rvar_ev {s : ByteArray} (hb : s.size ≤ 1099511627776) : Evt (fun k => chiasmusref01_IsVar.f k s) (varS s.data.toList) :=
  (rvar_loop hb _ 0 rfl).eq (by simp only [varS, List.drop_zero]; rw [Bool.and_comm])
theorem put_eq (b : UInt8) : isPut b = (!decide ((b.toNat : Int) < 32) && !decide ((b.toNat : Int) > 126)) := by
  revert b
  refine byte_all _ ?_
  decide +kernel
def wordS (l : List UInt8) : Bool := decide (l ≠ []) && decide ((l.length : Int) ≤ 60) && l.all isPut
theorem rword_loop {s : ByteArray} (hb : s.size ≤ 1099511627776) : ∀ (r : List UInt8) (n : Nat), s.data.toList.drop n = r →
    Evt (fun k => chiasmusref01_IsWord.l0 k s (n : Int)) ((r.all isPut) && (decide (s.data.toList ≠ []) && decide ((s.data.toList.length : Int) ≤ 60)))
  | [], n, h => by
    refine Evt.succ ?_; simp only [chiasmusref01_IsWord.l0, if_neg (size_stop h), List.all_nil, Bool.true_and]; refine (Evt.ite (fun _ => Evt.const _) (fun _ => Evt.const _)).eq ?_; rw [size_len]
    by_cases c : s.data.toList = []
    · rw [if_pos ((nil_iff s).2 c)]; simp [c]
    · rw [if_neg (fun h => c ((nil_iff s).1 h))]; simp [c]
  | b :: r, n, h => by
    obtain ⟨h1, h2, h3, h4, h5⟩ := size_mid h hb; refine Evt.succ ?_; simp only [chiasmusref01_IsWord.l0, if_pos h1, if_pos h2, h3, h5, List.all_cons]
    have hp : isPut b = (!decide ((b.toNat : Int) < 32) && !decide ((b.toNat : Int) > 126)) := by
      exact put_eq b
    by_cases c : (b.toNat : Int) < 32
    · simp only [if_pos c, hp, decide_eq_true c, Bool.not_true, Bool.false_and]; exact Evt.const _
    · by_cases c2 : (b.toNat : Int) > 126
      · simp only [if_neg c, if_pos c2, hp, decide_eq_true c2, Bool.not_true, Bool.and_false, Bool.false_and]; exact Evt.const _
      · simp only [if_neg c, if_neg c2, hp, decide_eq_false c, decide_eq_false c2, Bool.not_false, Bool.true_and]; exact rword_loop hb r (n + 1) h4
theorem rword_ev {s : ByteArray} (hb : s.size ≤ 1099511627776) : Evt (fun k => chiasmusref01_IsWord.f k s) (wordS s.data.toList) :=
  (rword_loop hb _ 0 rfl).eq (by simp only [wordS, List.drop_zero]; rw [Bool.and_comm])
theorem extract_list (s : ByteArray) (i j : Nat) : (s.extract i j).data.toList = (s.data.toList.drop i).take (j - i) := by
  rw [ByteArray.data_extract, Array.toList_extract]
def cutS : List UInt8 → List UInt8 × Bool
  | [] => ([], false)
  | b :: r => if b = 45 then (r, true) else (b :: r, false)
def coreS (l : List UInt8) (neg : Bool) : Bool := decide (l ≠ []) && decide ((l.length : Int) ≤ 500) && l.all isDig && (decide (l.head? ≠ some 48) || (decide (l.length = 1) && !neg))
def numS (l : List UInt8) : Bool := coreS (cutS l).1 (cutS l).2
theorem cut_eq (s : ByteArray) : ∃ t, strings_CutPrefix.f s (⟨#[45]⟩ : ByteArray) = some (t, (cutS s.data.toList).2) ∧ t.data.toList = (cutS s.data.toList).1 ∧ t.size ≤ s.size := by
  have h1 : (⟨#[45]⟩ : ByteArray).size = 1 := rfl
  have h2 : (⟨#[45]⟩ : ByteArray).toList = [45] := by rw [toList_data]
  unfold strings_CutPrefix.f stringslite_CutPrefix.f stringslite_HasPrefix.f; simp only [h1, h2]
  rcases hs : s.data.toList with _ | ⟨b, r⟩
  · have hz : s.size = 0 := by rw [size_len, hs]; rfl
    rw [hz]; refine ⟨s, ?_, hs, by omega⟩; simp [cutS]
  · have hl : s.size = r.length + 1 := by rw [size_len, hs]; rfl
    rw [if_pos (show (s.size : Int) ≥ ((1 : Nat) : Int) by omega), if_pos (by decide), if_pos (show ((1 : Nat) : Int) ≤ (s.size : Int) by omega)]
    have he : (s.extract 0 (((1 : Nat) : Int) : Int).toNat).toList = [b] := by rw [toList_data, extract_list, hs]; rfl
    simp only [he, Option.bind_some]
    by_cases c : b = 45
    · subst c; rw [if_pos (by decide), if_pos (show ((1 : Nat) : Int) ≤ (s.size : Int) by omega), if_pos (by decide)]; refine ⟨s.extract (((1 : Nat) : Int) : Int).toNat s.size, ?_, ?_, ?_⟩
      · simp only [Option.bind_some, cutS, if_true]
      · rw [extract_list, hs]; simp [cutS, hl]
      · have e : (s.extract (((1 : Nat) : Int) : Int).toNat s.size).data.toList.length = r.length := by rw [extract_list, hs]; simp [hl]
        rw [size_len, e]; omega
    · rw [if_neg (by simp [c])]; refine ⟨s, ?_, ?_, Nat.le_refl _⟩
      · simp only [Option.bind_some, cutS, if_neg c]
      · simp [hs, cutS, c]
theorem num_ev {s : ByteArray} (hb : s.size ≤ 1099511627776) : Evt (fun k => term_isNumber.f k s) (numS s.data.toList) := by
  obtain ⟨t, h1, h2, h3⟩ := cut_eq s; simp only [term_isNumber.f, h1, Option.bind_some, nil_iff, numS]; rw [← h2]
  generalize (cutS s.data.toList).2 = neg
  rcases ht : t.data.toList with _ | ⟨b, r⟩
  · simp only [if_true]; exact (Evt.const _).eq (by simp [coreS])
  · have hl : t.size = r.length + 1 := by rw [size_len, ht]; rfl
    simp only [reduceCtorEq, if_false]
    by_cases c : (t.size : Int) > 500
    · simp only [if_pos c]; refine (Evt.const _).eq ?_
      have : ¬ (((b :: r).length : Nat) : Int) ≤ 500 := by simp only [List.length_cons]; omega
      simp only [coreS, decide_eq_false this, Bool.and_false, Bool.false_and]
    · simp only [if_neg c]
      have hc : (((b :: r).length : Nat) : Int) ≤ 500 := by simp only [List.length_cons]; omega
      have hev := every_ev (s := t) (by omega) (m := 2) (.inr (.inl rfl)); rw [ht, all_congr' (q := isDig) (fun b => by simp [setOf])] at hev; refine Evt.bind hev ?_; have hbt : bt t 0 = (b.toNat : Int) := bt_mid (n := 0) (by simpa using ht); simp only [coreS, decide_eq_true hc, ne_eq, reduceCtorEq, not_false_eq_true, decide_true, Bool.true_and, hbt, if_pos (show (0 : Int) < t.size by omega)]
      by_cases ca : (b :: r).all isDig = true
      · simp only [ca, if_true, Bool.true_and, List.head?_cons, Option.some.injEq]
        by_cases cb : (b.toNat : Int) = 48
        · have cb' : b = 48 := by
            have : b.toNat = 48 := by omega
            exact UInt8.toNat_inj.1 this
          simp only [if_pos cb, cb', not_true_eq_false, decide_false, Bool.false_or]
          by_cases cr : (t.size : Int) = 1
          · have : (b :: r).length = 1 := by simp only [List.length_cons]; omega
            simp only [if_pos cr]; exact (Evt.const _).eq (by rw [← cb', decide_eq_true this]; simp)
          · have : ¬ (b :: r).length = 1 := by simp only [List.length_cons]; omega
            simp only [if_neg cr]; exact (Evt.const _).eq (by rw [← cb', decide_eq_false this]; simp)
        · have cb' : ¬ b = 48 := by rintro rfl; exact cb rfl
          simp only [if_neg cb]; exact (Evt.const _).eq (by simp [cb'])
      · simp only [Bool.eq_false_iff.2 ca, Bool.false_eq_true, if_false, Bool.false_and]; exact Evt.const _
theorem rnum_loop {s : ByteArray} (hb : s.size ≤ 1099511627776) : ∀ (r : List UInt8) (n : Nat), s.data.toList.drop n = r →
    Evt (fun k => chiasmusref01_IsNumber.l0 k s (n : Int)) (r.all isDig && (decide (s.data.toList ≠ []) && (decide ((s.data.toList.length : Int) ≤ 500) && decide (s.data.toList.head? ≠ some 48))))
  | [], n, h => by
    refine Evt.succ ?_; simp only [chiasmusref01_IsNumber.l0, if_neg (size_stop h), List.all_nil, Bool.true_and]
    rcases hs : s.data.toList with _ | ⟨b, r⟩
    · simp only [if_pos ((nil_iff s).2 hs)]; exact (Evt.const _).eq (by simp)
    · have hl : s.size = r.length + 1 := by rw [size_len, hs]; rfl
      have hbt : bt s 0 = (b.toNat : Int) := bt_mid (n := 0) (by simpa using hs); simp only [if_neg (show ¬ s.toList = [] from fun e => by rw [(nil_iff s).1 e] at hs; cases hs), if_pos (show (0 : Int) < s.size by omega), hbt]
      have hq : ((b.toNat : Int) != 48) = decide (b ≠ 48) := by
        by_cases c : b = 48
        · subst c; decide
        · have : ¬ (b.toNat : Int) = 48 := fun h => c (UInt8.toNat_inj.1 (show b.toNat = (48 : UInt8).toNat by show b.toNat = 48; omega))
          simp [c, this]
      by_cases c : (s.size : Int) ≤ 500
      · simp only [if_pos c, hq]; exact (Evt.const _).eq (by
          have : (((b :: r).length : Nat) : Int) ≤ 500 := by simp only [List.length_cons]; omega
          rw [decide_eq_true this]; simp)
      · simp only [if_neg c]; exact (Evt.const _).eq (by
          have : ¬ (((b :: r).length : Nat) : Int) ≤ 500 := by simp only [List.length_cons]; omega
          rw [decide_eq_false this]; simp)
  | b :: r, n, h => by
    obtain ⟨h1, h2, h3, h4, h5⟩ := size_mid h hb; refine Evt.succ ?_; simp only [chiasmusref01_IsNumber.l0, if_pos h1, if_pos h2, h3, h5, digit_eq, Option.bind_some, List.all_cons]
    by_cases c : isDig b = true
    · simp only [c, if_true, Bool.true_and]; exact rnum_loop hb r (n + 1) h4
    · simp only [Bool.eq_false_iff.2 c, Bool.false_eq_true, if_false, Bool.false_and]; exact Evt.const _
theorem rnum_ev {s : ByteArray} (hb : s.size ≤ 1099511627776) : Evt (fun k => chiasmusref01_IsNumber.f k s) (numS s.data.toList) := by
  have j1 : ∀ {t : ByteArray}, t.size ≤ 1099511627776 → Evt (fun k => chiasmusref01_IsNumber.j1 k t) (t.data.toList.all isDig && (decide (t.data.toList ≠ []) && (decide ((t.data.toList.length : Int) ≤ 500) && decide (t.data.toList.head? ≠ some 48)))) := fun {t} ht => by
    refine Evt.succ ?_; simp only [chiasmusref01_IsNumber.j1]; exact rnum_loop ht _ 0 rfl
  have j0 : Evt (fun k => chiasmusref01_IsNumber.j0 k s false) (s.data.toList.all isDig && (decide (s.data.toList ≠ []) && (decide ((s.data.toList.length : Int) ≤ 500) && decide (s.data.toList.head? ≠ some 48)))) := by
    refine Evt.succ ?_; simp only [chiasmusref01_IsNumber.j0, Bool.false_eq_true, if_false]; exact j1 hb
  simp only [chiasmusref01_IsNumber.f, toList_data]
  by_cases c0 : s.data.toList = [48]
  · simp only [c0, if_true]; exact (Evt.const _).eq (by decide)
  · simp only [c0, if_false]
    rcases hs : s.data.toList with _ | ⟨b, r⟩
    · simp only [if_true]; rw [hs] at j0; exact j0.eq (by simp [numS, cutS, coreS])
    · have hl : s.size = r.length + 1 := by rw [size_len, hs]; rfl
      have hbt : bt s 0 = (b.toNat : Int) := bt_mid (n := 0) (by simpa using hs); simp only [reduceCtorEq, if_false, if_pos (show (0 : Int) < s.size by omega), hbt]
      by_cases c : b = 45
      · subst c; simp only [show (((45 : UInt8).toNat : Int) == 45) = true by decide]
        have hx : (s.extract 1 s.size).data.toList = r := by rw [extract_list, hs]; simp [hl]
        have hz : (s.extract 1 s.size).size ≤ 1099511627776 := by rw [size_len, hx]; omega
        refine Evt.succ ?_; simp only [chiasmusref01_IsNumber.j0, if_true, if_pos (show (1 : Int) ≤ s.size by omega)]; refine (j1 hz).eq ?_; rw [hx]; simp only [numS, cutS, if_true, coreS, Bool.not_true, Bool.and_false, Bool.or_false]
        cases r.all isDig <;> cases decide (r ≠ []) <;> cases decide ((r.length : Int) ≤ 500) <;> simp
      · have hne : ((b.toNat : Int) == 45) = false := by
          have : ¬ (b.toNat : Int) = 45 := fun h => c (UInt8.toNat_inj.1 (show b.toNat = (45 : UInt8).toNat by show b.toNat = 45; omega))
          simp [this]
        simp only [hne]; refine j0.eq ?_; rw [hs] at c0 ⊢; simp only [numS, cutS, if_neg c, coreS, Bool.not_false, Bool.and_true, ne_eq, reduceCtorEq, not_false_eq_true, decide_true, Bool.true_and, List.head?_cons, Option.some.injEq]
        by_cases cb : b = 48
        · have : ¬ (b :: r).length = 1 := fun h => c0 (by subst cb; simp at h; simp [h])
          rw [decide_eq_false this]; simp [cb]
        · simp only [cb, not_false_eq_true, decide_true, Bool.and_true, Bool.true_or]; rw [Bool.and_comm]
def rightS (x : S42) : Bool :=
  if x.f0 = 4 then decide (x.f1.data.toList = [])
  else if x.f0 = 8 then nameS 40 x.f1.data.toList
  else if 0 < x.f2.length then false
  else if x.f0 = 1 then decide (x.f1.data.toList.length = 1)
  else if x.f0 = 2 then wordS x.f1.data.toList
  else if x.f0 = 3 then numS x.f1.data.toList
  else if x.f0 = 5 ∨ x.f0 = 6 ∨ x.f0 = 7 then varS x.f1.data.toList
  else false
theorem beq_nil (s : ByteArray) : (s.toList == ([] : List UInt8)) = decide (s.data.toList = []) := by
  rw [toList_data]; cases s.data.toList <;> rfl
theorem size_one (s : ByteArray) : ((s.size : Int) == 1) = decide (s.data.toList.length = 1) := by
  rw [size_len]
  by_cases c : s.data.toList.length = 1
  · rw [c]; rfl
  · rw [decide_eq_false c]; exact beq_eq_false_iff_ne.2 (by omega)
theorem size_len_i (s : ByteArray) : (s.size : Int) = (s.data.toList.length : Int) := by rw [size_len]
theorem right_ev {x : S42} (hb : x.f1.size ≤ 1099511627776) : Evt (fun k => term_right.f k x.f0 x.f1 x.f2) (rightS x) := by
  have hv : Evt (fun k => if x.f1.toList = ([] : List UInt8) then some false else if (x.f1.size : Int) ≤ 40 then (term_every.f k x.f1 3).bind fun t => some t else some false) (varS x.f1.data.toList) := by
    refine (Evt.ite (fun _ => Evt.const _) (fun _ => Evt.ite (fun _ => Evt.bind (every_ev hb (.inr (.inr (.inl rfl)))) (Evt.const _)) (fun _ => Evt.const _))).eq ?_; simp only [nil_iff, size_len_i, varS]; rw [all_congr' (q := fun b => isLet b || isDig b) (fun b => by simp [setOf])]
    generalize x.f1.data.toList = L
    by_cases c : L = []
    · simp [c]
    · by_cases c2 : (L.length : Int) ≤ 40
      · simp [c, c2]
      · simp [c, c2]
  simp only [term_right.f, rightS]
  by_cases c4 : x.f0 = 4
  · simp only [if_pos c4]; exact (Evt.const _).eq (beq_nil _)
  simp only [if_neg c4]
  by_cases c8 : x.f0 = 8
  · simp only [if_pos c8]; exact Evt.bind (ident_ev hb 40) (Evt.const _)
  simp only [if_neg c8]
  by_cases cl : 0 < x.f2.length
  · simp only [if_pos cl, if_pos (show (x.f2.length : Int) > 0 by omega)]; exact Evt.const _
  simp only [if_neg cl, if_neg (show ¬ (x.f2.length : Int) > 0 by omega)]
  by_cases c1 : x.f0 = 1
  · simp only [if_pos c1]; exact (Evt.const _).eq (size_one _)
  simp only [if_neg c1]
  by_cases c2 : x.f0 = 2
  · simp only [if_pos c2]; refine (Evt.ite (fun _ => Evt.const _) (fun _ => Evt.ite (fun _ => Evt.const _) (fun _ => Evt.const _)) : Evt (fun k => if x.f1.toList = ([] : List UInt8) then some false else if (x.f1.size : Int) ≤ 60 then some (!(x.f1.data.toList.any fun b => b < 32 || b > 126)) else some false) _).eq ?_; simp only [nil_iff, size_len_i, wordS]
    have ha : (!(x.f1.data.toList.any fun b => b < 32 || b > 126)) = x.f1.data.toList.all isPut := by
      rw [List.not_any_eq_all_not]
      exact all_congr' fun b => by simp only [isPut, Bool.not_or, gt_iff_lt]
    rw [ha]
    generalize x.f1.data.toList = L
    by_cases c : L = []
    · simp [c]
    · by_cases c2 : (L.length : Int) ≤ 60
      · simp [c, c2]
      · simp [c, c2]
  simp only [if_neg c2]
  by_cases c3 : x.f0 = 3
  · simp only [if_pos c3]; exact Evt.bind (num_ev hb) (Evt.const _)
  simp only [if_neg c3]
  by_cases c5 : x.f0 = 5
  · simp only [if_pos c5, c5, true_or, if_true]; exact hv
  simp only [if_neg c5, c5, false_or]
  by_cases c6 : x.f0 = 6
  · simp only [if_pos c6, c6, true_or, if_true]; exact hv
  simp only [if_neg c6, c6, false_or]
  by_cases c7 : x.f0 = 7
  · simp only [if_pos c7]; exact hv
  simp only [if_neg c7]; exact Evt.const _
theorem rright_ev {x : S42} (hb : x.f1.size ≤ 1099511627776) : Evt (fun k => chiasmusref01_right.f k x.f0 x.f1 x.f2) (rightS x) := by
  have j1 : ∀ b : Bool, Evt (fun k => chiasmusref01_right.j1 k x.f0 b x.f0 x.f1 x.f2) (if b = true then varS x.f1.data.toList else if x.f0 = 8 then nameS 40 x.f1.data.toList else false) := fun b => by
    refine Evt.succ ?_; simp only [chiasmusref01_right.j1]; exact Evt.ite (fun _ => Evt.bind (rvar_ev hb) (Evt.const _)) (fun _ => Evt.ite (fun _ => Evt.bind (rname_ev hb 40) (Evt.const _)) (fun _ => Evt.const _))
  have j0 : ∀ b : Bool, Evt (fun k => chiasmusref01_right.j0 k b x.f0 x.f1 x.f2) (if b = true then false else if x.f0 = 1 then ((x.f1.size : Int) == 1) else if x.f0 = 2 then wordS x.f1.data.toList else if x.f0 = 3 then numS x.f1.data.toList else if x.f0 = 4 then (x.f1.toList == ([] : List UInt8)) else
      if x.f0 = 5 then (if (x.f0 == 5) = true then varS x.f1.data.toList else if x.f0 = 8 then nameS 40 x.f1.data.toList else false) else
      if x.f0 = 6 then (if (x.f0 == 6) = true then varS x.f1.data.toList else if x.f0 = 8 then nameS 40 x.f1.data.toList else false) else
      (if (x.f0 == 7) = true then varS x.f1.data.toList else if x.f0 = 8 then nameS 40 x.f1.data.toList else false)) := fun b => by
    refine Evt.succ ?_; simp only [chiasmusref01_right.j0]
    exact Evt.ite (fun _ => Evt.const _) (fun _ => Evt.ite (fun _ => Evt.const _) (fun _ => Evt.ite (fun _ => Evt.bind (rword_ev hb) (Evt.const _)) (fun _ => Evt.ite (fun _ => Evt.bind (rnum_ev hb) (Evt.const _)) (fun _ => Evt.ite (fun _ => Evt.const _)
      (fun _ => Evt.ite (fun _ => j1 _) (fun _ => Evt.ite (fun _ => j1 _) (fun _ => j1 _)))))))
  have hf := Evt.ite (c := x.f0 = 4) (fun _ => j0 false) (fun _ => Evt.ite (c := x.f0 = 8) (fun _ => j0 false) (fun _ => j0 (decide ((x.f2.length : Int) > 0)))); simp only [chiasmusref01_right.f]; refine hf.eq ?_; simp only [rightS, beq_nil, size_one, beq_iff_eq, decide_eq_true_eq, Bool.false_eq_true, if_false, show ((x.f2.length : Int) > 0) = (0 < x.f2.length) from propext ⟨fun h => by omega, fun h => by omega⟩]
  by_cases c4 : x.f0 = 4
  · simp [c4]
  by_cases c8 : x.f0 = 8
  · simp [c8]
  by_cases cl : 0 < x.f2.length
  · simp [c4, c8, cl]
  by_cases c1 : x.f0 = 1
  · simp [cl, c1]
  by_cases c2 : x.f0 = 2
  · simp [cl, c2]
  by_cases c3 : x.f0 = 3
  · simp [cl, c3]
  by_cases c5 : x.f0 = 5
  · simp [cl, c5]
  by_cases c6 : x.f0 = 6
  · simp [cl, c6]
  by_cases c7 : x.f0 = 7
  · simp [cl, c7]
  · simp [c4, c8, cl, c1, c2, c3, c5, c6, c7]
def fineS (m : Int) (x : S42) : Bool := !decide (m < x.f0) && rightS x
def checkS (m : Int) (l : List S42) : Int := if 4000 < (flat l).length then 5 else if 100 < dpL 0 l then 6 else if (flat l).all (fineS m) then 0 else 2
theorem fineAll_ev (m : Int) : ∀ (l : List S42), (∀ x ∈ l, x.f1.size ≤ 1099511627776) → Evt (fun k => fineAll k m l) (l.all (fineS m))
  | [], _ => Evt.const _
  | x :: r, h => by
    simp only [fineAll, List.all_cons]; refine Evt.bind (a := fineS m x) ?_ ?_
    · simp only [fineT]; exact Evt.map (g := fun b => !decide (m < x.f0) && b) (right_ev (h x List.mem_cons_self))
    · exact Evt.bind (fineAll_ev m r fun y hy => h y (List.mem_cons_of_mem _ hy)) (Evt.const _)
theorem check_ev {l : List S42} (h : bk42s l ≤ 1099511627776) (m : Int) : Evt (fun k => term_check.f k l m) (checkS m l) := by
  simp only [term_check.f, checkS]
  refine Evt.ite (fun _ => Evt.const _) fun _ => ?_
  refine Evt.bind (depth_ev _ l (Nat.le_refl _) h) ?_
  refine Evt.ite (fun _ => Evt.const _) fun _ => ?_
  refine Evt.bind (fineAll_ev m (flat l) fun x hx => by have := flat_bk hx; omega) ?_; exact (Evt.const _)
theorem form_loop {x0 : List S42} (hb : x0.length ≤ 1099511627776) (m : Int) : ∀ (r : List S42) (n : Nat), x0.drop n = r → (∀ x ∈ r, x.f1.size ≤ 1099511627776) → (∀ x ∈ r, Evt (fun k => chiasmusref01_form.f k x.f2 m) ((flat x.f2).all (fineS m))) →
    Evt (fun k => chiasmusref01_form.l0 k x0 m (n : Int)) ((flat r).all (fineS m))
  | [], n, h, _, _ => by
    refine Evt.succ ?_; simp only [chiasmusref01_form.l0, if_neg (stop h), flat_nil, List.all_nil]; exact Evt.const _
  | x :: r, n, h, hs, hk => by
    obtain ⟨h1, h2, h3, h4, h5⟩ := mid h hb; refine Evt.succ ?_; simp only [chiasmusref01_form.l0, if_pos h1, if_pos h2, rd_mid h3, h5, flat_cons, List.all_cons, List.all_append]; refine Evt.bind (rright_ev (hs x List.mem_cons_self)) ?_
    by_cases c : rightS x = true
    · by_cases c2 : x.f0 > m
      · simp only [if_pos c, if_pos c2, fineS, decide_eq_true (show m < x.f0 from c2), Bool.not_true, Bool.false_and]; exact Evt.const _
      · simp only [if_pos c, if_neg c2, fineS, decide_eq_false (show ¬ m < x.f0 from c2), Bool.not_false, Bool.true_and, c]; refine Evt.bind (hk x List.mem_cons_self) ?_
        by_cases c3 : (flat x.f2).all (fineS m) = true
        · simp only [c3, if_true, Bool.true_and]; exact form_loop hb m r (n + 1) h4 (fun y hy => hs y (List.mem_cons_of_mem _ hy)) (fun y hy => hk y (List.mem_cons_of_mem _ hy))
        · simp only [Bool.eq_false_iff.2 c3, Bool.false_eq_true, if_false, Bool.false_and]; exact Evt.const _
    · simp only [if_neg c, fineS, Bool.eq_false_iff.2 c, Bool.and_false, Bool.false_and]; exact Evt.const _
theorem form_ev (m : Int) : ∀ (n : Nat) (l : List S42), bk42s l ≤ n → n ≤ 1099511627776 → Evt (fun k => chiasmusref01_form.f k l m) ((flat l).all (fineS m)) := by
  intro n
  induction n with
  | zero =>
    intro l h _; refine Evt.succ ?_; simp only [chiasmusref01_form.f]; have := bk_len l; have hl : l = [] := List.length_eq_zero_iff.1 (by omega); subst hl; exact form_loop (by simp) m [] 0 rfl (by simp) (by simp)
  | succ n ih =>
    intro l h hn; refine Evt.succ ?_; simp only [chiasmusref01_form.f]; have := bk_len l
    exact form_loop (by omega) m l 0 rfl (fun x hx => by have := bk_mem hx; omega) fun x hx => ih x.f2 (by have := bk_mem hx; omega) (by omega)
theorem wrong_ev {l : List S42} (h : bk42s l ≤ 1099511627776) (m : Int) : Evt (fun k => chiasmusref01_wrong.f k l m) (checkS m l) := by
  simp only [chiasmusref01_wrong.f, checkS]; refine Evt.bind (rsize_ev _ l (Nat.le_refl _) h) ?_; have e1 : (((flat l).length : Int) > 4000) = (4000 < (flat l).length) := propext ⟨fun h => by omega, fun h => by omega⟩; have e2 : (dpL 0 l > 100) = (100 < dpL 0 l) := rfl; simp only [e1, e2]
  refine Evt.ite (fun _ => Evt.const _) fun _ => ?_
  refine Evt.ite (fun _ => Evt.const _) fun _ => ?_
  refine Evt.bind (form_ev m _ l (Nat.le_refl _) h) ?_
  refine Evt.ite (fun _ => Evt.const _) fun _ => Evt.const _
theorem Result_ev {l : List S42} (h : bk42s l ≤ 1099511627776) : Evt (fun k => term_Result.f k l) (checkS 8 l) := Evt.bind (check_ev h 8) (Evt.const _)
theorem rResult_ev {l : List S42} (h : bk42s l ≤ 1099511627776) : Evt (fun k => chiasmusref01_Result.f k l) (checkS 8 l) := Evt.bind (wrong_ev h 8) (Evt.const _)
end Go.Proofs.Ytdbjjaodkapikaa.TE
end
