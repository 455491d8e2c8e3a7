/- Packed: the parser's small methods and add of a wrong term. -/
import Derived.Test.YtjhjhhibbmligaaMOpen
import Derived.Test.YtjhjhhibbmligaaMTEx0
import Derived.Test.YtjhjhhibbmligaaMEv
import Derived.Test.YtjhjhhibbmligaaMTEBa
import Derived.BigQuiet
import Derived.Deep.RegionHeld3
import Derived.OwnWalk
import Derived.Deep.RegionWith
import Derived.Deep.RegionLaw
import Derived.ArgAppend
import Derived.Laws.OwnMore
section
namespace Go.Proofs.Ytjhjhhibbmligaa.TE
open Go.RowKit Go.Proofs.YtjhjhhibbmligaaW.PrintWords Go.Proofs.Ytjhjhhibbmligaa.Opn
set_option linter.unusedVariables false
set_option linter.unusedSimpArgs false
mutual
def bk42 : S42 → Nat
  | ⟨_, t, ks⟩ => t.size + 4 + bk42s ks
def bk42s : List S42 → Nat
  | [] => 0
  | x :: r => bk42 x + bk42s r
end
mutual
def ok42 : S42 → Prop
  | ⟨k, _, ks⟩ => (Lit.int .i64 k).wf = true ∧ ok42s ks
def ok42s : List S42 → Prop
  | [] => True
  | x :: r => ok42 x ∧ ok42s r
end
theorem bk42s_eq : ∀ l, bkL bk42 l = bk42s l
  | [] => by simp [bkL, bk42s]
  | x :: r => by simp [bkL, bk42s, bk42s_eq r]
theorem ok42s_of : ∀ l, (∀ a ∈ l, ok42 a) → ok42s l
  | [], _ => by simp [ok42s]
  | x :: r, h => by
    simp only [ok42s]; exact ⟨h x List.mem_cons_self, ok42s_of r fun a ha => h a (List.mem_cons_of_mem _ ha)⟩
theorem cells42 : Try.prog.cellsOf 42 = 3 := by kernel_rfl
theorem len3 {α : Type} {l : List α} (h : l.length = 3) : ∃ a b c, l = [a, b, c] := by
  match l, h with
  | [a, b, c], _ => exact ⟨a, b, c, rfl⟩
theorem trod0 {H : Type} {enc : TypeId × Value → H} {P : Program} {w : World} {base : Nat} {spare : Nat → Bool} {held : Bool} {t : TypeId} {cs : List Value} {x : DataW H × List MemPlace} (h : DataW.trod enc P w base spare held 0 t cs = some x) : False := by
  simp [DataW.trod] at h
theorem op42 : ∀ n m, m ≤ n → OpF Try.prog m 42 k42 bk42 ok42 := by
  intro n
  induction n with
  | zero =>
    intro m hm H enc w base spare held cs x h
    obtain rfl : m = 0 := by omega
    exact (trod0 h).elim
  | succ n ih =>
    intro m hm H enc w base spare held cs x h; obtain ⟨xs, q, rfl, rfl, hcl, hxl, hf⟩ := DataW.trod_struct Try.underlying42 h; obtain ⟨x0, x1, x2, rfl⟩ := len3 hxl; obtain ⟨c0, c1, c2, rfl⟩ := len3 (hcl.trans cells42)
    have z3 : Try.prog.cellsOf 3 = 1 := by kernel_rfl
    have z9 : Try.prog.cellsOf 9 = 1 := by kernel_rfl
    have z22 : Try.prog.cellsOf 22 = 1 := by kernel_rfl
    have f0 : DataW.trod enc Try.prog w base spare held q 3 (([c0, c1, c2].drop 0).take (Try.prog.cellsOf 3)) = some x0 := hf 0 _ rfl; have f1 : DataW.trod enc Try.prog w base spare held q 9 (([c0, c1, c2].drop 1).take (Try.prog.cellsOf 9)) = some x1 := hf 1 _ rfl; have f2 : DataW.trod enc Try.prog w base spare held q 22 (([c0, c1, c2].drop 2).take (Try.prog.cellsOf 22)) = some x2 := hf 2 _ rfl; rw [z3] at f0; rw [z9] at f1; rw [z22] at f2; replace f0 : DataW.trod enc Try.prog w base spare held q 3 [c0] = some x0 := f0; replace f1 : DataW.trod enc Try.prog w base spare held q 9 [c1] = some x1 := f1; replace f2 : DataW.trod enc Try.prog w base spare held q 22 [c2] = some x2 := f2; obtain ⟨a0, e0, b0, q0⟩ := op_int Try.underlying3 enc w base spare held _ _ f0; obtain ⟨a1, e1, b1, q1⟩ := op_string Try.underlying9 enc w base spare held _ _ f1
    have g2 : ∃ (l : List S42) (A : Option Addr) (c : Nat), [c2] = [.slice A l.length c] ∧ l.length ≤ c ∧ k42.C w A l.length l ∧ bkL bk42 l + 1 ≤ Rows.uptoBulk x2.1 ∧ (∀ a ∈ l, ok42 a) := by
      cases q with
      | zero => exact (trod0 f2).elim
      | succ q => exact slice_at (ih q (by omega)) Try.underlying22 cells42 f2
    obtain ⟨l, A, c, e2, hl, hC, hb, hq⟩ := g2; replace b0 : 1 ≤ Rows.uptoBulk x0.1 := b0; replace b1 : a1.size + 1 ≤ Rows.uptoBulk x1.1 := b1; have e0' : [c0] = [Value.int .i64 a0] := e0; have e1' : [c1] = [Value.string a1] := e1; obtain rfl := (List.cons.inj e0').1; obtain rfl := (List.cons.inj e1').1; obtain rfl := (List.cons.inj e2).1; refine ⟨⟨a0, a1, l⟩, k42_mk w ⟨a0, a1, l⟩ hl hC, ?_, ?_⟩
    · rw [bk42s_eq] at hb; simp only [bk42, List.map_cons, List.map_nil, Rows.uptoBulk, Rows.uptoBulkAll]
      omega
    · exact ⟨q0, ok42s_of l hq⟩
theorem opSlice22 {n : Nat} {H : Type} {enc : TypeId × Value → H} {w : World} {base : Nat} {spare : Nat → Bool} {held : Bool} {cs : List Value} {x : DataW H × List MemPlace} (h : DataW.trod enc Try.prog w base spare held n 22 cs = some x) :
    ∃ (l : List S42) (A : Option Addr) (c : Nat), cs = [.slice A l.length c] ∧ l.length ≤ c ∧ k42.C w A l.length l ∧ bk42s l + 1 ≤ Rows.uptoBulk x.1 ∧ ok42s l := by
  cases n with
  | zero => exact (trod0 h).elim
  | succ n =>
    obtain ⟨l, A, c, h1, h2, h3, h4, h5⟩ := slice_at (op42 n n (Nat.le_refl _)) Try.underlying22 cells42 h; exact ⟨l, A, c, h1, h2, h3, by rw [← bk42s_eq]; exact h4, ok42s_of l h5⟩
end Go.Proofs.Ytjhjhhibbmligaa.TE
end
section
namespace Go.Proofs.Ytjhjhhibbmligaa.TE
open Go.RowKit Go.Proofs.YtjhjhhibbmligaaW.PrintWords Go.Proofs.YtjhjhhibbmligaaW.PrintLast Go.Proofs.YtjhjhhibbmligaaW.PrintMore Go.Proofs.Ytjhjhhibbmligaa.Evs
set_option linter.unusedVariables false
set_option linter.unusedSimpArgs false
theorem rd_mid {xs : List S42} {n : Nat} {x : S42} (h : ∀ z, xs.getD (n : Int).toNat z = x) : rd_T42 xs (n : Int) = x := h _
theorem bk42_eq (x : S42) : bk42 x = x.f1.size + 4 + bk42s x.f2 := by cases x; simp [bk42]
theorem bk_mem : ∀ {l : List S42} {x : S42}, x ∈ l → bk42s x.f2 + x.f1.size + 4 ≤ bk42s l
  | y :: r, x, h => by
    simp only [bk42s]
    rcases List.mem_cons.1 h with rfl | h
    · have := bk42_eq x; omega
    · have := bk_mem h; omega
theorem bk_len : ∀ l : List S42, 4 * l.length ≤ bk42s l
  | [] => by simp
  | x :: r => by
    have := bk_len r; have := bk42_eq x; simp only [bk42s, List.length_cons]; omega
mutual
def dpT : Int → S42 → Int
  | a, ⟨k, _, ks⟩ => if k = 4 ∨ k = 8 ∨ 0 < ks.length then mx a (wrap64 (1 + dpL 0 ks)) else a
def dpL : Int → List S42 → Int
  | a, [] => a
  | a, x :: r => dpL (dpT a x) r
end
theorem dpT_eq (a : Int) (x : S42) : dpT a x = if x.f0 = 4 ∨ x.f0 = 8 ∨ 0 < x.f2.length then mx a (wrap64 (1 + dpL 0 x.f2)) else a := by cases x; simp [dpT]
theorem depth_loop {x0 : List S42} (hb : x0.length ≤ 1099511627776) : ∀ (r : List S42) (n : Nat) (a : Int), x0.drop n = r → (∀ x ∈ r, Evt (fun k => term_depth.f k x.f2) (dpL 0 x.f2)) →
    Evt (fun k => term_depth.l0 k a x0 (x0.length : Int) (n : Int)) (dpL a r)
  | [], n, a, h, _ => by
    refine Evt.succ ?_; simp only [term_depth.l0, if_neg (stop h), dpL]; exact Evt.const _
  | x :: r, n, a, h, hk => by
    obtain ⟨h1, h2, h3, h4, h5⟩ := mid h hb
    have ih := fun a => depth_loop hb r (n + 1) a h4 fun y hy => hk y (List.mem_cons_of_mem _ hy)
    refine Evt.succ ?_; simp only [term_depth.l0, if_pos h1, if_pos h2, rd_mid h3, h5, dpL, dpT_eq]
    by_cases c4 : x.f0 = 4
    · simp only [if_pos c4, c4, true_or]; exact Evt.bind (hk x List.mem_cons_self) (ih _)
    · simp only [if_neg c4, c4, false_or]
      by_cases c8 : x.f0 = 8
      · simp only [if_pos c8, c8, true_or]; exact Evt.bind (hk x List.mem_cons_self) (ih _)
      · simp only [if_neg c8, c8, false_or]
        by_cases cl : 0 < x.f2.length
        · simp only [if_pos cl, if_pos (show (x.f2.length : Int) > 0 by omega)]; exact Evt.bind (hk x List.mem_cons_self) (ih _)
        · simp only [if_neg cl, if_neg (show ¬ (x.f2.length : Int) > 0 by omega)]; exact ih _
theorem depth_ev : ∀ (n : Nat) (l : List S42), bk42s l ≤ n → n ≤ 1099511627776 → Evt (fun k => term_depth.f k l) (dpL 0 l) := by
  intro n
  induction n with
  | zero =>
    intro l h _; refine Evt.succ ?_; simp only [term_depth.f]; have := bk_len l; have hl : l = [] := List.length_eq_zero_iff.1 (by omega); subst hl; exact depth_loop (by simp) [] 0 0 rfl (by simp)
  | succ n ih =>
    intro l h hn; refine Evt.succ ?_; simp only [term_depth.f]; have := bk_len l
    exact depth_loop (by omega) l 0 0 rfl fun x hx => ih x.f2 (by have := bk_mem hx; omega) (by omega)
theorem flat_mem_bk : ∀ {l : List S42} {n : Nat}, bk42s l ≤ n → 4 * (flat l).length ≤ bk42s l ∧ ∀ x ∈ flat l, bk42s x.f2 + x.f1.size + 4 ≤ bk42s l := by
  intro l n
  induction n using Nat.strongRecOn generalizing l with
  | _ n ih =>
    intro h
    match l, h with
    | [], _ => simp [flat_nil, bk42s]
    | x :: r, h =>
      have hx := bk42_eq x; simp only [bk42s] at h ⊢; have h1 := ih (bk42s x.f2) (by omega) (l := x.f2) (Nat.le_refl _); have h2 := ih (bk42s r) (by omega) (l := r) (Nat.le_refl _); rw [flat_cons]; refine ⟨by simp only [List.length_cons, List.length_append]; omega, fun y hy => ?_⟩
      rcases List.mem_cons.1 hy with rfl | hy
      · omega
      · rcases List.mem_append.1 hy with hy | hy
        · have := h1.2 y hy; omega
        · have := h2.2 y hy; omega
theorem flat_len (l : List S42) : 4 * (flat l).length ≤ bk42s l := (flat_mem_bk (Nat.le_refl _)).1
theorem flat_bk {l : List S42} {x : S42} (h : x ∈ flat l) : bk42s x.f2 + x.f1.size + 4 ≤ bk42s l := (flat_mem_bk (Nat.le_refl _)).2 x h
theorem size_ev {l : List S42} (h : bk42s l ≤ 1099511627776) : Evt (fun k => term_Size.f k l) (((flat l).length : Int), dpL 0 l) := by
  have := flat_len l; refine (Evt.map (g := fun d => (wrap64 ((flat l).length : Int), d)) (depth_ev _ l (Nat.le_refl _) h)).eq ?_; rw [wrap64_id (by omega) (by omega)]
def isLet (b : UInt8) : Bool := (97 ≤ b && b ≤ 122) || (65 ≤ b && b ≤ 90)
def isDig (b : UInt8) : Bool := 48 ≤ b && b ≤ 57
def isInn (b : UInt8) : Bool := isLet b || isDig b || b == 45 || b == 95
def isPut (b : UInt8) : Bool := !(b < 32) && !(126 < b)
theorem byte_all (P : UInt8 → Prop) (h : ∀ n : Fin 256, P (UInt8.ofNat n.val)) (b : UInt8) : P b := by
  have := h ⟨b.toNat, b.toNat_lt⟩
  simpa using this
theorem class_ev (b : UInt8) : Evt (fun k => term_classOf.f k (b.toNat : Int)) (if isLet b then 5 else if isDig b then 6 else if isInn b then 4 else if b = 32 ∨ b = 9 ∨ b = 10 ∨ b = 13 then 8 else 0) := by
  refine Evt.of (k := 8) (term_classOf.mono _) ?_
  revert b
  refine byte_all _ ?_
  decide +kernel
theorem is_ev (b : UInt8) (m : Int) (hm : m = 1 ∨ m = 2 ∨ m = 3 ∨ m = 4) : Evt (fun k => term_is.f k (b.toNat : Int) m) (if m = 1 then isLet b else if m = 2 then isDig b else if m = 3 then isLet b || isDig b else isInn b) := by
  refine Evt.of (k := 8) (term_is.mono _ _) ?_
  revert b
  refine byte_all _ ?_
  rcases hm with rfl | rfl | rfl | rfl <;> decide +kernel
def setOf (m : Int) (b : UInt8) : Bool := if m = 1 then isLet b else if m = 2 then isDig b else if m = 3 then isLet b || isDig b else isInn b
theorem every_loop {s : ByteArray} (hb : s.size ≤ 1099511627776) {m : Int} (hm : m = 1 ∨ m = 2 ∨ m = 3 ∨ m = 4) : ∀ (r : List UInt8) (n : Nat), s.data.toList.drop n = r →
    Evt (fun k => term_every.l0 k s m (s.size : Int) (n : Int)) (r.all (setOf m))
  | [], n, h => by
    refine Evt.succ ?_; simp only [term_every.l0, if_neg (size_stop h), List.all_nil]; exact Evt.const _
  | b :: r, n, h => by
    obtain ⟨h1, h2, h3, h4, h5⟩ := size_mid h hb; refine Evt.succ ?_; simp only [term_every.l0, if_pos h1, if_pos h2, h3, h5]; refine Evt.bind (is_ev b m hm) ?_; rw [List.all_cons]
    by_cases c : setOf m b = true
    · rw [c, Bool.true_and]; simp only [show (if m = 1 then isLet b else if m = 2 then isDig b else if m = 3 then isLet b || isDig b else isInn b) = true from c, if_true]; exact every_loop hb hm r (n + 1) h4
    · rw [Bool.eq_false_iff.2 c, Bool.false_and]; simp only [show (if m = 1 then isLet b else if m = 2 then isDig b else if m = 3 then isLet b || isDig b else isInn b) = false from Bool.eq_false_iff.2 c, Bool.false_eq_true, if_false]; exact Evt.const _
theorem every_ev {s : ByteArray} (hb : s.size ≤ 1099511627776) {m : Int} (hm : m = 1 ∨ m = 2 ∨ m = 3 ∨ m = 4) : Evt (fun k => term_every.f k s m) (s.data.toList.all (setOf m)) :=
  every_loop hb hm _ 0 rfl
theorem nil_iff (s : ByteArray) : s.toList = ([] : List UInt8) ↔ s.data.toList = [] := by rw [toList_data]
def nameS (n : Int) (l : List UInt8) : Bool := match l with
  | [] => false
  | b :: _ => decide ((l.length : Int) ≤ n) && isLet b && l.all isInn
theorem all_congr' {l : List UInt8} {p q : UInt8 → Bool} (h : ∀ b, p b = q b) : l.all p = l.all q := by rw [show p = q from funext h]
theorem ident_ev {s : ByteArray} (hb : s.size ≤ 1099511627776) (n : Int) : Evt (fun k => term_identifier.f k s n) (nameS n s.data.toList) := by
  simp only [term_identifier.f, nil_iff]
  rcases hs : s.data.toList with _ | ⟨b, r⟩
  · simp only [if_true, nameS]; exact Evt.const _
  · have hl : s.size = r.length + 1 := by rw [size_len, hs]; rfl
    simp only [reduceCtorEq, if_false, nameS]
    by_cases c : (s.size : Int) ≤ n
    · have c' : (((b :: r).length : Nat) : Int) ≤ n := by simp only [List.length_cons]; omega
      simp only [if_pos c, if_pos (show (0 : Int) < s.size by omega), decide_eq_true c', Bool.true_and]; rw [show bt s 0 = (b.toNat : Int) from bt_mid (n := 0) (by simpa using hs)]; refine Evt.bind (is_ev b 1 (.inl rfl)) ?_; simp only [if_true]
      by_cases c1 : isLet b = true
      · simp only [c1, if_true, Bool.true_and]; refine (Evt.bind (every_ev hb (.inr (.inr (.inr rfl)))) (Evt.const _)).eq ?_; rw [hs]
        exact all_congr' fun b => by simp [setOf]
      · simp only [Bool.eq_false_iff.2 c1, Bool.false_eq_true, if_false, Bool.false_and]; exact Evt.const _
    · have c' : ¬ (((b :: r).length : Nat) : Int) ≤ n := by simp only [List.length_cons]; omega
      simp only [if_neg c, decide_eq_false c', Bool.false_and]; exact Evt.const _
def varS (l : List UInt8) : Bool := decide (l ≠ []) && decide ((l.length : Int) ≤ 40) && l.all fun b => isLet b || isDig b
def wordS (l : List UInt8) : Bool := decide (l ≠ []) && decide ((l.length : Int) ≤ 60) && l.all isPut
theorem extract_list (s : ByteArray) (i j : Nat) : (s.extract i j).data.toList = (s.data.toList.drop i).take (j - i) := by
  rw [ByteArray.data_extract, Array.toList_extract]
def cutS : List UInt8 → List UInt8 × Bool
  | [] => ([], false)
  | b :: r => if b = 45 then (r, true) else (b :: r, false)
def coreS (l : List UInt8) (neg : Bool) : Bool := decide (l ≠ []) && decide ((l.length : Int) ≤ 500) && l.all isDig && (decide (l.head? ≠ some 48) || (decide (l.length = 1) && !neg))
def numS (l : List UInt8) : Bool := coreS (cutS l).1 (cutS l).2
theorem cut_eq (s : ByteArray) : ∃ t, strings_CutPrefix.f s (⟨#[45]⟩ : ByteArray) = some (t, (cutS s.data.toList).2) ∧ t.data.toList = (cutS s.data.toList).1 ∧ t.size ≤ s.size := by
  have h1 : (⟨#[45]⟩ : ByteArray).size = 1 := rfl
  have h2 : (⟨#[45]⟩ : ByteArray).toList = [45] := by rw [toList_data]
  unfold strings_CutPrefix.f stringslite_CutPrefix.f stringslite_HasPrefix.f; simp only [h1, h2]
  rcases hs : s.data.toList with _ | ⟨b, r⟩
  · have hz : s.size = 0 := by rw [size_len, hs]; rfl
    rw [hz]; refine ⟨s, ?_, hs, by omega⟩; simp [cutS]
  · have hl : s.size = r.length + 1 := by rw [size_len, hs]; rfl
    rw [if_pos (show (s.size : Int) ≥ ((1 : Nat) : Int) by omega), if_pos (by decide), if_pos (show ((1 : Nat) : Int) ≤ (s.size : Int) by omega)]
    have he : (s.extract 0 (((1 : Nat) : Int) : Int).toNat).toList = [b] := by rw [toList_data, extract_list, hs]; rfl
    simp only [he, Option.bind_some]
    by_cases c : b = 45
    · subst c; rw [if_pos (by decide), if_pos (show ((1 : Nat) : Int) ≤ (s.size : Int) by omega), if_pos (by decide)]; refine ⟨s.extract (((1 : Nat) : Int) : Int).toNat s.size, ?_, ?_, ?_⟩
      · simp only [Option.bind_some, cutS, if_true]
      · rw [extract_list, hs]; simp [cutS, hl]
      · have e : (s.extract (((1 : Nat) : Int) : Int).toNat s.size).data.toList.length = r.length := by rw [extract_list, hs]; simp [hl]
        rw [size_len, e]; omega
    · rw [if_neg (by simp [c])]; refine ⟨s, ?_, ?_, Nat.le_refl _⟩
      · simp only [Option.bind_some, cutS, if_neg c]
      · simp [hs, cutS, c]
theorem num_ev {s : ByteArray} (hb : s.size ≤ 1099511627776) : Evt (fun k => term_isNumber.f k s) (numS s.data.toList) := by
  obtain ⟨t, h1, h2, h3⟩ := cut_eq s; simp only [term_isNumber.f, h1, Option.bind_some, nil_iff, numS]; rw [← h2]
  generalize (cutS s.data.toList).2 = neg
  rcases ht : t.data.toList with _ | ⟨b, r⟩
  · simp only [if_true]; exact (Evt.const _).eq (by simp [coreS])
  · have hl : t.size = r.length + 1 := by rw [size_len, ht]; rfl
    simp only [reduceCtorEq, if_false]
    by_cases c : (t.size : Int) > 500
    · simp only [if_pos c]; refine (Evt.const _).eq ?_
      have : ¬ (((b :: r).length : Nat) : Int) ≤ 500 := by simp only [List.length_cons]; omega
      simp only [coreS, decide_eq_false this, Bool.and_false, Bool.false_and]
    · simp only [if_neg c]
      have hc : (((b :: r).length : Nat) : Int) ≤ 500 := by simp only [List.length_cons]; omega
      have hev := every_ev (s := t) (by omega) (m := 2) (.inr (.inl rfl)); rw [ht, all_congr' (q := isDig) (fun b => by simp [setOf])] at hev; refine Evt.bind hev ?_; have hbt : bt t 0 = (b.toNat : Int) := bt_mid (n := 0) (by simpa using ht); simp only [coreS, decide_eq_true hc, ne_eq, reduceCtorEq, not_false_eq_true, decide_true, Bool.true_and, hbt, if_pos (show (0 : Int) < t.size by omega)]
      by_cases ca : (b :: r).all isDig = true
      · simp only [ca, if_true, Bool.true_and, List.head?_cons, Option.some.injEq]
        by_cases cb : (b.toNat : Int) = 48
        · have cb' : b = 48 := by
            have : b.toNat = 48 := by omega
            exact UInt8.toNat_inj.1 this
          simp only [if_pos cb, cb', not_true_eq_false, decide_false, Bool.false_or]
          by_cases cr : (t.size : Int) = 1
          · have : (b :: r).length = 1 := by simp only [List.length_cons]; omega
            simp only [if_pos cr]; exact (Evt.const _).eq (by rw [← cb', decide_eq_true this]; simp)
          · have : ¬ (b :: r).length = 1 := by simp only [List.length_cons]; omega
            simp only [if_neg cr]; exact (Evt.const _).eq (by rw [← cb', decide_eq_false this]; simp)
        · have cb' : ¬ b = 48 := by rintro rfl; exact cb rfl
          simp only [if_neg cb]; exact (Evt.const _).eq (by simp [cb'])
      · simp only [Bool.eq_false_iff.2 ca, Bool.false_eq_true, if_false, Bool.false_and]; exact Evt.const _
def rightS (x : S42) : Bool :=
  if x.f0 = 4 then decide (x.f1.data.toList = [])
  else if x.f0 = 8 then nameS 40 x.f1.data.toList
  else if 0 < x.f2.length then false
  else if x.f0 = 1 then decide (x.f1.data.toList.length = 1)
  else if x.f0 = 2 then wordS x.f1.data.toList
  else if x.f0 = 3 then numS x.f1.data.toList
  else if x.f0 = 5 ∨ x.f0 = 6 ∨ x.f0 = 7 then varS x.f1.data.toList
  else false
theorem beq_nil (s : ByteArray) : (s.toList == ([] : List UInt8)) = decide (s.data.toList = []) := by
  rw [toList_data]; cases s.data.toList <;> rfl
theorem size_one (s : ByteArray) : ((s.size : Int) == 1) = decide (s.data.toList.length = 1) := by
  rw [size_len]
  by_cases c : s.data.toList.length = 1
  · rw [c]; rfl
  · rw [decide_eq_false c]; exact beq_eq_false_iff_ne.2 (by omega)
theorem size_len_i (s : ByteArray) : (s.size : Int) = (s.data.toList.length : Int) := by rw [size_len]
theorem right_ev {x : S42} (hb : x.f1.size ≤ 1099511627776) : Evt (fun k => term_right.f k x.f0 x.f1 x.f2) (rightS x) := by
  have hv : Evt (fun k => if x.f1.toList = ([] : List UInt8) then some false else if (x.f1.size : Int) ≤ 40 then (term_every.f k x.f1 3).bind fun t => some t else some false) (varS x.f1.data.toList) := by
    refine (Evt.ite (fun _ => Evt.const _) (fun _ => Evt.ite (fun _ => Evt.bind (every_ev hb (.inr (.inr (.inl rfl)))) (Evt.const _)) (fun _ => Evt.const _))).eq ?_; simp only [nil_iff, size_len_i, varS]; rw [all_congr' (q := fun b => isLet b || isDig b) (fun b => by simp [setOf])]
    generalize x.f1.data.toList = L
    by_cases c : L = []
    · simp [c]
    · by_cases c2 : (L.length : Int) ≤ 40
      · simp [c, c2]
      · simp [c, c2]
  simp only [term_right.f, rightS]
  by_cases c4 : x.f0 = 4
  · simp only [if_pos c4]; exact (Evt.const _).eq (beq_nil _)
  simp only [if_neg c4]
  by_cases c8 : x.f0 = 8
  · simp only [if_pos c8]; exact Evt.bind (ident_ev hb 40) (Evt.const _)
  simp only [if_neg c8]
  by_cases cl : 0 < x.f2.length
  · simp only [if_pos cl, if_pos (show (x.f2.length : Int) > 0 by omega)]; exact Evt.const _
  simp only [if_neg cl, if_neg (show ¬ (x.f2.length : Int) > 0 by omega)]
  by_cases c1 : x.f0 = 1
  · simp only [if_pos c1]; exact (Evt.const _).eq (size_one _)
  simp only [if_neg c1]
  by_cases c2 : x.f0 = 2
  · simp only [if_pos c2]; refine (Evt.ite (fun _ => Evt.const _) (fun _ => Evt.ite (fun _ => Evt.const _) (fun _ => Evt.const _)) : Evt (fun k => if x.f1.toList = ([] : List UInt8) then some false else if (x.f1.size : Int) ≤ 60 then some (!(x.f1.data.toList.any fun b => b < 32 || b > 126)) else some false) _).eq ?_; simp only [nil_iff, size_len_i, wordS]
    have ha : (!(x.f1.data.toList.any fun b => b < 32 || b > 126)) = x.f1.data.toList.all isPut := by
      rw [List.not_any_eq_all_not]
      exact all_congr' fun b => by simp only [isPut, Bool.not_or, gt_iff_lt]
    rw [ha]
    generalize x.f1.data.toList = L
    by_cases c : L = []
    · simp [c]
    · by_cases c2 : (L.length : Int) ≤ 60
      · simp [c, c2]
      · simp [c, c2]
  simp only [if_neg c2]
  by_cases c3 : x.f0 = 3
  · simp only [if_pos c3]; exact Evt.bind (num_ev hb) (Evt.const _)
  simp only [if_neg c3]
  by_cases c5 : x.f0 = 5
  · simp only [if_pos c5, c5, true_or, if_true]; exact hv
  simp only [if_neg c5, c5, false_or]
  by_cases c6 : x.f0 = 6
  · simp only [if_pos c6, c6, true_or, if_true]; exact hv
  simp only [if_neg c6, c6, false_or]
  by_cases c7 : x.f0 = 7
  · simp only [if_pos c7]; exact hv
  simp only [if_neg c7]; exact Evt.const _
def fineS (m : Int) (x : S42) : Bool := !decide (m < x.f0) && rightS x
def checkS (m : Int) (l : List S42) : Int := if 4000 < (flat l).length then 5 else if 100 < dpL 0 l then 6 else if (flat l).all (fineS m) then 0 else 2
theorem fineAll_ev (m : Int) : ∀ (l : List S42), (∀ x ∈ l, x.f1.size ≤ 1099511627776) → Evt (fun k => fineAll k m l) (l.all (fineS m))
  | [], _ => Evt.const _
  | x :: r, h => by
    simp only [fineAll, List.all_cons]; refine Evt.bind (a := fineS m x) ?_ ?_
    · simp only [fineT]; exact Evt.map (g := fun b => !decide (m < x.f0) && b) (right_ev (h x List.mem_cons_self))
    · exact Evt.bind (fineAll_ev m r fun y hy => h y (List.mem_cons_of_mem _ hy)) (Evt.const _)
theorem check_ev {l : List S42} (h : bk42s l ≤ 1099511627776) (m : Int) : Evt (fun k => term_check.f k l m) (checkS m l) := by
  simp only [term_check.f, checkS]
  refine Evt.ite (fun _ => Evt.const _) fun _ => ?_
  refine Evt.bind (depth_ev _ l (Nat.le_refl _) h) ?_
  refine Evt.ite (fun _ => Evt.const _) fun _ => ?_
  refine Evt.bind (fineAll_ev m (flat l) fun x hx => by have := flat_bk hx; omega) ?_; exact (Evt.const _)
theorem Result_ev {l : List S42} (h : bk42s l ≤ 1099511627776) : Evt (fun k => term_Result.f k l) (checkS 8 l) := Evt.bind (check_ev h 8) (Evt.const _)
end Go.Proofs.Ytjhjhhibbmligaa.TE
end
section
namespace Go.Proofs.Ytjhjhhibbmligaa.TE
open Go.RowKit Go.Shelf Go.Proofs.YtjhjhhibbmligaaW.PrintWords Go.Proofs.YtjhjhhibbmligaaW.PrintLast Go.Proofs.YtjhjhhibbmligaaW.PrintMore Go.Proofs.Ytjhjhhibbmligaa.Evs
set_option linter.unusedVariables false
set_option linter.unusedSimpArgs false
def Pz (W : World) (g : Nat) (s : ByteArray) (at_ fault : Int) (vl vs : Value) : Prop := W.heap[g]? = some (.cells #[.string s, .int .i64 at_, .int .i64 fault, vl, vs] 142 (0, 0))
theorem Pz.cells {W : World} {g : Nat} {s : ByteArray} {at_ fault : Int} {vl vs : Value} (h : Pz W g s at_ fault vl vs) : W.cell? ⟨g, 0, none⟩ = some (.string s) ∧ W.cell? ⟨g, 1, none⟩ = some (.int .i64 at_) ∧ W.cell? ⟨g, 2, none⟩ = some (.int .i64 fault) ∧ W.cell? ⟨g, 3, none⟩ = some vl ∧ W.cell? ⟨g, 4, none⟩ = some vs :=
  ⟨(q4 h 0).trans rfl, (q4 h 1).trans rfl, (q4 h 2).trans rfl, (q4 h 3).trans rfl, (q4 h 4).trans rfl⟩
theorem Pz.fz {W : World} {g : Nat} {s : ByteArray} {at_ fault : Int} {vl vs : Value} (h : Pz W g s at_ fault vl vs) (i : Nat) : W.frozen? ⟨g, i, none⟩ = false := q11 h i
theorem Pz.setAt {W : World} {g : Nat} {s : ByteArray} {at_ fault : Int} {vl vs : Value} (h : Pz W g s at_ fault vl vs) (x : Int) : Pz (W.setCell ⟨g, 1, none⟩ (.int .i64 x)) g s x fault vl vs := by
  have := q21 h 1 (.int .i64 x); simpa [Pz] using this
theorem Pz.setFault {W : World} {g : Nat} {s : ByteArray} {at_ fault : Int} {vl vs : Value} (h : Pz W g s at_ fault vl vs) (x : Int) : Pz (W.setCell ⟨g, 2, none⟩ (.int .i64 x)) g s at_ x vl vs := by
  have := q21 h 2 (.int .i64 x); simpa [Pz] using this
theorem Pz.setList {W : World} {g : Nat} {s : ByteArray} {at_ fault : Int} {vl vs : Value} (h : Pz W g s at_ fault vl vs) (x : Value) : Pz (W.setCell ⟨g, 3, none⟩ x) g s at_ fault x vs := by
  have := q21 h 3 x; simpa [Pz] using this
theorem Pz.setStack {W : World} {g : Nat} {s : ByteArray} {at_ fault : Int} {vl vs : Value} (h : Pz W g s at_ fault vl vs) (x : Value) : Pz (W.setCell ⟨g, 4, none⟩ x) g s at_ fault vl x := by
  have := q21 h 4 x; simpa [Pz] using this
theorem Pz.grown {W W' : World} {g : Nat} {s : ByteArray} {at_ fault : Int} {vl vs : Value} {row : Option Nat} (h : Pz W g s at_ fault vl vs) (hg : W.grownBy W' row) (hne : some g ≠ row) : Pz W' g s at_ fault vl vs := (hg.block g (Array.getElem?_eq_some_iff.1 h).1 hne).trans h
theorem Pz.drewN {W : World} {g n : Nat} {s : ByteArray} {at_ fault : Int} {vl vs : Value} (h : Pz W g s at_ fault vl vs) : Pz (W.drewN n) g s at_ fault vl vs := h
theorem grown_drewN {W W' : World} {row : Option Nat} {n : Nat} (h : W.grownBy W' row) : W.grownBy (W'.drewN n) row := ⟨h.os, h.tape, h.output, h.size, h.block⟩
def failF (fault at_ : Int) : Int := if fault < 0 then at_ else fault
set_option maxRecDepth 100000 in
set_option maxHeartbeats 4000000 in
theorem fail.calls (g : Nat) (s : ByteArray) (at_ fault x : Int) (vl vs : Value) (W : World) (h : Pz W g s at_ fault vl vs) :
    Calls Try.prog 165 #[.pointer (some ⟨g, 0, none⟩), .int .i64 x] W fun e W' => e = .returned (.bool false) ∧ Pz W' g s at_ (failF fault x) vl vs ∧ W.grownBy W' (some g) := by
  obtain ⟨c0, c1, c2, c3, c4⟩ := h.cells; have f2 := h.fz 2; have H := Aside0.mk h; clear h
  by_cases hf : fault < 0
  · have e1 : decide (fault < 0) = true := decide_eq_true hf; have hr : failF fault x = x := if_pos hf; have HR := Aside0.mk hr; clear hf hr
    go_enter Try.func165, Try.ntmps165
    go_wp2_with fail
    go_ret; exact ⟨rfl, by rw [HR.out]; exact H.out.setFault x, grown_set _ _ _ _⟩
  · have e1 : decide (fault < 0) = false := decide_eq_false hf; have hr : failF fault x = fault := if_neg hf; have HR := Aside0.mk hr; clear hf hr
    go_enter Try.func165, Try.ntmps165
    go_wp2_with fail
    go_ret; exact ⟨rfl, by rw [HR.out]; exact H.out, World.grownBy.refl _ _⟩
def clsOf (b : UInt8) : Int := if isLet b then 5 else if isDig b then 6 else if isInn b then 4 else if b = 32 ∨ b = 9 ∨ b = 10 ∨ b = 13 then 8 else 0
def clsB (m : Int) (b : UInt8) : Bool := (Go.bits .and .u8 (clsOf b) m) != 0
theorem is_any (b : UInt8) (m : Int) : Evt (fun k => term_is.f k (b.toNat : Int) m) (clsB m b) := by
  have h := class_ev b; unfold term_is.f; exact h.bind (Evt.const _)
theorem is_calls (b : UInt8) (m : Int) (w : World) : Calls Try.prog 156 #[.int .u8 (b.toNat : Int), .int .u8 m] w fun e w' => e = .returned (.bool (clsB m b)) ∧ ∃ n, w' = w.drewN n := by
  obtain ⟨k, hk⟩ := (is_any b m).get; refine (term_is.calls k _ m _ w hk).mono ?_; rintro e w' ⟨rfl, hd⟩; exact ⟨rfl, hd.out⟩
end Go.Proofs.Ytjhjhhibbmligaa.TE
namespace Go.Proofs.Ytjhjhhibbmligaa.TE
open Go.RowKit Go.Shelf Go.Proofs.YtjhjhhibbmligaaW.PrintWords Go.Proofs.YtjhjhhibbmligaaW.PrintLast Go.Proofs.YtjhjhhibbmligaaW.PrintMore Go.Proofs.Ytjhjhhibbmligaa.Evs
set_option linter.unusedVariables false
set_option linter.unusedSimpArgs false
def onB (s : ByteArray) (a : Nat) : Bool := if h : a < s.size then clsB 4 (s[a]'h) || decide ((s[a]'h) = 46) else false
set_option maxRecDepth 100000 in
set_option maxHeartbeats 4000000 in
theorem apart.calls (g : Nat) (s : ByteArray) (a : Nat) (fault : Int) (vl vs : Value) (W : World) (h : Pz W g s a fault vl vs) (hs : s.size ≤ 1099511627776) :
    Calls Try.prog 161 #[.pointer (some ⟨g, 0, none⟩)] W fun e W' => e = .returned (.bool (!(onB s a))) ∧ Pz W' g s a (if onB s a = true then failF fault a else fault) vl vs ∧ W.grownBy W' (some g) := by
  obtain ⟨c0, c1, c2, c3, c4⟩ := h.cells; have H := Aside0.mk h; have ha0 : (0 : Int) ≤ (a : Int) := Int.natCast_nonneg _; clear h
  by_cases hlt : a < s.size
  · have e1 : decide ((a : Int) < (s.size : Int)) = true := decide_eq_true (by omega)
    have ha1 : (a : Int) < (s.size : Int) := by omega
    obtain ⟨b, hb⟩ : ∃ b, b = s[a]'hlt := ⟨_, rfl⟩
    have hon : onB s a = (clsB 4 b || decide (b = 46)) := by unfold onB; rw [dif_pos hlt, hb]
    have hbt : ((s[a]'hlt).toNat : Int) = (b.toNat : Int) := by rw [hb]
    obtain ⟨q, hq⟩ : ∃ q, q = clsB 4 b := ⟨_, rfl⟩
    have hcall := fun w => is_calls b 4 w
    rw [← hq] at hcall hon; have HON := Aside0.mk hon; have HCALL := Aside0.mk hcall
    have h46 : ((b.toNat : Int) == 46) = decide (b = 46) := by
      rcases Decidable.em (b = 46) with h | h
      · rw [h]; rfl
      · have : b.toNat ≠ 46 := fun e => h (UInt8.toNat_inj.1 e)
        rw [decide_eq_false h]; simp; omega
    obtain ⟨d, hd⟩ : ∃ d, d = decide (b = 46) := ⟨_, rfl⟩; rw [← hd] at h46; have HD := Aside0.mk hd; clear hon hcall hq hb hd
    cases q with
    | true =>
      have hr : onB s a = true := by rw [HON.out]; simp
      rw [hr]; have HR := Aside0.mk hr; clear hr
      go_enter Try.func161, Try.ntmps161
      go_wp2_with fail
      go_quiet (first | (go_at_call 156; exact Calls.quiet_of (HCALL.out _)))
      go_wp2_with (first | (go_at_call 165; refine (fail.calls g s a fault a vl vs _ H.out.drewN).mono ?_; rintro e w' ⟨rfl, hp, hg⟩; have HP := Aside0.mk hp; have HG := Aside0.mk ((grown_drewN (n := nq) (World.grownBy.refl W (some g))).trans hg); clear hp hg) | fail)
      go_ret; exact ⟨rfl, HP.out, HG.out⟩
    | false =>
      cases d with
      | true =>
        have hr : onB s a = true := by rw [HON.out, ← HD.out]; rfl
        rw [hr]; clear hr
        go_enter Try.func161, Try.ntmps161
        go_wp2_with fail
        go_quiet (first | (go_at_call 156; exact Calls.quiet_of (HCALL.out _)))
        go_wp2_with (first | (go_at_call 165; refine (fail.calls g s a fault a vl vs _ H.out.drewN).mono ?_; rintro e w' ⟨rfl, hp, hg⟩; have HP := Aside0.mk hp; have HG := Aside0.mk ((grown_drewN (n := nq) (World.grownBy.refl W (some g))).trans hg); clear hp hg) | fail)
        go_ret; exact ⟨rfl, HP.out, HG.out⟩
      | false =>
        have hr : onB s a = false := by rw [HON.out, ← HD.out]; rfl
        rw [hr]; clear hr
        go_enter Try.func161, Try.ntmps161
        go_wp2_with fail
        go_quiet (first | (go_at_call 156; exact Calls.quiet_of (HCALL.out _)))
        go_wp2_with fail
        go_ret; exact ⟨rfl, H.out.drewN, grown_drewN (World.grownBy.refl _ _)⟩
  · have e1 : decide ((a : Int) < (s.size : Int)) = false := decide_eq_false (by omega); have e1' : decide (a < s.size) = false := decide_eq_false hlt
    have e1'' : ((a : Int) < (s.size : Int)) = False := by simp; omega
    have hr : onB s a = false := by unfold onB; rw [dif_neg hlt]
    rw [hr]; clear hr hlt
    go_enter Try.func161, Try.ntmps161
    go_wp2_with fail
    refine wp_region_quiet_lit (by kernel_rfl) (by kernel_rfl) ?_
    repeat (first
      | go_big_quiet_skip
      | (go_big_quiet_want; go_big_quiet_op; go_big_quiet_on)
      | (refine BigFrame.wpQuiet_skip (by first | rfl | kernel_rfl | (simp [Region.wanted, yielded]; done)) ?_; simp only [Act.put, List.setIfInBounds_toArray, List.set_cons_zero, List.set_cons_succ]))
    refine wpQuiet_nil ?_; rintro _ ⟨nq, rfl⟩
    go_wp2_with fail
    go_ret; exact ⟨rfl, H.out.drewN, grown_drewN (World.grownBy.refl _ _)⟩
def endF (m : Int) (s : ByteArray) (a : Nat) : Nat := a + ((s.data.toList.drop a).takeWhile (clsB m)).length
theorem endF_stop (m : Int) (s : ByteArray) (a : Nat) (h : ¬ a < s.size) : endF m s a = a := by
  unfold endF; rw [List.drop_of_length_le (by rw [← size_len]; omega)]; simp
theorem endF_step (m : Int) (s : ByteArray) (a : Nat) (h : a < s.size) : endF m s a = if clsB m (s[a]'h) = true then endF m s (a + 1) else a := by
  have hl : a < s.data.toList.length := by rw [← size_len]; exact h
  have he : s.data.toList[a]'hl = s[a]'h := by simp; rfl
  unfold endF; rw [List.drop_eq_getElem_cons hl, he, List.takeWhile_cons]
  split
  · rw [List.length_cons]; omega
  · simp
theorem endF_ge (m : Int) (s : ByteArray) (a : Nat) : a ≤ endF m s a := Nat.le_add_right _ _
theorem endF_le (m : Int) (s : ByteArray) (a : Nat) (h : a ≤ s.size) : endF m s a ≤ s.size := by
  unfold endF; have h1 := (List.takeWhile_prefix (clsB m) (l := s.data.toList.drop a)).length_le; rw [List.length_drop, ← size_len] at h1
  omega
set_option maxRecDepth 100000 in
set_option maxHeartbeats 4000000 in
theorem longest.calls (g : Nat) (s : ByteArray) (a : Nat) (m : Int) (fault : Int) (vl vs : Value) (W : World) (h : Pz W g s a fault vl vs) (hs : s.size ≤ 1099511627776) (ha : a ≤ s.size) :
    Calls Try.prog 119 #[.pointer (some ⟨g, 0, none⟩), .int .u8 m] W fun e W' => e = .returned (.string (s.extract a (endF m s a))) ∧ Pz W' g s (endF m s a) fault vl vs ∧ W.grownBy W' (some g) := by
  obtain ⟨c0, c1, c2, c3, c4⟩ := h.cells; have H := Aside0.mk h; have ha0 : (0 : Int) ≤ (a : Int) := Int.natCast_nonneg _; obtain ⟨E, hE⟩ : ∃ E, E = endF m s a := ⟨_, rfl⟩; rw [← hE]
  have hEs : E ≤ s.size := by rw [hE]; exact endF_le m s a ha
  have hEa : a ≤ E := by rw [hE]; exact endF_ge m s a
  have HE := Aside0.mk hE; clear h hE
  go_enter Try.func119, Try.ntmps119
  go_wp2_with fail
  clear c0 c1 c2 c3 c4
  go_loopg [] (s.size + 1) (fun gk wr_ => ∃ q : Nat, a ≤ q ∧ q ≤ s.size ∧ s.size - q < gk ∧ Aside0 (endF m s q = E) ∧ Pz wr_ g s q fault vl vs ∧ W.grownBy wr_ (some g))
  case atStart => exact ⟨a, Nat.le_refl _, ha, by omega, ⟨HE.out.symm⟩, H.out, World.grownBy.refl _ _⟩
  case round =>
    obtain ⟨q, hqa, hqs, hgk, HQ, hP, hG⟩ := hrel; obtain ⟨g', rfl⟩ : ∃ g', gk = g' + 1 := ⟨gk - 1, by omega⟩; obtain ⟨c0, c1, c2, c3, c4⟩ := hP.cells; have f1 := hP.fz 1; have HP := Aside0.mk hP; have HG := Aside0.mk hG; clear hP hG; have hq0 : (0 : Int) ≤ (q : Int) := Int.natCast_nonneg _
    by_cases hlt : q < s.size
    · have e1 : decide ((q : Int) < (s.size : Int)) = true := decide_eq_true (by omega)
      have hq1 : (q : Int) < (s.size : Int) := by omega
      have hst := endF_step m s q hlt; obtain ⟨b, hb⟩ : ∃ b, b = s[q]'hlt := ⟨_, rfl⟩
      have hbt : ((s[q]'hlt).toNat : Int) = (b.toNat : Int) := by rw [hb]
      rw [← hb] at hst; obtain ⟨x, hx⟩ : ∃ x, x = clsB m b := ⟨_, rfl⟩
      have hcall := fun w => is_calls b m w
      rw [← hx] at hcall hst; have HST := Aside0.mk hst; have HCALL := Aside0.mk hcall; clear hst hcall hx hb
      cases x with
      | true =>
        go_wp2_with fail
        go_quiet (first | (go_at_call 156; exact Calls.quiet_of (HCALL.out _)))
        go_wp2_with fail
        go_roundg g'
        case measure => omega
        case rel => exact ⟨q + 1, by omega, by omega, by omega, ⟨by rw [← HQ.out, HST.out]; simp⟩, HP.out.drewN.setAt _, (grown_drewN HG.out).trans (grown_set _ _ _ _)⟩
      | false =>
        go_wp2_with fail
        go_quiet (first | (go_at_call 156; exact Calls.quiet_of (HCALL.out _)))
        go_wp2_with fail
        have hqe : q = E := by rw [← HQ.out]; rw [HST.out]; simp
        clear HST; subst hqe
        go_quiet (fail)
        go_wp2_with fail
        go_ret; exact ⟨by simp, (show Pz wr g s _ fault vl vs from HP.out), by have h := HG.out; exact ⟨h.os, h.tape, h.output, h.size, h.block⟩⟩
    · have e1 : decide ((q : Int) < (s.size : Int)) = false := decide_eq_false (by omega); have e1' : decide (q < s.size) = false := decide_eq_false hlt
      have hqe : q = E := by rw [← HQ.out]; exact (endF_stop m s q hlt).symm
      clear hlt; subst hqe
      go_wp2_with fail
      go_quiet (fail)
      go_wp2_with fail
      go_quiet (fail)
      go_wp2_with fail
      go_ret; exact ⟨by simp, (show Pz wr g s _ fault vl vs from HP.out), by have h := HG.out; exact ⟨h.os, h.tape, h.output, h.size, h.block⟩⟩
end Go.Proofs.Ytjhjhhibbmligaa.TE
namespace Go.Proofs.Ytjhjhhibbmligaa.TE
open Go.RowKit Go.Shelf Go.Proofs.YtjhjhhibbmligaaW.PrintWords Go.Proofs.YtjhjhhibbmligaaW.PrintLast Go.Proofs.YtjhjhhibbmligaaW.PrintMore Go.Proofs.Ytjhjhhibbmligaa.Evs
set_option linter.unusedVariables false
set_option linter.unusedSimpArgs false
structure Fr (W W' : World) (S : Nat → Prop) : Prop where
  os : W'.os = W.os
  tape : W'.tape = W.tape
  output : W'.output = W.output
  size : W.heap.size ≤ W'.heap.size
  block : ∀ k, k < W.heap.size → ¬ S k → W'.heap[k]? = W.heap[k]?
theorem Fr.refl (W : World) (S : Nat → Prop) : Fr W W S := ⟨rfl, rfl, rfl, Nat.le_refl _, fun _ _ _ => rfl⟩
theorem Fr.of_grown {W W' : World} {row : Option Nat} {S : Nat → Prop} (h : W.grownBy W' row) (hs : ∀ k, row = some k → S k) : Fr W W' S :=
  ⟨h.os, h.tape, h.output, h.size, fun k hk hn => h.block k hk (fun e => hn (hs k e.symm))⟩
theorem Fr.trans {A B C : World} {S : Nat → Prop} (h : Fr A B S) (k : Fr B C S) : Fr A C S :=
  ⟨k.os.trans h.os, k.tape.trans h.tape, k.output.trans h.output, Nat.le_trans h.size k.size, fun i hi hn => (k.block i (Nat.lt_of_lt_of_le hi h.size) hn).trans (h.block i hi hn)⟩
theorem Fr.mono {A B : World} {S T : Nat → Prop} (h : Fr A B S) (hs : ∀ k, k < A.heap.size → S k → T k) : Fr A B T := ⟨h.os, h.tape, h.output, h.size, fun k hk hn => h.block k hk (fun e => hn (hs k hk e))⟩
theorem info_term : (Try.prog.info? 42).map (fun i => (i.zero, i.size, i.bytes)) = some (some (.agg #[.int .i64 0, .string ⟨#[]⟩, .slice none 0 0]), 3, 48) := by kernel_rfl
set_option maxRecDepth 100000 in
set_option maxHeartbeats 4000000 in
theorem add0.calls (g base : Nat) (s : ByteArray) (at_ fault x : Int) (vl vs : Value) (n : Nat) (xs : List Value) (k : Int) (tx : ByteArray) (A : Option Addr) (c : Nat) (l : List Tm) (kk : Nat) (W : World) (h : Pz W g s at_ fault vl vs) (ho : W.ownsRow base 42 3 vl n xs) (hb : base ≤ g) (hn8 : n ≤ 1099511627776) (hxs : xs.length = n * 3) (hC : Kd.C k42 W A l.length l) (hc : l.length ≤ c)
    (hr : term_right.f kk k tx l = some false) :
    Calls Try.prog 159 #[.pointer (some ⟨g, 0, none⟩), .agg #[.int .i64 k, .string tx, .slice A l.length c], .int .i64 x] W fun e W' => e = .returned (.bool false) ∧ Pz W' g s at_ (failF fault x) vl vs ∧ Fr W W' (fun i => i = g) := by
  have hbl : Below W.heap.size W (W.alloc (.cells #[.int .i64 k, .string tx, .slice A l.length c] 42)) := (Below.refl _ _).alloc (Nat.le_refl _) _; have hn0 := World.alloc_heap_new W (.cells #[.int .i64 k, .string tx, .slice A l.length c] 42); obtain ⟨W0, hW0⟩ : ∃ W0, W.alloc (.cells #[.int .i64 k, .string tx, .slice A l.length c] 42) = W0 := ⟨_, rfl⟩; have HW0 := Aside0.mk hW0; rw [hW0] at hbl hn0; have x0 : W0.cell? ⟨W.heap.size, 0, none⟩ = some (.int .i64 k) := (q4 hn0 0).trans rfl; have x1 : W0.cell? ⟨W.heap.size, 1, none⟩ = some (.string tx) := (q4 hn0 1).trans rfl; have x2 : W0.cell? ⟨W.heap.size, 2, none⟩ = some (.slice A l.length c) := (q4 hn0 2).trans rfl; have hp0 : Pz W0 g s at_ fault vl vs := (hbl.block g (Array.getElem?_eq_some_iff.1 h).1).trans h; have hcall := term_right.calls kk k tx A c l false W0 (Kd.C_below hC hbl) hc hr; have HCALL := Aside0.mk hcall; have HP0 := Aside0.mk hp0; have HBL := Aside0.mk hbl; clear hcall hp0 hbl hW0 hn0 hC ho h
  go_enter Try.func159, Try.ntmps159
  go_wp2_with fail
  rw [HW0.out]; refine HCALL.out.mono ?_; rintro e w1 ⟨rfl, hb1⟩; have HP1 := Aside0.mk (show Pz w1 g s at_ fault vl vs from (hb1.block g (Array.getElem?_eq_some_iff.1 HP0.out).1).trans HP0.out); have HB1 := Aside0.mk (HBL.out.trans (hb1.mono HBL.out.size)); clear hb1
  go_wp2_with (first | (go_at_call 165; refine (fail.calls g s at_ fault x vl vs _ HP1.out).mono ?_; rintro e w' ⟨rfl, hp, hg⟩; have HP := Aside0.mk hp; have HG := Aside0.mk hg; clear hp hg) | fail)
  go_ret; exact ⟨rfl, HP.out, (Fr.mk HB1.out.os HB1.out.tape HB1.out.output HB1.out.size (fun i hi _ => HB1.out.block i hi)).trans (Fr.of_grown HG.out (fun i e => by cases e; rfl))⟩
theorem row_facts {w : World} {base b n c : Nat} {xs : List Value} {x y z : Value} (h : w.ownsRow base 42 3 (.slice (some ⟨b, 0, none⟩) (n + 1) c) (n + 1) (xs ++ [x, y, z])) (hx : xs.length = n * 3) :
    w.cell? ⟨b, n * 3, none⟩ = some x ∧ w.cell? ⟨b, n * 3 + 1, none⟩ = some y ∧ w.cell? ⟨b, n * 3 + 2, none⟩ = some z ∧ w.frozen? ⟨b, n * 3, none⟩ = false ∧ w.frozen? ⟨b, n * 3 + 1, none⟩ = false ∧ w.frozen? ⟨b, n * 3 + 2, none⟩ = false :=
  ⟨(h.cellAt _ (by omega)).trans (by rw [List.getElem?_append_right (by omega), hx, Nat.sub_self]; rfl), (h.cellAt _ (by omega)).trans (by rw [List.getElem?_append_right (by omega), hx, show n * 3 + 1 - n * 3 = 1 by omega]; rfl),
    (h.cellAt _ (by omega)).trans (by rw [List.getElem?_append_right (by omega), hx, show n * 3 + 2 - n * 3 = 2 by omega]; rfl), h.frozenAt _, h.frozenAt _, h.frozenAt _⟩
theorem own_ne {w : World} {base n : Nat} {v : Value} {xs : List Value} {g : Nat} {s : ByteArray} {at_ fault : Int} {vl vs : Value} (h : w.ownsRow base 42 3 v n xs) (hp : Pz w g s at_ fault vl vs) : some g ≠ v.ownBlock := by
  rcases h.2 with ⟨rfl, _⟩ | ⟨b, cap, cur, rfl, _, hk, _⟩
  · simp [Value.ownBlock]
  · intro e
    obtain rfl : g = b := by simpa [Value.ownBlock] using e
    rw [show w.heap[g]? = _ from hp] at hk
    injection hk with hk
    injection hk with _ h2 _
    exact absurd h2 (by decide)
theorem run_append_own2 {P : Program} (w : World) (base : Nat) (t ty e : TypeId) (i : TypeInfo) (z : Value) (size bytes : Nat) (ht : P.underlying t = some (.slice e)) (hi : P.info? e = some i) (hz : i.zero = some z)
    (hsize : i.size = size) (hby : i.bytes = bytes) (hzs : z.cells.size = size) (hsz : 0 < size)
    (v : Value) (n : Nat) (xs : List Value) (hown : w.ownsRow base e size v n xs)
    (a : Addr) (m c : Nat) (news : List Value) (hl : news.length = m * size) (hnews : ∀ j u, news[j]? = some u → w.cell? (a.add j) = some u) (h1 : ∀ u ∈ news, u.oneCell' = true)
    (h63 : n + m ≤ maxLen) (hbytes : (n + m) * bytes ≤ 140737488355328) (hbase : base ≤ w.heap.size) :
    ∃ v' w', (Builtin.append_ #[t, t] ty #[v, .slice (some a) m c]).run P w = .ok v' w' ∧ w'.ownsRow base e size v' (n + m) (xs ++ news) ∧ w.grownBy w' v.ownBlock ∧ (∀ b, v'.ownBlock = some b → v.ownBlock = some b ∨ w.heap.size ≤ b) := by
  rcases hown.2 with ⟨rfl, rfl⟩ | ⟨g, cap, cur, rfl, hbg, hg, hnc, hcm, hcs, htake⟩
  · obtain ⟨v', w', h1, h2, h3, _⟩ := run_append_own (P := P) w w.heap.size t ty e i z size bytes ht hi hz hsize hby hzs hsz _ 0 xs ⟨hown.1, .inl ⟨rfl, rfl⟩⟩ a m c news hl hnews h1 h63 hbytes (Nat.le_refl _); refine ⟨v', w', h1, ⟨h2.1, ?_⟩, h3, fun b hb => .inr ?_⟩
    · rcases h2.2 with h4 | ⟨g', cap', cur', e', hb', h5⟩
      · exact .inl h4
      · exact .inr ⟨g', cap', cur', e', Nat.le_trans hbase hb', h5⟩
    · rcases h2.2 with ⟨rfl, _⟩ | ⟨g', cap', cur', rfl, hb', _⟩
      · simp [Value.ownBlock] at hb
      · obtain rfl : g' = b := by simpa [Value.ownBlock] using hb
        exact hb'
  · by_cases hr : cap < n + m
    · obtain ⟨v', w', h1, h2, h3⟩ := run_append_arg_grows (P := P) w t ty e i z size bytes ht hi hz hsize hby hzs hsz ⟨g, 0, none⟩ n cap xs hown.1 (hown.cells (g := g) rfl) a m c news hl hnews hr h63 hbytes; refine ⟨v', w', h1, ⟨h2.1, ?_⟩, ⟨h3.os, h3.tape, h3.output, h3.size, fun k hk _ => h3.block k hk (by simp)⟩, fun b hb => .inr ?_⟩
      · rcases h2.2 with h4 | ⟨g', cap', cur', e', hb', h5⟩
        · exact .inl h4
        · exact .inr ⟨g', cap', cur', e', Nat.le_trans hbase hb', h5⟩
      · rcases h2.2 with ⟨rfl, _⟩ | ⟨g', cap', cur', rfl, hb', _⟩
        · simp [Value.ownBlock] at hb
        · obtain rfl : g' = b := by simpa [Value.ownBlock] using hb
          exact hb'
    · obtain ⟨w', h1, h2, h3⟩ := run_append_fits (P := P) w base t ty e i size ht hi hsize g n cap xs hown a m c news hl hnews h1 (by omega); exact ⟨_, w', h1, h2, h3, fun b hb => .inl hb⟩
theorem step_append_own2 {P : Program} (w : World) {ops : Array Oper} {o : Oper} {a : Act} {K : Act → World → Prop} {Q : Exit → Act → World → Prop} {E : Prop} (hgd : o.guard = none) (s x : Operand) (t : TypeId)
    (ho : o.op = .call { callee := .builtin .append, args := #[s, x], argTypes := #[t, t] })
    (base : Nat) (e : TypeId) (i : TypeInfo) (z : Value) (size bytes : Nat) (ht : P.underlying t = some (.slice e)) (hi : P.info? e = some i) (hz : i.zero = some z)
    (hsize : i.size = size) (hby : i.bytes = bytes) (hzs : z.cells.size = size) (hsz : 0 < size)
    (v : Value) (n : Nat) (xs : List Value) (hs : a.eval s = v) (hown : w.ownsRow base e size v n xs)
    (ad : Addr) (m c : Nat) (news : List Value) (hx : a.eval x = .slice (some ad) m c) (hl : news.length = m * size) (hnews : ∀ j u, news[j]? = some u → w.cell? (ad.add j) = some u) (h1 : ∀ u ∈ news, u.oneCell' = true)
    (h63 : n + m ≤ maxLen) (hbytes : (n + m) * bytes ≤ 140737488355328) (hbase : base ≤ w.heap.size)
    (h : ∀ v' w', w'.ownsRow base e size v' (n + m) (xs ++ news) → w.grownBy w' v.ownBlock → (∀ b, v'.ownBlock = some b → v.ownBlock = some b ∨ w.heap.size ≤ b) → K (a.put o.dst v') w') :
    if Region.wanted o (yielded ops a.tmps) = true then Oper.wp P o a w K Q else E := by
  have hw : Region.wanted o (yielded ops a.tmps) = true := by simp [Region.wanted, hgd]
  rw [if_pos hw]; obtain ⟨v', w', hr, h2, h3, h4⟩ := run_append_own2 (P := P) w base t o.type e i z size bytes ht hi hz hsize hby hzs hsz v n xs hown ad m c news hl hnews h1 h63 hbytes hbase; unfold Oper.wp execOp; simp only [ho, resolve, invoke, builtin, Sem.run_bind, Sem.run_pure, Result.andThen_ok, List.map_toArray, List.map_cons, List.map_nil, hs, hx, hr]; exact h v' w' h2 h3 h4
theorem row_stored {w : World} {base b n c : Nat} {xs : List Value} {x y z : Value} (x' y' z' : Value) (h : w.ownsRow base 42 3 (.slice (some ⟨b, 0, none⟩) (n + 1) c) (n + 1) (xs ++ [x, y, z])) (hx : xs.length = n * 3) :
    (((w.setCell ⟨b, n * 3, none⟩ x').setCell ⟨b, n * 3 + 1, none⟩ y').setCell ⟨b, n * 3 + 2, none⟩ z').ownsRow base 42 3 (.slice (some ⟨b, 0, none⟩) (n + 1) c) (n + 1) (xs ++ [x', y', z']) ∧
      w.grownBy (((w.setCell ⟨b, n * 3, none⟩ x').setCell ⟨b, n * 3 + 1, none⟩ y').setCell ⟨b, n * 3 + 2, none⟩ z') (some b) := by
  obtain ⟨k1, g1⟩ := h.stored (n * 3) x'; obtain ⟨k2, g2⟩ := k1.stored (n * 3 + 1) y'; obtain ⟨k3, g3⟩ := k2.stored (n * 3 + 2) z'
  have e : (((xs ++ [x, y, z]).set (n * 3) x').set (n * 3 + 1) y').set (n * 3 + 2) z' = xs ++ [x', y', z'] := by
    rw [List.set_append_right _ _ (by omega), hx, Nat.sub_self, List.set_append_right _ _ (by omega), hx, show n * 3 + 1 - n * 3 = 1 by omega, List.set_append_right _ _ (by omega), hx, show n * 3 + 2 - n * 3 = 2 by omega]; rfl
  rw [e] at k3; exact ⟨k3, (g1.trans g2).trans g3⟩
theorem own_far {w : World} {base n : Nat} {v : Value} {xs : List Value} (h : w.ownsRow base 42 3 v n xs) (g i : Nat) (u : Value) (hne : some g ≠ v.ownBlock) : (w.setCell ⟨g, i, none⟩ u).ownsRow base 42 3 v n xs := by
  obtain ⟨h1, h2⟩ := h; refine ⟨h1, ?_⟩
  rcases h2 with h2 | ⟨b, cap, cur, rfl, hb, hh, r⟩
  · exact .inl h2
  · exact .inr ⟨b, cap, cur, rfl, hb, (Below.heap_setCell w ⟨g, i, none⟩ u b (fun e => hne (by rw [show g = b from e.symm]; rfl))).trans hh, r⟩
theorem Pz.far {W : World} {g : Nat} {s : ByteArray} {at_ fault : Int} {vl vs : Value} (h : Pz W g s at_ fault vl vs) (b i : Nat) (u : Value) (hne : g ≠ b) : Pz (W.setCell ⟨b, i, none⟩ u) g s at_ fault vl vs := (Below.heap_setCell W ⟨b, i, none⟩ u g hne).trans h
theorem own_below3 {w W : World} {base n : Nat} {v : Value} {xs : List Value} (h : w.ownsRow base 42 3 v n xs) (hb : Below w.heap.size w W) : W.ownsRow base 42 3 v n xs := by
  obtain ⟨h1, h2⟩ := h; refine ⟨h1, ?_⟩
  rcases h2 with h2 | ⟨b, cap, cur, rfl, hbb, hh, r⟩
  · exact .inl h2
  · exact .inr ⟨b, cap, cur, rfl, hbb, (hb.block b (Array.getElem?_eq_some_iff.1 hh).1).trans hh, r⟩
theorem fr_step {A B C : World} {S T : Nat → Prop} {b : Nat} (h : Fr A B S) (hb : T b ∨ A.heap.size ≤ b) (g : B.grownBy C (some b)) (hs : ∀ i, S i → T i) : Fr A C T :=
  ⟨g.os.trans h.os, g.tape.trans h.tape, g.output.trans h.output, Nat.le_trans h.size g.size, fun k hk hn => (g.block k (Nat.lt_of_lt_of_le hk h.size) (fun e => by
    obtain rfl : k = b := by cases e; rfl
    rcases hb with hb | hb
    · exact hn hb
    · omega)).trans (h.block k hk (fun e => hn (hs k e)))⟩
theorem fin_fr {W w5 w6 w7 : World} {v : Value} {g b : Nat} (h : Fr W w5 (fun i => some i = v.ownBlock)) (hb : some b = v.ownBlock ∨ W.heap.size ≤ b) (g1 : w5.grownBy w6 (some b)) (g2 : w6.grownBy w7 (some g)) : Fr W w7 (fun i => i = g ∨ some i = v.ownBlock) :=
  fr_step (T := fun i => i = g ∨ some i = v.ownBlock) (fr_step (T := fun i => some i = v.ownBlock) h hb g1 (fun i e => e)) (.inl (.inl rfl)) g2 (fun i e => .inr e)
theorem fin_fr2 {W w5 w6 w7 : World} {v : Value} {g b : Nat} (h : Fr W w5 (fun i => some i = v.ownBlock)) (hb : some b = v.ownBlock ∨ W.heap.size ≤ b) (g1 : w5.grownBy w6 (some g)) (g2 : w6.grownBy w7 (some b)) : Fr W w7 (fun i => i = g ∨ some i = v.ownBlock) :=
  fr_step (T := fun i => i = g ∨ some i = v.ownBlock) (fr_step (T := fun i => i = g ∨ some i = v.ownBlock) h (.inl (.inl rfl)) g1 (fun i e => .inr e)) (hb.imp .inr id) g2 (fun i e => e)
end Go.Proofs.Ytjhjhhibbmligaa.TE
end
