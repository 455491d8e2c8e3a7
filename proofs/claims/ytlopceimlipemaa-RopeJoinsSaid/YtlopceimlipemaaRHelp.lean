/- Ropes: helpers for the laws' walks. -/
import Derived.Test.YtlopceimlipemaaROver
import Derived.Test.YtlopceimlipemaaRRow
import Derived.Test.YtlopceimlipemaaRQx1
import Derived.Deep.CutBlock
namespace Go.Proofs.Ytlopceimlipemaa.Rope
open Go.RowKit Go.Proofs.YtlopceimlipemaaW.PrintWords Go.Proofs.YtlopceimlipemaaW.PrintLast Go.Proofs.YtlopceimlipemaaW.PrintMore Go.Shelf
set_option linter.unusedVariables false
set_option linter.unusedSimpArgs false

theorem OwnFrom.or {β : Type} {B : Nat} {I I' : β → World → Prop} (h : OwnFrom B I) (h' : OwnFrom B I') : OwnFrom B (fun s W => I s W ∨ I' s W) := fun s W W' row hs hg hr => hs.elim (fun x => .inl (h s W W' row x hg hr)) (fun x => .inr (h' s W W' row x hg hr))
/-- A piece of code that ends with one mark more is said once. -/
theorem mark_cut {P : Program} {c : Code} {Q : Exit → Act → World → Prop} {a : Act} {w : World} (P' : Nat → World → Prop)
    (h1 : c.wp P (CutPost P' fun D => { a with defers := { target := .collected D, args := #[] } :: a.defers }) a w) (h2 : ∀ D w', P' D w' → Q .normal { a with defers := { target := .collected D, args := #[] } :: a.defers } w') : c.wp P Q a w :=
  Code.wp_mono (fun e b w' h => by
    cases e with
    | normal => obtain ⟨x, rfl, hx⟩ := h; exact h2 x w' hx
    | _ => exact h.elim) h1
theorem leave2 {P : Program} {fn : Func} {tmps : Array Value} {R : Ending → World → Prop} {D1 D2 : Nat} {W : World} {v : Value} (h2 : W.heap[D2]? = some (.deferred (some []))) (h1 : W.heap[D1]? = some (.deferred (some []))) (hne : D1 ≠ D2)
    (hr : (results fn tmps).run P ((W.putObj D2 (.deferred none)).putObj D1 (.deferred none)) = .ok v ((W.putObj D2 (.deferred none)).putObj D1 (.deferred none))) (h : R (.returned v) ((W.putObj D2 (.deferred none)).putObj D1 (.deferred none))) :
    LeavesInM Fence.wide 9 P fn tmps R [{ target := .collected D2, args := #[] }, { target := .collected D1, args := #[] }] .returning W :=
  ⟨by simp, .inl ⟨_, _, rfl, run_takeDeferred h2, by simp, .inl ⟨_, _, rfl, run_takeDeferred ((World.putObj_heap_other hne).trans h1), _, hr, h⟩⟩⟩
theorem prefix_snoc {α : Type} {pre L : List α} (x : α) (h : pre <+: L) (hl : pre.length < L.length) : pre ++ [x] <+: L ↔ x = L[pre.length] := by
  obtain ⟨r, rfl⟩ := h
  cases r with
  | nil => simp at hl
  | cons y r => simp [List.prefix_append_right_inj]
theorem items_next (back : Bool) (l : List Int) (T : Option (Tr Int)) (hT : listO T = l) (pre : List (Int × Int)) (x : Int × Int) (h : pre <+: itemsO_int 0 back T) (hl : pre.length < l.length) :
    ∃ (j : Nat) (v : Int), j = (if back then l.length - 1 - pre.length else pre.length) ∧ j < l.length ∧ l[j]? = some v ∧ (pre ++ [x] <+: itemsO_int 0 back T ↔ x = ((j : Int), v)) := by
  subst hT
  have hlen : (itemsO_int 0 back T).length = (listO T).length := items_len_int _ _ _
  have hp := prefix_snoc x h (by omega)
  cases back with
  | false =>
    have e := items_fwd_int 0 (listO T) pre.length hl
    refine ⟨pre.length, (listO T)[pre.length], rfl, hl, List.getElem?_eq_getElem hl, ?_⟩
    rw [hp]; simp only [itemsO_int]; rw [e]; simp
  | true =>
    have hj : (listO T).length - 1 - pre.length < (listO T).length := by omega
    have e := items_rev_int 0 (listO T) pre.length _ hl rfl hj
    refine ⟨(listO T).length - 1 - pre.length, (listO T)[(listO T).length - 1 - pre.length], by simp, hj, List.getElem?_eq_getElem hj, ?_⟩
    rw [hp]; simp only [itemsO_int]; rw [e]; simp
theorem flatMap_int (l : List Int) : l.flatMap K_int.enc = l.map (.int .i64 : Int → Value) := by
  induction l with
  | nil => rfl
  | cons x r ih => simp only [List.flatMap_cons, List.map_cons, ih]; rfl
theorem some_of_len {α : Type} : ∀ S : Option (Tr α), 1 ≤ lenO S → ∃ t, S = some t
  | none, h => by simp [lenO] at h
  | some t, _ => ⟨t, rfl⟩
/-- The first cell of a row of one's own. -/
theorem first_int {w : World} {base n : Nat} {e : TypeId} {v u : Value} {xs : List Value} (h : w.ownsRow base e 1 v n xs) (hn : 0 < n) (hu : xs[0]? = some u) :
    ∃ g p, v = .slice (some ⟨g, 0, none⟩) n p ∧ base ≤ g ∧ ∃ cur, w.heap[g]? = some (.cells cur e (0, 0)) ∧ cur[0]? = some u := by
  rcases h.2 with ⟨_, h0⟩ | ⟨g, p, cur, rfl, hb, hk, _, _, _, htake⟩
  · omega
  · refine ⟨g, p, rfl, hb, cur, hk, ?_⟩
    rw [← htake, List.getElem?_take] at hu
    split at hu
    · simpa using hu
    · cases hu

theorem sEq_l0 (l m : List Int) (hlen : l.length = m.length) (hb : l.length ≤ 4611686018427387904) : ∀ (d i k : Nat), i + d = l.length → d < k → Ytlopceimlipemaa.RQ.slices_Equal_int_int.l0 k l m (l.length : Int) (i : Int) = some (decide (l.drop i = m.drop i))
  | 0, i, k, h, hk => by
    obtain ⟨k, rfl⟩ : ∃ q, k = q + 1 := ⟨k - 1, by omega⟩
    unfold Ytlopceimlipemaa.RQ.slices_Equal_int_int.l0
    rw [if_neg (by omega), List.drop_eq_nil_of_le (by omega), List.drop_eq_nil_of_le (by omega)]
    simp
  | d + 1, i, k, h, hk => by
    obtain ⟨k, rfl⟩ : ∃ q, k = q + 1 := ⟨k - 1, by omega⟩
    have e1 : rd l (i : Int) = l[i]'(by omega) := by simp [rd, show i < l.length by omega]
    have e2 : rd m (i : Int) = m[i]'(by omega) := by simp [rd, show i < m.length by omega]
    unfold Ytlopceimlipemaa.RQ.slices_Equal_int_int.l0
    rw [if_pos (by omega), if_pos (by omega), if_pos (by omega), if_pos (by omega), e1, e2, List.drop_eq_getElem_cons (by omega : i < l.length), List.drop_eq_getElem_cons (by omega : i < m.length)]
    by_cases e : l[i]'(by omega) = m[i]'(by omega)
    · rw [if_pos e, show wrap64 ((i : Int) + 1) = ((i + 1 : Nat) : Int) by unfold wrap64; omega, sEq_l0 l m hlen hb d (i + 1) k (by omega) (by omega), e]
      congr 1; rw [decide_eq_decide, List.cons.injEq]; simp only [true_and]
    · rw [if_neg e, decide_eq_false]
      intro hh; injection hh with hh _; exact e hh
theorem sEq_f (l m : List Int) (hb : l.length ≤ 4611686018427387904) : Ytlopceimlipemaa.RQ.slices_Equal_int_int.f (l.length + 1) l m = some (decide (l = m)) := by
  unfold Ytlopceimlipemaa.RQ.slices_Equal_int_int.f
  by_cases h : l.length = m.length
  · rw [if_pos (by omega)]
    have := sEq_l0 l m h hb l.length 0 (l.length + 1) (by omega) (by omega)
    simpa using this
  · rw [if_neg (by omega)]
    have : l ≠ m := fun e => h (by rw [e])
    simp [this]
theorem sEq_int.calls (A0 : Option Addr) (c0 n : Nat) (l : List Int) (A1 : Option Addr) (c1 k : Nat) (m : List Int) (w : World) (h0 : D_int.C w A0 n l) (e0 : l.length = n) (hc0 : n ≤ c0) (h1 : D_int.C w A1 k m) (e1 : m.length = k) (hc1 : k ≤ c1) (hb : n ≤ 4611686018427387904) :
    Calls Try.prog 25 #[.slice A0 n c0, .slice A1 k c1] w fun e w' => e = .returned (.bool (decide (l = m))) ∧ Below w.heap.size w w' := by
  subst e0; subst e1
  exact (Ytlopceimlipemaa.RQ.slices_Equal_int_int.calls (l.length + 1) A0 c0 l A1 c1 m _ w h0 hc0 h1 hc1 (sEq_f l m hb)).mono fun _ _ ⟨he, hd⟩ => ⟨he, hd.below⟩

end Go.Proofs.Ytlopceimlipemaa.Rope
