import Derived.Test.YtlopceimlipemaaRHelp
import Derived.Laws.AppendOwnNone
import Derived.Deep.RegionHeld3
import Derived.Test.YtlopceimlipemaaWTab
import Derived.ProofKit
import Derived.OpenShut
import Derived.ChangeSlices
import Derived.ChangeArms
import Derived.Deep.Slices
/- Ropes: what the reference's functions on lists answer. -/
namespace Go.Proofs.Ytlopceimlipemaa.Rope
open Go.RowKit Go.Proofs.YtlopceimlipemaaW.PrintWords Go.Proofs.YtlopceimlipemaaW.PrintLast Go.Proofs.YtlopceimlipemaaW.PrintMore Go.Shelf
set_option linter.unusedVariables false
set_option linter.unusedSimpArgs false
attribute [local go_sem] max2_int min2_int max_two min_two max_three min_three max_four min_four

set_option maxRecDepth 100000 in
set_option maxHeartbeats 4000000 in
theorem within.calls (a b c : Int) (w : World) : Calls Try.prog 54 #[.int .i64 a, .int .i64 b, .int .i64 c] w fun e w' => e = .returned (.int .i64 (mn (mx a b) c)) ∧ w' = w := by
  go_enter Try.func54, Try.ntmps54
  go_wp2
  all_goals
    go_ret
    refine ⟨?_, rfl⟩
    simp only [mn, mx]
    repeat' split
    all_goals first | rfl | (exfalso; omega) | (simp; omega)
/-- An append of ints, whatever lies behind them: a row of one's own. -/
theorem append_ints {P : Program} {w : World} {ops : Array Oper} {rest : List Oper} {o : Oper} {a : Act} {Q : Exit → Act → World → Prop} (hgd : o.guard = none) (s x : Operand) (t e : TypeId)
    (ho : o.op = .call { callee := .builtin .append, args := #[s, x], argTypes := #[t, t] })
    (base : Nat) (i : TypeInfo) (ht : P.underlying t = some (.slice e)) (hi : P.info? e = some i) (hz : i.zero = some (.int .i64 0)) (hsize : i.size = 1) (hby : i.bytes = 8)
    (v : Value) (n : Nat) (xs : List Int) (hs : a.eval s = v) (hown : w.ownsRow base e 1 v n (xs.map (.int .i64)))
    (A : Option Addr) (m c : Nat) (ys : List Int) (hx : a.eval x = .slice A m c) (hC : D_int.C w A m ys) (hl : ys.length = m) (hc : A = none → c = 0) (hb : (n + m) * 8 ≤ 140737488355328) (hbase : base ≤ w.heap.size)
    (h : ∀ v' w', w'.ownsRow base e 1 v' (n + m) ((xs ++ ys).map (.int .i64)) → w.grownBy w' v.ownBlock → wpList P ops Q rest (a.put o.dst v') w') : wpList P ops Q (o :: rest) a w := by
  have hm0 : m = 0 → ys = [] := fun h0 => List.eq_nil_of_length_eq_zero (by omega)
  have hml : (140737488355328 : Nat) ≤ maxLen := by decide
  cases A with
  | none =>
    have hc' := hc rfl
    have hm : m = 0 := by
      rcases Nat.eq_zero_or_pos m with h0 | h0
      · exact h0
      · obtain ⟨ad, e1, _⟩ := C_cells_int (xs := ys) (by rw [hl]; exact hC) (by omega)
        cases e1
    have hy := hm0 hm
    subst hm; subst hc'; subst hy
    exact wpList_append_own_none hgd s x t ho base e i 1 ht (by rw [hi]) v n _ hs hown hx (h v w (by simpa using hown) (World.grownBy.refl w _))
  | some ad =>
    refine wpList_append_own w hgd s x t ho base e i (.int .i64 0) 1 8 ht hi hz hsize hby rfl (by decide) v n _ hs hown ad m c (ys.map (.int .i64)) hx (by simp [hl]) ?_ (by simp [Value.oneCell']) (by omega) hb hbase ?_
    · intro j u hj
      rcases Nat.eq_zero_or_pos m with h0 | h0
      · rw [hm0 h0] at hj; simp at hj
      · obtain ⟨ad', e1, e2⟩ := C_cells_int (xs := ys) (by rw [hl]; exact hC) (by omega)
        cases e1
        exact e2 j u (by rw [flatMap_int]; exact hj)
    · intro v' w' h1 h2 _
      exact h v' w' (by rw [List.map_append]; exact h1) h2

/-- A nil row has no room. -/
theorem own_none {w : World} {base n k c : Nat} {e : TypeId} {A : Option Addr} {xs : List Value} (h : w.ownsRow base e 1 (.slice A k c) n xs) : A = none → c = 0 := by
  rintro rfl
  rcases h.2 with ⟨e1, _⟩ | ⟨g, cap, cur, e1, _⟩
  · cases e1; rfl
  · cases e1
theorem own_base {w : World} {base n k : Nat} {e : TypeId} {v : Value} {xs : List Value} (h : w.ownsRow base e 1 v n xs) (hk : v.ownBlock = some k) : base ≤ k := by
  rcases h.2 with ⟨rfl, _⟩ | ⟨g, cap, cur, rfl, hb, _⟩
  · simp [Value.ownBlock] at hk
  · have : g = k := by simpa [Value.ownBlock] using hk
    omega
theorem own_less {w : World} {base base' n : Nat} {e : TypeId} {v : Value} {xs : List Value} (h : w.ownsRow base e 1 v n xs) (hb : base' ≤ base) : w.ownsRow base' e 1 v n xs := by
  refine ⟨h.1, ?_⟩
  rcases h.2 with h2 | ⟨g, cap, cur, h3, h4, h5⟩
  · exact .inl h2
  · exact .inr ⟨g, cap, cur, h3, Nat.le_trans hb h4, h5⟩
def partL (l : List Int) (f t : Int) : List Int := (l.take (hiB l.length f t).toNat).drop (loB l.length f).toNat
set_option maxRecDepth 100000 in
set_option maxHeartbeats 4000000 in
theorem Part19o.calls (A : Option Addr) (c n : Nat) (l : List Int) (f t : Int) (w : World) (hC : D_int.C w A n l) (hl : l.length = n) (hc : n ≤ c) (hA : A = none → c = 0) (hb : n * 8 ≤ 140737488351232) :
    Calls Try.prog 19 #[.slice A n c, .int .i64 f, .int .i64 t] w fun e w' => ∃ A' k c', e = .returned (.slice A' k c') ∧ (partL l f t).length = k ∧ k ≤ c' ∧ (A' = none → c' = 0) ∧ D_int.C w' A' k (partL l f t) ∧ Below w.heap.size w w' ∧ w'.ownsRow w.heap.size 3 1 (.slice A' k c') k ((partL l f t).map (.int .i64)) := by
  obtain ⟨i0, hi, hz0, hz1, hz2⟩ := info_parts info_int
  obtain ⟨a, ha⟩ : ∃ a : Nat, loB n f = a := ⟨(loB n f).toNat, by unfold loB mn mx; repeat' split; all_goals omega⟩
  obtain ⟨b, hb'⟩ : ∃ b : Nat, hiB n f t = b := ⟨(hiB n f t).toNat, by unfold hiB mn mx; repeat' split; all_goals omega⟩
  have hab : a ≤ b ∧ b ≤ n := by
    have h1 := ha; have h2 := hb'
    unfold loB mn mx at h1; unfold hiB mn mx at h2
    repeat' split at h1
    all_goals (repeat' split at h2)
    all_goals omega
  obtain ⟨t', ht'⟩ : ∃ t', mn (mx t 0) n = t' := ⟨_, rfl⟩
  have hbt : (b : Int) = mx t' a := by rw [← hb', ← ht', ← ha]; rfl
  have hP : partL l f t = (l.take b).drop a := by unfold partL; rw [hl, ha, hb']; rfl
  rw [hP]
  have hlen : ((l.take b).drop a).length = b - a := by rw [List.length_drop, List.length_take]; omega
  have hM : D_int.C w (if c = a then A else A.map (·.add (a * 1))) (b - a) ((l.take b).drop a) := by
    have := Kd.C_mid (lo := a) (hi := b) (c := c) (by rw [hl]; exact hC) hab.1 (by omega) (by omega)
    rwa [hlen] at this
  have hX : (if c = a then A else A.map (·.add (a * 1))) = none → c - a = 0 := by
    intro h
    split at h
    · omega
    · cases A with
      | none => have := hA rfl; omega
      | some ad => simp at h
  have hcut := cut_mid (P := Try.prog) 22 3 .i64 .i64 Try.underlying22 hi 1 hz1 A n c a b (by omega) (by omega) (by omega) (by omega)
  simp only [Int.toNat_natCast] at hcut
  obtain ⟨X, hXe⟩ : ∃ X, X = (if c = a then A else A.map (·.add (a * 1))) := ⟨_, rfl⟩
  rw [← hXe] at hM hX hcut
  have HM := Aside0.mk hM
  have HX := Aside0.mk hX
  have HA := Aside0.mk ha
  have HT := Aside0.mk ht'
  have HBT := Aside0.mk hbt
  have HLEN := Aside0.mk hlen
  have h1 := hab.1
  have h2 := hab.2
  have hb1 : Below w.heap.size w (w.alloc (.cells #[] 3)) := (Below.refl _ w).alloc (Nat.le_refl _) _
  have ho1 : (w.alloc (.cells #[] 3)).ownsRow w.heap.size 3 1 (.slice (some ⟨w.heap.size, 0, none⟩) 0 0) 0 (([] : List Int).map (.int .i64)) := ⟨rfl, .inr ⟨_, 0, _, rfl, Nat.le_refl _, heap_new w _, Nat.le_refl _, Nat.zero_le _, rfl, rfl⟩⟩
  have HO := Aside0.mk ho1
  have HB := Aside0.mk hb1
  clear hM hX ha ht' hbt hlen hab hb' hP hC hl hA hXe ho1 hb1
  have hcs : (t' < (a : Int) ∧ (b : Int) = a) ∨ (¬ t' < (a : Int) ∧ t' = (b : Int)) := by
    have := HBT.out
    unfold mx at this
    split at this <;> omega
  rcases hcs with ⟨hlt, hbe⟩ | ⟨hlt, hbe⟩
  · obtain rfl : a = b := by omega
    rw [Nat.sub_self] at HM HLEN hcut
    have HCUT := Aside0.mk hcut
    clear hcut
    go_enter Try.func19, Try.ntmps19
    go_wp2_with fail
    refine (within.calls _ _ _ _).mono ?_
    rintro e w1 ⟨rfl, rfl⟩
    rw [show mn (mx f 0) (n : Int) = (a : Int) from HA.out]
    go_wp2_with fail
    refine (within.calls _ _ _ _).mono ?_
    rintro e w1 ⟨rfl, rfl⟩
    rw [HT.out]
    have hcut' := HCUT.out
    go_wp2_with (at_builtin; refine append_ints rfl _ _ 22 3 rfl w1.heap.size i0 Try.underlying22 hi hz0 hz1 hz2 _ 0 ([] : List Int) rfl HO.out X _ _ _ rfl (Kd.C_below HM.out HB.out) HLEN.out HX.out (by omega) (by simp) ?_; intro v' w2 hown' hgrow)
    have hB2 := HB.out.grown hgrow (by simp) (fun k e => by have e2 : w1.heap.size = k := by simpa [Act.eval, Value.ownBlock] using e
                                                            omega)
    simp only [Nat.zero_add, List.nil_append] at hown'
    have HO2 := Aside0.mk hown'
    have HB2 := Aside0.mk hB2
    clear hown' hgrow hB2 hcut'
    go_ret
    obtain ⟨A', c', rfl, hc', hC'⟩ := own_C_int HO2.out HLEN.out
    exact ⟨A', _, c', rfl, HLEN.out, hc', own_none HO2.out, hC', HB2.out, HO2.out⟩
  · subst hbe
    have HCUT := Aside0.mk hcut
    clear hcut
    go_enter Try.func19, Try.ntmps19
    go_wp2_with fail
    refine (within.calls _ _ _ _).mono ?_
    rintro e w1 ⟨rfl, rfl⟩
    rw [show mn (mx f 0) (n : Int) = (a : Int) from HA.out]
    go_wp2_with fail
    refine (within.calls _ _ _ _).mono ?_
    rintro e w1 ⟨rfl, rfl⟩
    rw [HT.out]
    have hcut' := HCUT.out
    go_wp2_with (at_builtin; refine append_ints rfl _ _ 22 3 rfl w1.heap.size i0 Try.underlying22 hi hz0 hz1 hz2 _ 0 ([] : List Int) rfl HO.out X _ _ _ rfl (Kd.C_below HM.out HB.out) HLEN.out HX.out (by omega) (by simp) ?_; intro v' w2 hown' hgrow)
    have hB2 := HB.out.grown hgrow (by simp) (fun k e => by have e2 : w1.heap.size = k := by simpa [Act.eval, Value.ownBlock] using e
                                                            omega)
    simp only [Nat.zero_add, List.nil_append] at hown'
    have HO2 := Aside0.mk hown'
    have HB2 := Aside0.mk hB2
    clear hown' hgrow hB2 hcut'
    go_ret
    obtain ⟨A', c', rfl, hc', hC'⟩ := own_C_int HO2.out HLEN.out
    exact ⟨A', _, c', rfl, HLEN.out, hc', own_none HO2.out, hC', HB2.out, HO2.out⟩

theorem Part19.calls (A : Option Addr) (c n : Nat) (l : List Int) (f t : Int) (w : World) (hC : D_int.C w A n l) (hl : l.length = n) (hc : n ≤ c) (hA : A = none → c = 0) (hb : n * 8 ≤ 140737488351232) :
    Calls Try.prog 19 #[.slice A n c, .int .i64 f, .int .i64 t] w fun e w' => ∃ A' k c', e = .returned (.slice A' k c') ∧ (partL l f t).length = k ∧ k ≤ c' ∧ (A' = none → c' = 0) ∧ D_int.C w' A' k (partL l f t) ∧ Below w.heap.size w w' :=
  (Part19o.calls A c n l f t w hC hl hc hA hb).mono fun _ _ ⟨A', k, c', h1, h2, h3, h4, h5, h6, _⟩ => ⟨A', k, c', h1, h2, h3, h4, h5, h6⟩

set_option maxRecDepth 100000 in
set_option maxHeartbeats 4000000 in
theorem Join56o.calls (A : Option Addr) (c n : Nat) (l : List Int) (A2 : Option Addr) (c2 n2 : Nat) (m : List Int) (w : World) (hC : D_int.C w A n l) (hl : l.length = n) (hc : n ≤ c) (hA : A = none → c = 0) (hC2 : D_int.C w A2 n2 m) (hl2 : m.length = n2) (hc2 : n2 ≤ c2) (hA2 : A2 = none → c2 = 0) (hb : (n + n2) * 8 ≤ 140737488355328) :
    Calls Try.prog 56 #[.slice A n c, .slice A2 n2 c2] w fun e w' => ∃ A' k c', e = .returned (.slice A' k c') ∧ (l ++ m).length = k ∧ k ≤ c' ∧ (A' = none → c' = 0) ∧ D_int.C w' A' k (l ++ m) ∧ Below w.heap.size w w' ∧ w'.ownsRow w.heap.size 3 1 (.slice A' k c') k ((l ++ m).map (.int .i64)) := by
  obtain ⟨i0, hi, hz0, hz1, hz2⟩ := info_parts info_int
  have hlen : (l ++ m).length = n + n2 := by rw [List.length_append, hl, hl2]
  have hb1 : Below w.heap.size w (w.alloc (.cells #[] 3)) := (Below.refl _ w).alloc (Nat.le_refl _) _
  have ho1 : (w.alloc (.cells #[] 3)).ownsRow w.heap.size 3 1 (.slice (some ⟨w.heap.size, 0, none⟩) 0 0) 0 (([] : List Int).map (.int .i64)) := ⟨rfl, .inr ⟨_, 0, _, rfl, Nat.le_refl _, heap_new w _, Nat.le_refl _, Nat.zero_le _, rfl, rfl⟩⟩
  have HO := Aside0.mk ho1
  have HB := Aside0.mk hb1
  have HC := Aside0.mk hC
  have HC2 := Aside0.mk hC2
  have HL := Aside0.mk hl
  have HL2 := Aside0.mk hl2
  have HA := Aside0.mk hA
  have HA2 := Aside0.mk hA2
  have HLEN := Aside0.mk hlen
  clear ho1 hb1 hC hC2 hl hl2 hA hA2 hlen
  go_enter Try.func56, Try.ntmps56
  have tok1 : True := trivial
  go_wp2_with (first
    | (at_builtin; have _t := tok1; refine append_ints rfl _ _ 22 3 rfl w.heap.size i0 Try.underlying22 hi hz0 hz1 hz2 _ 0 ([] : List Int) rfl HO.out A n c l rfl (Kd.C_below HC.out HB.out) HL.out HA.out (by omega) (by simp) ?_; intro v' w2 hown' hgrow; clear tok1 _t
       have hB2 := HB.out.grown hgrow (by simp) (fun k e => by have e2 : w.heap.size = k := by simpa [Act.eval, Value.ownBlock] using e
                                                               omega); simp only [Nat.zero_add, List.nil_append] at hown'; have HO2 := Aside0.mk hown'; have HB2 := Aside0.mk hB2; clear hown' hgrow hB2)
    | (at_builtin; refine append_ints rfl _ _ 22 3 rfl w.heap.size i0 Try.underlying22 hi hz0 hz1 hz2 _ n l rfl HO2.out A2 n2 c2 m rfl (Kd.C_below HC2.out HB2.out) HL2.out HA2.out (by omega) HB2.out.size ?_; intro v3 w3 hown' hgrow
       have hB3 := HB2.out.grown hgrow HB2.out.size (fun k e => own_base HO2.out e); have HO3 := Aside0.mk hown'; have HB3 := Aside0.mk hB3; clear hown' hgrow hB3))
  go_ret
  obtain ⟨A', c', rfl, hc', hC'⟩ := own_C_int HO3.out HLEN.out
  exact ⟨A', _, c', rfl, HLEN.out, hc', own_none HO3.out, hC', HB3.out, HO3.out⟩

theorem Join56.calls (A : Option Addr) (c n : Nat) (l : List Int) (A2 : Option Addr) (c2 n2 : Nat) (m : List Int) (w : World) (hC : D_int.C w A n l) (hl : l.length = n) (hc : n ≤ c) (hA : A = none → c = 0) (hC2 : D_int.C w A2 n2 m) (hl2 : m.length = n2) (hc2 : n2 ≤ c2) (hA2 : A2 = none → c2 = 0) (hb : (n + n2) * 8 ≤ 140737488355328) :
    Calls Try.prog 56 #[.slice A n c, .slice A2 n2 c2] w fun e w' => ∃ A' k c', e = .returned (.slice A' k c') ∧ (l ++ m).length = k ∧ k ≤ c' ∧ (A' = none → c' = 0) ∧ D_int.C w' A' k (l ++ m) ∧ Below w.heap.size w w' :=
  (Join56o.calls A c n l A2 c2 n2 m w hC hl hc hA hC2 hl2 hc2 hA2 hb).mono fun _ _ ⟨A', k, c', h1, h2, h3, h4, h5, h6, _⟩ => ⟨A', k, c', h1, h2, h3, h4, h5, h6⟩

def replL (l : List Int) (f t : Int) (m : List Int) : List Int := (l.take (loB l.length f).toNat ++ m) ++ l.drop (hiB l.length f t).toNat
theorem partL_all (l : List Int) (a : Nat) (ha : a ≤ l.length) : partL l 0 a = l.take a := by
  unfold partL
  rw [show hiB l.length 0 (a : Int) = (a : Int) by unfold hiB mn mx; repeat' split; all_goals omega, show loB l.length 0 = 0 by unfold loB mn mx; repeat' split; all_goals omega]
  simp
theorem partL_drop (l : List Int) (b : Nat) (hb : b ≤ l.length) : partL l b l.length = l.drop b := by
  unfold partL
  rw [show hiB l.length (b : Int) (l.length : Int) = (l.length : Int) by unfold hiB mn mx; repeat' split; all_goals omega, show loB l.length (b : Int) = (b : Int) by unfold loB mn mx; repeat' split; all_goals omega]
  simp
set_option maxRecDepth 100000 in
set_option maxHeartbeats 4000000 in
theorem Replace21o.calls (A : Option Addr) (c n : Nat) (l : List Int) (f t : Int) (A2 : Option Addr) (c2 n2 : Nat) (m : List Int) (w : World) (hC : D_int.C w A n l) (hl : l.length = n) (hc : n ≤ c) (hA : A = none → c = 0) (hC2 : D_int.C w A2 n2 m) (hl2 : m.length = n2) (hc2 : n2 ≤ c2) (hA2 : A2 = none → c2 = 0)
    (hb : n * 8 ≤ 35184372088832) (hb2 : n2 * 8 ≤ 35184372088832) :
    Calls Try.prog 21 #[.slice A n c, .int .i64 f, .int .i64 t, .slice A2 n2 c2] w fun e w' => ∃ A' k c', e = .returned (.slice A' k c') ∧ (replL l f t m).length = k ∧ k ≤ c' ∧ (A' = none → c' = 0) ∧ D_int.C w' A' k (replL l f t m) ∧ Below w.heap.size w w' ∧ w'.ownsRow w.heap.size 3 1 (.slice A' k c') k ((replL l f t m).map (.int .i64)) := by
  obtain ⟨a, ha⟩ : ∃ a : Nat, loB n f = a := ⟨(loB n f).toNat, by unfold loB mn mx; repeat' split; all_goals omega⟩
  obtain ⟨b, hb'⟩ : ∃ b : Nat, hiB n f t = b := ⟨(hiB n f t).toNat, by unfold hiB mn mx; repeat' split; all_goals omega⟩
  have hab : a ≤ b ∧ b ≤ n := by
    have h1 := ha; have h2 := hb'
    unfold loB mn mx at h1; unfold hiB mn mx at h2
    repeat' split at h1
    all_goals (repeat' split at h2)
    all_goals omega
  obtain ⟨t', ht'⟩ : ∃ t', mn (mx t 0) n = t' := ⟨_, rfl⟩
  have hbt : (b : Int) = mx t' a := by rw [← hb', ← ht', ← ha]; rfl
  have hP : replL l f t m = (l.take a ++ m) ++ l.drop b := by unfold replL; rw [hl, ha, hb']; rfl
  rw [hP]
  have hp1 : partL l 0 a = l.take a := partL_all l a (by omega)
  have hp2 : partL l b n = l.drop b := by have := partL_drop l b (by omega); rwa [hl] at this
  have hp1l : (l.take a).length = a := by rw [List.length_take]; omega
  have HA := Aside0.mk ha
  have HT := Aside0.mk ht'
  have HP1 := Aside0.mk hp1
  have HP2 := Aside0.mk hp2
  have HP1L := Aside0.mk hp1l
  have HC := Aside0.mk hC
  have HL := Aside0.mk hl
  have HAN := Aside0.mk hA
  have HC2 := Aside0.mk hC2
  have HL2 := Aside0.mk hl2
  have HA2 := Aside0.mk hA2
  have h1 := hab.1
  have h2 := hab.2
  clear ha hb' ht' hab hP hp1 hp2 hp1l hC hl hA hC2 hl2 hA2
  have hcs : (t' < (a : Int) ∧ a = b) ∨ ((a : Int) ≤ t' ∧ t' = (b : Int)) := by
    unfold mx at hbt
    split at hbt <;> omega
  clear hbt
  rcases hcs with ⟨hlt, hbe⟩ | ⟨hlt, hbe⟩
  all_goals
    subst hbe
    go_enter Try.func21, Try.ntmps21
    go_wp2_with fail
    refine (within.calls _ _ _ _).mono ?_
    rintro e w1 ⟨rfl, rfl⟩
    rw [show mn (mx f 0) (n : Int) = (a : Int) from HA.out]
    go_wp2_with fail
    refine (within.calls _ _ _ _).mono ?_
    rintro e w1 ⟨rfl, rfl⟩
    rw [HT.out]
    go_wp2_with fail
    all_goals try (exfalso; omega)
    refine (Part19.calls A c n l 0 a _ HC.out HL.out hc HAN.out (by omega)).mono ?_
    rintro e w2 ⟨A3, k3, c3, rfl, h31, h32, h33, hC3, hb3⟩
    rw [HP1.out] at h31 hC3
    have HP3 := Aside0.mk h31
    have HC3 := Aside0.mk hC3
    have HA3 := Aside0.mk h33
    have HB3 := Aside0.mk hb3
    have h3l : k3 = a := h31.symm.trans HP1L.out
    subst h3l
    clear h31 hC3 h33 hb3
    go_wp2_with fail
    refine (Join56.calls A3 c3 _ _ A2 c2 n2 m _ HC3.out HP3.out h32 HA3.out (Kd.C_below HC2.out HB3.out) HL2.out hc2 HA2.out (by omega)).mono ?_
    rintro e w4 ⟨A4, k4, c4, rfl, h41, h42, h43, hC4, hb4⟩
    have h4l : k4 ≤ n + n2 := by rw [← h41, List.length_append, HP3.out, HL2.out]; omega
    have HP4 := Aside0.mk h41
    have HC4 := Aside0.mk hC4
    have HA4 := Aside0.mk h43
    have HB4 := Aside0.mk (below_step HB3.out hb4)
    clear h41 hC4 h43 hb4
    go_wp2_with fail
    refine (Part19.calls A c n l _ n _ (Kd.C_below HC.out HB4.out) HL.out hc HAN.out (by omega)).mono ?_
    rintro e w5 ⟨A5, k5, c5, rfl, h51, h52, h53, hC5, hb5⟩
    rw [HP2.out] at h51 hC5
    have h5l : k5 ≤ n := by rw [← h51, List.length_drop, HL.out]; omega
    have HP5 := Aside0.mk h51
    have HC5 := Aside0.mk hC5
    have HA5 := Aside0.mk h53
    have HC4' := Aside0.mk (Kd.C_below HC4.out hb5)
    have HB5 := Aside0.mk (below_step HB4.out hb5)
    clear h51 hC5 h53 hb5
    go_wp2_with fail
    refine (Join56o.calls A4 c4 _ _ A5 c5 _ _ _ HC4'.out HP4.out h42 HA4.out HC5.out HP5.out h52 HA5.out (by omega)).mono ?_
    rintro e w6 ⟨A6, k6, c6, rfl, h61, h62, h63, hC6, hb6, ho6⟩
    have ho7 := own_less ho6 HB5.out.size
    have H6 := Aside0.mk (And.intro h61 (And.intro h62 (And.intro h63 (And.intro hC6 (And.intro (below_step HB5.out hb6) ho7)))))
    clear h61 h62 h63 hC6 hb6 ho6 ho7
    go_wp2_with fail
    go_ret
    obtain ⟨g1, g2, g3, g4, g5, g6⟩ := H6.out
    exact ⟨A6, _, c6, rfl, g1, g2, g3, g4, g5, g6⟩

theorem Replace21.calls (A : Option Addr) (c n : Nat) (l : List Int) (f t : Int) (A2 : Option Addr) (c2 n2 : Nat) (m : List Int) (w : World) (hC : D_int.C w A n l) (hl : l.length = n) (hc : n ≤ c) (hA : A = none → c = 0) (hC2 : D_int.C w A2 n2 m) (hl2 : m.length = n2) (hc2 : n2 ≤ c2) (hA2 : A2 = none → c2 = 0)
    (hb : n * 8 ≤ 35184372088832) (hb2 : n2 * 8 ≤ 35184372088832) :
    Calls Try.prog 21 #[.slice A n c, .int .i64 f, .int .i64 t, .slice A2 n2 c2] w fun e w' => ∃ A' k c', e = .returned (.slice A' k c') ∧ (replL l f t m).length = k ∧ k ≤ c' ∧ (A' = none → c' = 0) ∧ D_int.C w' A' k (replL l f t m) ∧ Below w.heap.size w w' :=
  (Replace21o.calls A c n l f t A2 c2 n2 m w hC hl hc hA hC2 hl2 hc2 hA2 hb hb2).mono fun _ _ ⟨A', k, c', h1, h2, h3, h4, h5, h6, _⟩ => ⟨A', k, c', h1, h2, h3, h4, h5, h6⟩

end Go.Proofs.Ytlopceimlipemaa.Rope

/- One operation on lists, by the reference. -/
namespace Go.Proofs.Ytlopceimlipemaa.Rope
open Go.RowKit Go.Proofs.YtlopceimlipemaaW.PrintWords Go.Proofs.YtlopceimlipemaaW.PrintLast Go.Proofs.YtlopceimlipemaaW.PrintMore Go.Shelf
set_option linter.unusedVariables false
set_option linter.unusedSimpArgs false

def stepL (k : Int) (l m : List Int) (f c : Int) : List Int :=
  if k = 0 then l ++ m else if k = 1 then partL l f l.length ++ partL l 0 f else if k = 2 then partL l f c else if k = 3 then replL l f c m else if k = 4 then l else l.map (fun x => wrap64 (x + f))
theorem wrap_small2 (a : Int) (h0 : 0 ≤ a) (h1 : a < 100000) : IntKind.i64.wrap a = a := IntWalk.i64_in _ (by omega)
theorem part_le (l : List Int) (f t : Int) : (partL l f t).length ≤ l.length := by
  unfold partL; rw [List.length_drop, List.length_take]; omega
/-- What the call returns. -/
def ModelPost (A1 : Option Addr) (n1 c1 : Nat) (L : List Int) (w : World) (e : Ending) (w' : World) : Prop :=
  ∃ A' k c', e = .returned (.slice A' k c') ∧ L.length = k ∧ k ≤ c' ∧ (A' = none → c' = 0) ∧ D_int.C w' A' k L ∧ Below w.heap.size w w' ∧ ((A' = A1 ∧ k = n1 ∧ c' = c1) ∨ w'.ownsRow w.heap.size 3 1 (.slice A' k c') k (L.map (.int .i64)))
set_option maxRecDepth 100000 in
set_option maxHeartbeats 4000000 in
theorem model.calls (ad : Addr) (m c : Nat) (kind rope other f t : Int) (i j : Nat) (A1 : Option Addr) (n1 c1 : Nat) (l1 : List Int) (A2 : Option Addr) (n2 c2 : Nat) (l2 : List Int) (w : World) (hm : 1 ≤ m) (hmc : m ≤ c) (hm2 : m ≤ 1000)
    (hk0 : 0 ≤ kind) (hk1 : kind < 256) (hr0 : 0 ≤ rope) (hr1 : rope < 256) (ho0 : 0 ≤ other) (ho1 : other < 256) (hi : rope % (m : Int) = i) (hj : other % (m : Int) = j)
    (hp : w.cell? (ad.add i) = some (.slice A1 n1 c1)) (hq : w.cell? (ad.add j) = some (.slice A2 n2 c2)) (hC1 : D_int.C w A1 n1 l1) (hl1 : l1.length = n1) (hc1 : n1 ≤ c1) (hN1 : A1 = none → c1 = 0)
    (hC2 : D_int.C w A2 n2 l2) (hl2 : l2.length = n2) (hc2 : n2 ≤ c2) (hN2 : A2 = none → c2 = 0) (h1 : n1 ≤ 2000) (h2 : n2 ≤ 2000) :
    Calls Try.prog 35 #[.slice (some ad) m c, .agg #[.int .u8 kind, .int .u8 rope, .int .u8 other, .int .i64 f, .int .i64 t]] w (ModelPost A1 n1 c1 (stepL (kind % 6) l1 l2 f t) w) := by
  have k0 := heap_new w (.cells #[.int .u8 kind, .int .u8 rope, .int .u8 other, .int .i64 f, .int .i64 t] 58)
  have hbl : Below w.heap.size w (w.alloc (.cells #[.int .u8 kind, .int .u8 rope, .int .u8 other, .int .i64 f, .int .i64 t] 58)) := (Below.refl _ w).alloc (Nat.le_refl _) _
  obtain ⟨W0, hW0⟩ : ∃ W, w.alloc (.cells #[.int .u8 kind, .int .u8 rope, .int .u8 other, .int .i64 f, .int .i64 t] 58) = W := ⟨_, rfl⟩
  have HW0 := Aside0.mk hW0
  rw [hW0] at k0 hbl
  have him : i < m := by have := Int.emod_lt_of_pos rope (show (0 : Int) < m by omega); omega
  have hjm : j < m := by have := Int.emod_lt_of_pos other (show (0 : Int) < m by omega); omega
  have x1 : W0.cell? ⟨w.heap.size, 1, none⟩ = some (.int .u8 rope) := (blk_cell k0 1).trans rfl
  have x2 : W0.cell? ⟨w.heap.size, 2, none⟩ = some (.int .u8 other) := (blk_cell k0 2).trans rfl
  have y1 : W0.cell? (ad.add i) = some (.slice A1 n1 c1) := pw_cell_below hbl hp
  have y2 : W0.cell? (ad.add j) = some (.slice A2 n2 c2) := pw_cell_below hbl hq
  have K0 := Aside0.mk k0
  have HB := Aside0.mk hbl
  have C1 := Aside0.mk (Kd.C_below hC1 hbl)
  have C2 := Aside0.mk (Kd.C_below hC2 hbl)
  have HL1 := Aside0.mk hl1
  have HL2 := Aside0.mk hl2
  have HN1 := Aside0.mk hN1
  have HN2 := Aside0.mk hN2
  have HI := Aside0.mk hi
  have HJ := Aside0.mk hj
  have hi0 : (0 : Int) ≤ (i : Int) := Int.natCast_nonneg _
  have hin : (i : Int) < (m : Int) := by omega
  have hj0 : (0 : Int) ≤ (j : Int) := Int.natCast_nonneg _
  have hjn : (j : Int) < (m : Int) := by omega
  have hi5 : (i : Int) < 100000 := by omega
  have hj5 : (j : Int) < 100000 := by omega
  have hm0 : (0 : Int) < (m : Int) := by omega
  have hm00 : ¬ (m : Int) = 0 := by omega
  have hmn : ¬ m = 0 := by omega
  have hmb : ((m : Int) == 0) = false := by simp; omega
  clear k0 hbl hW0 hC1 hl1 hN1 hC2 hl2 hN2 hp hq hi hj
  go_enter Try.func35, Try.ntmps35
  go_wp2_with fail
  rw [HW0.out]
  clear HW0
  have t1 : Int.tmod rope (m : Int) = (i : Int) := by rw [Int.tmod_eq_emod_of_nonneg hr0]; exact HI.out
  have t2 : Int.tmod other (m : Int) = (j : Int) := by rw [Int.tmod_eq_emod_of_nonneg ho0]; exact HJ.out
  have t3 := HI.out
  have t4 := HJ.out
  have u1 : IntKind.i64.wrap (i : Int) = (i : Int) := wrap_small2 _ hi0 hi5
  have u2 : IntKind.i64.wrap (j : Int) = (j : Int) := wrap_small2 _ hj0 hj5
  have u3 : IntKind.i64.wrap (rope % (m : Int)) = (i : Int) := by rw [t3]; exact u1
  have u4 : IntKind.i64.wrap (other % (m : Int)) = (j : Int) := by rw [t4]; exact u2
  have u5 : IntKind.i64.wrap (Int.tmod rope (m : Int)) = (i : Int) := by rw [t1]; exact u1
  have u6 : IntKind.i64.wrap (Int.tmod other (m : Int)) = (j : Int) := by rw [t2]; exact u2
  have u7 : IntKind.i64.wrap rope = rope := wrap_small2 _ hr0 (Int.lt_trans hr1 (by decide))
  have u8 : IntKind.i64.wrap other = other := wrap_small2 _ ho0 (Int.lt_trans ho1 (by decide))
  go_region_held3 (fun W' => W' = W0.drew ∧ W'.cell? ⟨w.heap.size, 1, none⟩ = some (.int .u8 rope) ∧ W'.cell? ⟨w.heap.size, 2, none⟩ = some (.int .u8 other) ∧ W'.cell? (ad.add i) = some (.slice A1 n1 c1) ∧ W'.cell? (ad.add j) = some (.slice A2 n2 c2))
    ((exact ⟨rfl, x1, x2, y1, y2⟩))
    (fail)
  clear t1 t2 t3 t4 u1 u2 u3 u4 u5 u6 u7 u8 hi5 hj5 x1 x2 y1 y2
  obtain ⟨wc, hwc⟩ : ∃ W, W0.drew = W := ⟨_, rfl⟩
  have hbc : Below W0.heap.size W0 wc := by rw [← hwc]; exact below_drew (Below.refl _ _)
  rw [hwc]
  have z0 : wc.cell? ⟨w.heap.size, 0, none⟩ = some (.int .u8 kind) := pw_cell_below hbc ((blk_cell K0.out 0).trans rfl)
  have z3 : wc.cell? ⟨w.heap.size, 3, none⟩ = some (.int .i64 f) := pw_cell_below hbc ((blk_cell K0.out 3).trans rfl)
  have z4 : wc.cell? ⟨w.heap.size, 4, none⟩ = some (.int .i64 t) := pw_cell_below hbc ((blk_cell K0.out 4).trans rfl)
  have D1 := Aside0.mk (Kd.C_below C1.out hbc)
  have D2 := Aside0.mk (Kd.C_below C2.out hbc)
  have HBC := Aside0.mk (below_step HB.out hbc)
  have Z3 := Aside0.mk z3
  have E1 : Aside0 (n1 * 8 ≤ 35184372088832) := ⟨by omega⟩
  have E2 : Aside0 (n2 * 8 ≤ 35184372088832) := ⟨by omega⟩
  have E3 : Aside0 (n1 * 8 ≤ 140737488351232) := ⟨by omega⟩
  obtain ⟨κ, hκ⟩ : ∃ κ, kind % 6 = κ := ⟨_, rfl⟩
  have hcs : κ = 0 ∨ κ = 1 ∨ κ = 2 ∨ κ = 3 ∨ κ = 4 ∨ κ = 5 := by omega
  clear hwc hbc
  rcases hcs with rfl | rfl | rfl | rfl | rfl | rfl
  · have HKK := Aside0.mk hκ
    have e0 : (kind % 6 == 0) = true := by simp [hκ]
    clear hκ
    go_wp2_with fail
    refine (Join56o.calls A1 c1 n1 l1 A2 c2 n2 l2 wc D1.out HL1.out hc1 HN1.out D2.out HL2.out hc2 HN2.out (by omega)).mono ?_
    rintro e W1 ⟨A', k, c', rfl, g1, g2, g3, g4, g5, g6⟩
    have hst : stepL (kind % 6) l1 l2 f t = l1 ++ l2 := by rw [HKK.out]; rfl
    rw [← hst] at g1 g4 g6
    have HG := Aside0.mk (show ModelPost A1 n1 c1 (stepL (kind % 6) l1 l2 f t) w (.returned (.slice A' k c')) W1 from ⟨A', k, c', rfl, g1, g2, g3, g4, below_step HBC.out g5, .inr (own_less g6 (HBC.out).size)⟩)
    clear g1 g2 g3 g4 g5 g6 hst z0 z3 z4
    go_wp2_with fail
    go_ret
    exact HG.out
  · have HKK := Aside0.mk hκ
    have e0 : (kind % 6 == 0) = false := by simp [hκ]
    have e1 : (kind % 6 == 1) = true := by simp [hκ]
    clear hκ
    go_wp2_with fail
    have H56 : Aside0 (∀ a b, (partL l1 f n1).length = a → (partL l1 0 f).length = b → (a + b) * 8 ≤ 140737488355328) := ⟨fun a b ha hb => by have := part_le l1 f n1; have := part_le l1 0 f; have := HL1.out; omega⟩
    go_region_held3 (fun W' => Below wc.heap.size wc W' ∧ W'.cell? ⟨w.heap.size, 3, none⟩ = some (.int .i64 f))
      ((go_split_ands; first | exact ⟨below_drew (Below.refl _ _), Z3.out⟩ | exact ⟨below_step (by assumption) hb1, pw_cell_below hb1 (by assumption)⟩))
      (first
        | (go_at_call 19; go_split_ands; (with_reducible refine (Part19.calls A1 c1 n1 l1 f n1 _ (Kd.C_below D1.out (by assumption)) HL1.out hc1 HN1.out E3.out).mono ?_); rintro e V5 ⟨A5, k5, c5, rfl, h51, h52, h53, hC5, hb1⟩; have H51 := Aside0.mk h51; have H53 := Aside0.mk h53; have C5 := Aside0.mk hC5; clear h51 h53 hC5)
        | (go_at_call 19; go_split_ands; (with_reducible refine (Part19.calls A1 c1 n1 l1 0 f _ (Kd.C_below D1.out (by assumption)) HL1.out hc1 HN1.out E3.out).mono ?_); rintro e V6 ⟨A6, k6, c6, rfl, h61, h62, h63, hC6, hb1⟩; have H61 := Aside0.mk h61; have H63 := Aside0.mk h63; have C6 := Aside0.mk hC6; have C5' := Aside0.mk (Kd.C_below C5.out hb1); clear h61 h63 hC6)
        | (go_at_call 56; go_split_ands; have hpre : Below wc.heap.size wc V6 := (by assumption); (refine (Join56o.calls A5 c5 k5 (partL l1 f n1) A6 c6 k6 (partL l1 0 f) _ C5'.out H51.out h52 H53.out C6.out H61.out h62 H63.out (H56.out _ _ H51.out H61.out)).mono ?_); rintro e W1 ⟨A', k, c', rfl, g1, g2, g3, g4, hb1, g6⟩; have G1 := Aside0.mk g1; have G3 := Aside0.mk g3; have G4 := Aside0.mk g4; have G6 := Aside0.mk (own_less g6 hpre.size); clear g1 g3 g4 g6))
    have hfin : Below wc.heap.size wc W1 := by go_split_ands; assumption
    have hst : stepL (kind % 6) l1 l2 f t = partL l1 f n1 ++ partL l1 0 f := by rw [HKK.out, ← HL1.out]; rfl
    have HG := Aside0.mk (show ModelPost A1 n1 c1 (stepL (kind % 6) l1 l2 f t) w (.returned (.slice A' k c')) W1 from by rw [hst]; exact ⟨A', k, c', rfl, G1.out, g2, G3.out, G4.out, below_step HBC.out hfin, .inr (own_less G6.out HBC.out.size)⟩)
    clear hst hfin z0 z3 z4
    go_wp2_with fail
    go_ret
    exact HG.out
  · have HKK := Aside0.mk hκ
    have e0 : (kind % 6 == 0) = false := by simp [hκ]
    have e1 : (kind % 6 == 1) = false := by simp [hκ]
    have e2 : (kind % 6 == 2) = true := by simp [hκ]
    clear hκ
    go_wp2_with fail
    refine (Part19o.calls A1 c1 n1 l1 f t wc D1.out HL1.out hc1 HN1.out E3.out).mono ?_
    rintro e W1 ⟨A', k, c', rfl, g1, g2, g3, g4, g5, g6⟩
    have hst : stepL (kind % 6) l1 l2 f t = partL l1 f t := by rw [HKK.out]; rfl
    rw [← hst] at g1 g4 g6
    have HG := Aside0.mk (show ModelPost A1 n1 c1 (stepL (kind % 6) l1 l2 f t) w (.returned (.slice A' k c')) W1 from ⟨A', k, c', rfl, g1, g2, g3, g4, below_step HBC.out g5, .inr (own_less g6 (HBC.out).size)⟩)
    clear g1 g2 g3 g4 g5 g6 hst z0 z3 z4
    go_wp2_with fail
    go_ret
    exact HG.out
  · have HKK := Aside0.mk hκ
    have e0 : (kind % 6 == 0) = false := by simp [hκ]
    have e1 : (kind % 6 == 1) = false := by simp [hκ]
    have e2 : (kind % 6 == 2) = false := by simp [hκ]
    have e3 : (kind % 6 == 3) = true := by simp [hκ]
    clear hκ
    go_wp2_with fail
    refine (Replace21o.calls A1 c1 n1 l1 f t A2 c2 n2 l2 wc D1.out HL1.out hc1 HN1.out D2.out HL2.out hc2 HN2.out E1.out E2.out).mono ?_
    rintro e W1 ⟨A', k, c', rfl, g1, g2, g3, g4, g5, g6⟩
    have hst : stepL (kind % 6) l1 l2 f t = replL l1 f t l2 := by rw [HKK.out]; rfl
    rw [← hst] at g1 g4 g6
    have HG := Aside0.mk (show ModelPost A1 n1 c1 (stepL (kind % 6) l1 l2 f t) w (.returned (.slice A' k c')) W1 from ⟨A', k, c', rfl, g1, g2, g3, g4, below_step HBC.out g5, .inr (own_less g6 (HBC.out).size)⟩)
    clear g1 g2 g3 g4 g5 g6 hst z0 z3 z4
    go_wp2_with fail
    go_ret
    exact HG.out
  · have HKK := Aside0.mk hκ
    have e0 : (kind % 6 == 0) = false := by simp [hκ]
    have e1 : (kind % 6 == 1) = false := by simp [hκ]
    have e2 : (kind % 6 == 2) = false := by simp [hκ]
    have e3 : (kind % 6 == 3) = false := by simp [hκ]
    have e4 : (kind % 6 == 4) = true := by simp [hκ]
    clear hκ
    go_wp2_with fail
    go_ret
    have hst : stepL (kind % 6) l1 l2 f t = l1 := by rw [HKK.out]; rfl
    rw [hst]
    exact ⟨A1, n1, c1, rfl, HL1.out, hc1, HN1.out, D1.out, HBC.out, .inl ⟨rfl, rfl, rfl⟩⟩
  · have HKK := Aside0.mk hκ
    have e0 : (kind % 6 == 0) = false := by simp [hκ]
    have e1 : (kind % 6 == 1) = false := by simp [hκ]
    have e2 : (kind % 6 == 2) = false := by simp [hκ]
    have e3 : (kind % 6 == 3) = false := by simp [hκ]
    have e4 : (kind % 6 == 4) = false := by simp [hκ]
    clear hκ
    go_wp2_with fail
    obtain ⟨i0, hi, hz0, hz1, hz2⟩ := info_parts info_int
    clear z0 z4
    have hst : stepL (kind % 6) l1 l2 f t = l1.map (fun x => wrap64 (x + f)) := by rw [HKK.out]; rfl
    have HST := Aside0.mk hst
    clear hst
    go_loopw [7, 71] (fun v u wr => ∃ k : Nat, u = .int .i64 k ∧ k ≤ n1 ∧ Aside0 (wr.ownsRow wc.heap.size 3 1 v k (((l1.take k).map (fun x => wrap64 (x + f))).map (.int .i64))) ∧ Aside0 (Below wc.heap.size wc wr)) (fun v u wr => n1 - (intOf u).toNat)
    case atStart => exact ⟨0, rfl, Nat.zero_le _, ⟨World.ownsRow_nil _ _ _ _⟩, ⟨Below.refl _ _⟩⟩
    case round =>
      obtain ⟨k, rfl, hk, HR, HBr⟩ := hrel
      by_cases hlt : k < n1
      · have hlb : decide ((k : Int) < (n1 : Int)) = true := by simp; omega
        have hlb2 : decide (k < n1) = true := by simp; omega
        obtain ⟨x, hx⟩ : ∃ x, l1[k]? = some x := ⟨_, List.getElem?_eq_getElem (by rw [HL1.out]; exact hlt)⟩
        have htk : (l1.take (k + 1)).map (fun x => wrap64 (x + f)) = (l1.take k).map (fun x => wrap64 (x + f)) ++ [wrap64 (x + f)] := by
          rw [List.take_add_one, hx, List.map_append]; rfl
        obtain ⟨a1, ha1, hcx⟩ : ∃ a1, A1 = some a1 ∧ wr.cell? (a1.add k) = some (.int .i64 x) := by
          obtain ⟨a1, e1, e2⟩ := C_cells_int (show D_int.C wr A1 l1.length l1 by rw [HL1.out]; exact Kd.C_below D1.out HBr.out) (by rw [HL1.out]; omega)
          refine ⟨a1, e1, e2 k _ ?_⟩
          rw [flatMap_int, List.getElem?_map, hx]; rfl
        have zf : wr.cell? ⟨w.heap.size, 3, none⟩ = some (.int .i64 f) := pw_cell_below HBr.out Z3.out
        have hk0 : (0 : Int) ≤ (k : Int) := Int.natCast_nonneg _
        have hkn : (k : Int) < (n1 : Int) := by omega
        have HTK := Aside0.mk htk
        subst ha1
        have HBA := Aside0.mk (HBr.out.alloc HBr.out.size (.cells #[.int .i64 (wrap64 (x + f))] 3))
        clear hx htk
        go_wp2_with (at_builtin; refine append_ints rfl _ _ 22 3 rfl wc.heap.size i0 Try.underlying22 hi hz0 hz1 hz2 _ k ((l1.take k).map (fun x => wrap64 (x + f))) rfl (HR.out.alloc _) (some ⟨wr.heap.size, 0, none⟩) 1 1 [wrap64 (x + f)] rfl (lit_C_int (heap_new wr _) rfl rfl (by decide)) rfl (fun h => by cases h) (by omega) (by have := HBA.out.size; exact this) ?_; intro v' w2 hown' hgrow; have hB2 := HBA.out.grown hgrow HBA.out.size (fun kk e => own_base HR.out e); have HO2 := Aside0.mk hown'; have HB2 := Aside0.mk hB2; clear hown' hgrow hB2)
        refine ⟨⟨k + 1, by go_num, by omega, ⟨by rw [HTK.out]; exact HO2.out⟩, HB2⟩, by simp [intOf]; omega⟩
      · obtain rfl : k = n1 := by omega
        have hlb : decide ((k : Int) < (k : Int)) = false := by simp
        have hlb2 : decide (k < k) = false := by simp
        have hlen : (l1.map (fun x => wrap64 (x + f))).length = k := by rw [List.length_map, HL1.out]
        have hall : l1.take k = l1 := List.take_of_length_le (by rw [HL1.out]; exact Nat.le_refl _)
        have HLEN := Aside0.mk hlen
        have HALL := Aside0.mk hall
        clear hlen hall
        go_wp2_with fail
        go_ret
        have hr := HR.out
        rw [HALL.out] at hr
        obtain ⟨A', c', rfl, hc', hC'⟩ := own_C_int hr HLEN.out
        rw [HST.out]
        exact ⟨A', k, c', rfl, HLEN.out, hc', own_none hr, hC', below_step HBC.out HBr.out, .inr (own_less hr HBC.out.size)⟩

end Go.Proofs.Ytlopceimlipemaa.Rope

/- Lists of lists in memory; whether operations are few. -/
namespace Go.Proofs.Ytlopceimlipemaa.Rope
open Go.RowKit Go.Proofs.YtlopceimlipemaaW.PrintWords Go.Proofs.YtlopceimlipemaaW.PrintLast Go.Proofs.YtlopceimlipemaaW.PrintMore Go.Shelf
set_option linter.unusedVariables false
set_option linter.unusedSimpArgs false

structure Op5 where
  kind : Int
  rope : Int
  other : Int
  f : Int
  t : Int
structure Op5.ok (o : Op5) : Prop where
  k0 : 0 ≤ o.kind
  k1 : o.kind < 256
  r0 : 0 ≤ o.rope
  r1 : o.rope < 256
  o0 : 0 ≤ o.other
  o1 : o.other < 256
def Op5.cells (o : Op5) : List Value := [.int .u8 o.kind, .int .u8 o.rope, .int .u8 o.other, .int .i64 o.f, .int .i64 o.t]
def OpsC (w : World) (B : Option Addr) (n : Nat) (ops : List Op5) : Prop := ReadsRow (fun (o : Op5) c => c = o.cells) 5 w B n ops
theorem OpsC.below {w w1 : World} {B : Option Addr} {n : Nat} {ops : List Op5} (h : OpsC w B n ops) (hb : Below w.heap.size w w1) : OpsC w1 B n ops := ReadsRow.imp_ h hb (fun _ _ h => h)
theorem add_pos (a : Addr) (i : Nat) (h : 0 < i) : a.add i = ⟨a.block, a.off + i, none⟩ := by
  unfold Addr.add
  rw [if_neg (by omega)]
theorem OpsC.at {w : World} {B : Option Addr} {n : Nat} {ops : List Op5} (h : OpsC w B n ops) {k : Nat} {o : Op5} (hk : ops[k]? = some o) : ∃ bd, B = some bd ∧ w.cell? (bd.add (k * 5)) = some (.int .u8 o.kind) ∧ w.cell? ⟨(bd.add (k * 5)).block, (bd.add (k * 5)).off + 1, none⟩ = some (.int .u8 o.rope) ∧
    w.cell? ⟨(bd.add (k * 5)).block, (bd.add (k * 5)).off + 2, none⟩ = some (.int .u8 o.other) ∧ w.cell? ⟨(bd.add (k * 5)).block, (bd.add (k * 5)).off + 3, none⟩ = some (.int .i64 o.f) ∧ w.cell? ⟨(bd.add (k * 5)).block, (bd.add (k * 5)).off + 4, none⟩ = some (.int .i64 o.t) := by
  obtain ⟨bd, e, hc⟩ := h.2.2 (by have := (List.getElem?_eq_some_iff.1 hk).1; have := h.1; omega)
  obtain ⟨c, _, rfl, hcell⟩ := hc k o hk
  refine ⟨bd, e, hcell 0 _ rfl, ?_, ?_, ?_, ?_⟩
  · rw [← add_pos _ 1 (by omega), add_add]; exact hcell 1 _ rfl
  · rw [← add_pos _ 2 (by omega), add_add]; exact hcell 2 _ rfl
  · rw [← add_pos _ 3 (by omega), add_add]; exact hcell 3 _ rfl
  · rw [← add_pos _ 4 (by omega), add_add]; exact hcell 4 _ rfl

/-- Blocks of a type stay. -/
def KeepE (e : TypeId) (W W' : World) : Prop := ∀ (k : Nat) (cs : Array Value), W.heap[k]? = some (.cells cs e (0, 0)) → W'.heap[k]? = some (.cells cs e (0, 0))
theorem KeepE.below {e : TypeId} {W W' : World} (hb : Below W.heap.size W W') : KeepE e W W' := fun k cs h => blk_below h hb
theorem KeepE.trans {e : TypeId} {A B C : World} (h : KeepE e A B) (k : KeepE e B C) : KeepE e A C := fun i cs hi => k i cs (h i cs hi)
theorem KeepE.grown {e e' : TypeId} {W W' : World} {v : Value} {base n : Nat} {xs : List Value} (hg : W.grownBy W' v.ownBlock) (ho : W.ownsRow base e' 1 v n xs) (hne : e ≠ e') : KeepE e W W' := fun k cs h => by
  refine (hg.block k (blk_lt h) (fun hk => ?_)).trans h
  rcases ho.2 with ⟨rfl, _⟩ | ⟨g, cap, cur, rfl, _, hgg, _⟩
  · simp [Value.ownBlock] at hk
  · have : k = g := by simpa [Value.ownBlock] using hk
    subst this
    rw [h] at hgg
    injection hgg with hgg
    injection hgg with _ hgg
    exact hne hgg
theorem own_keep {e : TypeId} {W W' : World} {v : Value} {base n : Nat} {xs : List Value} (ho : W.ownsRow base e 1 v n xs) (hk : KeepE e W W') : W'.ownsRow base e 1 v n xs := by
  refine ⟨ho.1, ?_⟩
  rcases ho.2 with h | ⟨g, cap, cur, h1, h2, h3, h4⟩
  · exact .inl h
  · exact .inr ⟨g, cap, cur, h1, h2, hk _ _ h3, h4⟩
/-- A list in memory, among lists. -/
structure Ent where
  A : Option Addr
  n : Nat
  c : Nat
  l : List Int
def Ent.val (e : Ent) : Value := .slice e.A e.n e.c
structure Ent.ok (base : Nat) (w0 W : World) (e : Ent) : Prop where
  len : e.l.length = e.n
  cap : e.n ≤ e.c
  nil : e.A = none → e.c = 0
  most : e.n ≤ 2000
  at_ : D_int.C w0 e.A e.n e.l ∨ W.ownsRow base 3 1 (.slice e.A e.n e.c) e.n (e.l.map (.int .i64))
theorem Ent.ok.C {base : Nat} {w0 W : World} {e : Ent} (h : e.ok base w0 W) (hb : Below w0.heap.size w0 W) : D_int.C W e.A e.n e.l := by
  rcases h.at_ with h1 | h1
  · exact Kd.C_below h1 hb
  · obtain ⟨A', c', e1, _, hC⟩ := own_C_int h1 h.len
    cases e1; exact hC
theorem Ent.ok.keep {base : Nat} {w0 W W' : World} {e : Ent} (h : e.ok base w0 W) (hk : KeepE 3 W W') : e.ok base w0 W' :=
  ⟨h.len, h.cap, h.nil, h.most, h.at_.elim .inl (fun h1 => .inr (own_keep h1 hk))⟩
/-- A list of lists, of one's own. -/
structure Rows2 (base : Nat) (w0 W : World) (v : Value) (es : List Ent) : Prop where
  row : W.ownsRow base 22 1 v es.length (es.map Ent.val)
  each : ∀ e ∈ es, e.ok base w0 W
theorem Rows2.keep {base : Nat} {w0 W W' : World} {v : Value} {es : List Ent} (h : Rows2 base w0 W v es) (h1 : KeepE 3 W W') (h2 : KeepE 22 W W') : Rows2 base w0 W' v es :=
  ⟨own_keep h.row h2, fun e he => (h.each e he).keep h1⟩
theorem Rows2.at_ {base : Nat} {w0 W : World} {v : Value} {es : List Ent} (h : Rows2 base w0 W v es) (h0 : 0 < es.length) : ∃ g cap, v = .slice (some ⟨g, 0, none⟩) es.length cap ∧ base ≤ g ∧ es.length ≤ cap ∧ ∀ (i : Nat) (e : Ent), es[i]? = some e → W.cell? ((⟨g, 0, none⟩ : Addr).add i) = some e.val := by
  rcases h.row.2 with ⟨_, h1⟩ | ⟨g, cap, cur, rfl, hb, hk, hc, _⟩
  · omega
  · exact ⟨g, cap, rfl, hb, hc, fun i e hi => h.row.cells (g := g) rfl i _ (by rw [List.getElem?_map, hi]; rfl)⟩
/-- The lists that operations make. -/
def modelP (ls : List (List Int)) (o : Op5) : List Int := stepL (o.kind % 6) (ls.getD (o.rope % (ls.length : Int)).toNat []) (ls.getD (o.other % (ls.length : Int)).toNat []) o.f o.t
def mAll (ls : List (List Int)) : List Op5 → List (List Int)
  | [] => ls
  | o :: r => mAll (ls ++ [modelP ls o]) r
def smallB (ls : List (List Int)) : List Op5 → Bool
  | [] => true
  | o :: r => if 2000 < (modelP ls o).length then false else smallB (ls ++ [modelP ls o]) r
theorem mAll_snoc : ∀ (ls : List (List Int)) (r : List Op5) (o : Op5), mAll ls (r ++ [o]) = mAll ls r ++ [modelP (mAll ls r) o]
  | ls, [], o => rfl
  | ls, a :: r, o => mAll_snoc (ls ++ [modelP ls a]) r o
theorem smallB_split : ∀ (ls : List (List Int)) (r s : List Op5), smallB ls r = true → smallB ls (r ++ s) = smallB (mAll ls r) s
  | ls, [], s, _ => rfl
  | ls, a :: r, s, h => by
    simp only [smallB, List.cons_append, mAll] at h ⊢
    split at h
    · cases h
    · rename_i hc
      rw [if_neg hc]
      exact smallB_split _ r s h
theorem smallB_snoc (ls : List (List Int)) (r : List Op5) (o : Op5) (h : smallB ls r = true) (h2 : ¬ 2000 < (modelP (mAll ls r) o).length) : smallB ls (r ++ [o]) = true := by
  rw [smallB_split ls r [o] h]
  simp only [smallB]
  rw [if_neg h2]
def smallAll (first : List Int) (ops : List Op5) : Bool := if 500 < first.length ∨ 60 < ops.length then false else smallB [first] ops
/-- What a round of lists does. -/
theorem model_at {base : Nat} {w0 W : World} {v : Value} {es : List Ent} (h : Rows2 base w0 W v es) (hb : Below w0.heap.size w0 W) (h0 : 0 < es.length) (h1 : es.length ≤ 1000) (o : Op5) (ho : o.ok) :
    ∃ g cap, v = .slice (some ⟨g, 0, none⟩) es.length cap ∧ ∃ e1 ∈ es, Calls Try.prog 35 #[v, .agg #[.int .u8 o.kind, .int .u8 o.rope, .int .u8 o.other, .int .i64 o.f, .int .i64 o.t]] W (ModelPost e1.A e1.n e1.c (modelP (es.map Ent.l) o) W) := by
  obtain ⟨g, cap, rfl, hg, hc, hcell⟩ := h.at_ h0
  have hp : (0 : Int) < (es.length : Int) := by omega
  obtain ⟨i, hi⟩ := Int.eq_ofNat_of_zero_le (Int.emod_nonneg o.rope (show (es.length : Int) ≠ 0 by omega))
  obtain ⟨j, hj⟩ := Int.eq_ofNat_of_zero_le (Int.emod_nonneg o.other (show (es.length : Int) ≠ 0 by omega))
  have hil : i < es.length := by have := Int.emod_lt_of_pos o.rope hp; omega
  have hjl : j < es.length := by have := Int.emod_lt_of_pos o.other hp; omega
  obtain ⟨e1, he1⟩ : ∃ e, es[i]? = some e := ⟨_, List.getElem?_eq_getElem hil⟩
  obtain ⟨e2, he2⟩ : ∃ e, es[j]? = some e := ⟨_, List.getElem?_eq_getElem hjl⟩
  have m1 : e1 ∈ es := List.mem_of_getElem? he1
  have m2 : e2 ∈ es := List.mem_of_getElem? he2
  have k1 := h.each e1 m1
  have k2 := h.each e2 m2
  refine ⟨g, cap, rfl, e1, m1, ?_⟩
  have hmp : modelP (es.map Ent.l) o = stepL (o.kind % 6) e1.l e2.l o.f o.t := by
    unfold modelP
    rw [List.length_map, hi, hj]
    simp only [Int.toNat_natCast, List.getD_eq_getElem?_getD, List.getElem?_map, he1, he2, Option.map_some, Option.getD_some]
  rw [hmp]
  exact model.calls ⟨g, 0, none⟩ es.length cap o.kind o.rope o.other o.f o.t i j e1.A e1.n e1.c e1.l e2.A e2.n e2.c e2.l W h0 hc h1 ho.k0 ho.k1 ho.r0 ho.r1 ho.o0 ho.o1 hi hj (hcell i e1 he1) (hcell j e2 he2) (k1.C hb) k1.len k1.cap k1.nil (k2.C hb) k2.len k2.cap k2.nil k1.most k2.most
/-- What lies in memory is one list. -/
theorem ints_eq {W : World} {A : Option Addr} {n : Nat} {l m : List Int} (h1 : D_int.C W A n l) (h2 : D_int.C W A n m) (e1 : l.length = n) (e2 : m.length = n) : l = m := by
  apply List.ext_getElem (by omega)
  intro i hi1 hi2
  obtain ⟨a1, q1, c1⟩ := C_cells_int (show D_int.C W A l.length l by rw [e1]; exact h1) (by omega)
  obtain ⟨a2, q2, c2⟩ := C_cells_int (show D_int.C W A m.length m by rw [e2]; exact h2) (by omega)
  rw [q1] at q2
  cases q2
  have r1 := c1 i (.int .i64 l[i]) (by rw [flatMap_int, List.getElem?_map, List.getElem?_eq_getElem hi1]; rfl)
  have r2 := c2 i (.int .i64 m[i]) (by rw [flatMap_int, List.getElem?_map, List.getElem?_eq_getElem hi2]; rfl)
  rw [r1] at r2
  injection r2 with r2
  injection r2
/-- A list more. -/
theorem ent_new {base : Nat} {w0 W W1 : World} {e1 : Ent} {L : List Int} {A' : Option Addr} {k c' : Nat} (h1 : e1.ok base w0 W) (hL : L.length = k) (hk : k ≤ c') (hn : A' = none → c' = 0) (hC : D_int.C W1 A' k L) (hb : Below W.heap.size W W1) (hb0 : Below w0.heap.size w0 W) (hB : base ≤ W.heap.size)
    (ho : (A' = e1.A ∧ k = e1.n ∧ c' = e1.c) ∨ W1.ownsRow W.heap.size 3 1 (.slice A' k c') k (L.map (.int .i64))) (hm : k ≤ 2000) : (⟨A', k, c', L⟩ : Ent).ok base w0 W1 := by
  refine ⟨hL, hk, hn, hm, ?_⟩
  rcases ho with ⟨rfl, rfl, rfl⟩ | ho
  · have hLe : L = e1.l := by
      have c1 := h1.C hb0
      have c2 : D_int.C W1 e1.A e1.n e1.l := Kd.C_below c1 hb
      exact ints_eq hC c2 hL h1.len
    subst hLe
    exact (h1.keep (KeepE.below hb)).at_
  · exact .inr (own_less ho hB)

theorem info_ints : (Try.prog.info? 22).map (fun i => (i.zero, i.size, i.bytes)) = some (some (.slice none 0 0), 1, 24) := by kernel_rfl
/-- An append of one list. -/
theorem rows2_snoc {base : Nat} {w0 W W2 : World} {v v' : Value} {es : List Ent} {e : Ent} (h : Rows2 base w0 W v es) (he : e.ok base w0 W)
    (hrow : W2.ownsRow base 22 1 v' (es.length + 1) (es.map Ent.val ++ [e.val])) (hg : W.grownBy W2 v.ownBlock) : Rows2 base w0 W2 v' (es ++ [e]) := by
  have hk : KeepE 3 W W2 := KeepE.grown hg h.row (by decide)
  refine ⟨by rw [List.length_append, List.map_append]; exact hrow, fun e' he' => ?_⟩
  rcases List.mem_append.1 he' with h1 | h1
  · exact (h.each e' h1).keep hk
  · obtain rfl : e' = e := by simpa using h1
    exact he.keep hk
theorem rows2_first (w0 W : World) (e : Ent) (hb : w0.heap.size ≤ W.heap.size) (he : e.ok w0.heap.size w0 W) : Rows2 w0.heap.size w0 (W.alloc (.cells #[e.val] 22)) (.slice (some ⟨W.heap.size, 0, none⟩) 1 1) [e] :=
  ⟨World.ownsRow_lit W #[e.val] 1 hb (by decide) rfl, fun e' he' => by
    obtain rfl : e' = e := by simpa using he'
    exact he.keep (KeepE.below ((Below.refl _ W).alloc (Nat.le_refl _) _))⟩
set_option maxRecDepth 100000 in
set_option maxHeartbeats 4000000 in
theorem small1.calls (A : Option Addr) (n c : Nat) (l : List Int) (B : Option Addr) (no bc : Nat) (ops : List Op5) (w : World) (hC : D_int.C w A n l) (hl : l.length = n) (hc : n ≤ c) (hA : A = none → c = 0) (hO : OpsC w B no ops) (hol : ops.length = no) (hbc : no ≤ bc) (hok : ∀ o ∈ ops, o.ok) (hn : n ≤ 500) (hno : no ≤ 60) :
    Calls Try.prog 31 #[.slice A n c, .slice B no bc] w fun e w' => e = .returned (.bool (smallAll l ops)) ∧ Below w.heap.size w w' := by
  obtain ⟨i0, hi, hz0, hz1, hz2⟩ := info_parts info_ints
  have hsm : smallAll l ops = smallB [l] ops := by unfold smallAll; rw [if_neg (by omega)]
  rw [hsm]
  obtain ⟨r, hr⟩ : ∃ r, r = smallB [l] ops := ⟨_, rfl⟩
  rw [← hr]
  have HR := Aside0.mk hr
  have d1 : decide ((500 : Int) < (n : Int)) = false := by simp; omega
  have d1' : decide (500 < n) = false := by simp; omega
  have d2 : decide ((60 : Int) < (no : Int)) = false := by simp; omega
  have d2' : decide (60 < no) = false := by simp; omega
  have HE0 : Aside0 ((⟨A, n, c, l⟩ : Ent).ok w.heap.size w w) := ⟨⟨hl, hc, hA, Nat.le_trans hn (by decide), .inl hC⟩⟩
  have HO := Aside0.mk hO
  have HOL := Aside0.mk hol
  have HOK := Aside0.mk hok
  have HL := Aside0.mk hl
  clear hC hl hA hO hol hok hsm hr
  go_enter Try.func31, Try.ntmps31
  go_wp2_with fail
  have hk0 := rows2_first w w ⟨A, n, c, l⟩ (Nat.le_refl _) HE0.out
  have hb0 : Below w.heap.size w (w.alloc (.cells #[.slice A n c] 22)) := (Below.refl _ w).alloc (Nat.le_refl _) _
  go_loopw [5, 21] (fun v u wr => ∃ (k : Nat) (es : List Ent), u = .int .i64 k ∧ k ≤ no ∧ es.length = k + 1 ∧ Aside0 (es.map Ent.l = mAll [l] (ops.take k)) ∧ Aside0 (smallB [l] (ops.take k) = true) ∧ Aside0 (Rows2 w.heap.size w wr v es) ∧ Aside0 (Below w.heap.size w wr)) (fun v u wr => no - (intOf u).toNat)
  case atStart => exact ⟨0, [⟨A, n, c, l⟩], rfl, Nat.zero_le _, rfl, ⟨rfl⟩, ⟨rfl⟩, ⟨hk0⟩, ⟨hb0⟩⟩
  case round =>
    obtain ⟨k, es, rfl, hk, hes, HM, HS, HROW, HBr⟩ := hrel
    clear hk0 hb0
    by_cases hlt : k < no
    · have hlb : decide ((k : Int) < (no : Int)) = true := by simp; omega
      have hlb2 : decide (k < no) = true := by simp; omega
      obtain ⟨o, ho⟩ : ∃ o, ops[k]? = some o := ⟨_, List.getElem?_eq_getElem (by rw [HOL.out]; exact hlt)⟩
      obtain ⟨bd, hbd, o0, o1, o2, o3, o4⟩ := (HO.out.below HBr.out).at ho
      subst hbd
      have hk0 : (0 : Int) ≤ (k : Int) := Int.natCast_nonneg _
      have hkn : (k : Int) < (no : Int) := by omega
      have HOO := Aside0.mk ho
      clear ho
      go_wp2_with fail
      have hba : Below wr.heap.size wr (wr.alloc (.cells #[.int .u8 o.kind, .int .u8 o.rope, .int .u8 o.other, .int .i64 o.f, .int .i64 o.t] 58)) := (Below.refl _ _).alloc (Nat.le_refl _) _
      obtain ⟨Wa, hWa⟩ : ∃ W, wr.alloc (.cells #[.int .u8 o.kind, .int .u8 o.rope, .int .u8 o.other, .int .i64 o.f, .int .i64 o.t] 58) = W := ⟨_, rfl⟩
      rw [hWa] at hba ⊢
      have hbw := below_step HBr.out hba
      have hra := HROW.out.keep (KeepE.below hba) (KeepE.below hba)
      obtain ⟨g, cap, rfl, e1, he1, hcall⟩ := model_at hra hbw (by omega) (by omega) o (HOK.out o (List.mem_of_getElem? HOO.out))
      have HRA := Aside0.mk hra
      have HBW := Aside0.mk hbw
      have hee := hra.each e1 he1
      have HEE := Aside0.mk hee
      clear hWa hra hbw hba hee o0 o1 o2 o3 o4
      refine hcall.mono ?_
      clear hcall
      rintro e W1 ⟨A', k', c', rfl, g1, g2, g3, g4, g5, g6⟩
      have HB1 := Aside0.mk (below_step HBW.out g5)
      have htk : ops.take (k + 1) = ops.take k ++ [o] := by rw [List.take_add_one, HOO.out]; rfl
      have hmp : modelP (es.map Ent.l) o = modelP (mAll [l] (ops.take k)) o := by rw [HM.out]
      have HTK := Aside0.mk htk
      have HMP := Aside0.mk hmp
      have HG1 := Aside0.mk g1
      by_cases h2000 : 2000 < k'
      · have e1_ : decide ((2000 : Int) < (k' : Int)) = true := by simp; omega
        have e2_ : decide (2000 < k') = true := by simp; omega
        have hrf : r = false := by
          rw [HR.out, ← List.take_append_drop k ops, smallB_split _ _ _ HS.out, List.drop_eq_getElem_cons (by rw [HOL.out]; exact hlt)]
          have ho' : ops[k]'(by rw [HOL.out]; exact hlt) = o := by have := HOO.out; rw [List.getElem?_eq_getElem (by rw [HOL.out]; exact hlt)] at this; exact Option.some.inj this
          rw [ho']
          simp only [smallB]
          rw [if_pos (by rw [← HMP.out, HG1.out]; exact h2000)]
        have HRF := Aside0.mk hrf
        clear g1 g2 g3 g4 g5 g6 htk hmp hrf
        go_wp2_with fail
        go_ret
        exact ⟨by rw [HRF.out]; rfl, HB1.out⟩
      · have e1_ : decide ((2000 : Int) < (k' : Int)) = false := by simp; omega
        have e2_ : decide (2000 < k') = false := by simp; omega
        have HEN := Aside0.mk (ent_new HEE.out g1 g2 g3 g4 g5 HBW.out HBW.out.size g6 (by omega))
        have HR1 := Aside0.mk (HRA.out.keep (KeepE.below g5) (KeepE.below g5))
        have hba2 : Below W1.heap.size W1 (W1.alloc (.cells #[.slice A' k' c'] 22)) := (Below.refl _ _).alloc (Nat.le_refl _) _
        have HBA2 := Aside0.mk hba2
        have hn2 := heap_new W1 (.cells #[.slice A' k' c'] 22)
        have HN2 := Aside0.mk hn2
        have hrow := HR1.out.row
        rw [hes] at hrow
        have HROW3 := Aside0.mk hrow
        have hk1 : w.heap.size ≤ W1.heap.size := HB1.out.size
        clear g1 g2 g3 g4 g5 g6 htk hmp hba2 hn2 hrow
        go_wp2_with (at_builtin; refine wpList_append_own _ rfl _ _ 62 rfl w.heap.size 22 i0 (.slice none 0 0) 1 24 Try.underlying62 hi hz0 hz1 hz2 rfl (by decide) _ _ _ rfl (HROW3.out.alloc _) ⟨W1.heap.size, 0, none⟩ 1 1 [.slice A' k' c'] rfl rfl (cell_one_new _ _ _) (by simp [Value.oneCell']) (by simp only [maxLen]; omega) (by omega) (by simp; omega) ?_; intro v' w2 hown' hgrow _; have HG2 := Aside0.mk hgrow; have HO2 := Aside0.mk hown'; clear hown' hgrow)
        have hbb := below_step HB1.out HBA2.out
        refine ⟨⟨k + 1, es ++ [⟨A', k', c', modelP (es.map Ent.l) o⟩], by go_num, by omega, by rw [List.length_append, hes]; rfl, ⟨?_⟩, ⟨?_⟩, ⟨?_⟩, ⟨?_⟩⟩, by simp [intOf]; omega⟩
        · rw [HTK.out, mAll_snoc, ← HM.out, List.map_append]; rfl
        · rw [HTK.out]; exact smallB_snoc _ _ _ HS.out (by rw [← HMP.out, HG1.out]; exact h2000)
        · exact rows2_snoc (HR1.out.keep (KeepE.below HBA2.out) (KeepE.below HBA2.out)) (HEN.out.keep (KeepE.below HBA2.out)) (by rw [hes]; exact HO2.out) HG2.out
        · exact hbb.grown HG2.out hbb.size (fun kk e => own_base HROW3.out e)
    · obtain rfl : k = no := by omega
      have hlb : decide ((k : Int) < (k : Int)) = false := by simp
      have hlb2 : decide (k < k) = false := by simp
      have hrt : r = true := by rw [HR.out, ← HS.out, List.take_of_length_le (by rw [HOL.out]; exact Nat.le_refl _)]
      have HRT := Aside0.mk hrt
      clear hrt
      go_wp2_with fail
      go_ret
      exact ⟨by rw [HRT.out]; rfl, HBr.out⟩

set_option maxRecDepth 100000 in
set_option maxHeartbeats 4000000 in
theorem small.calls (A : Option Addr) (n c : Nat) (l : List Int) (B : Option Addr) (no bc : Nat) (ops : List Op5) (w : World) (hC : D_int.C w A n l) (hl : l.length = n) (hc : n ≤ c) (hA : A = none → c = 0) (hO : OpsC w B no ops) (hol : ops.length = no) (hbc : no ≤ bc) (hok : ∀ o ∈ ops, o.ok) :
    Calls Try.prog 31 #[.slice A n c, .slice B no bc] w fun e w' => e = .returned (.bool (smallAll l ops)) ∧ Below w.heap.size w w' := by
  by_cases h1 : 500 < n
  · have d1 : decide ((500 : Int) < (n : Int)) = true := by simp; omega
    have d1' : decide (500 < n) = true := by simp; omega
    have hs : smallAll l ops = false := by unfold smallAll; rw [if_pos (.inl (by omega))]
    rw [hs]
    clear hs hC hO hol hok hl hA
    go_enter Try.func31, Try.ntmps31
    go_wp2
    go_ret
    exact ⟨rfl, Below.refl _ _⟩
  · by_cases h2 : 60 < no
    · have d1 : decide ((500 : Int) < (n : Int)) = false := by simp; omega
      have d1' : decide (500 < n) = false := by simp; omega
      have d2 : decide ((60 : Int) < (no : Int)) = true := by simp; omega
      have d2' : decide (60 < no) = true := by simp; omega
      have hs : smallAll l ops = false := by unfold smallAll; rw [if_pos (.inr (by omega))]
      rw [hs]
      clear hs hC hO hol hok hl hA
      go_enter Try.func31, Try.ntmps31
      go_wp2
      go_ret
      exact ⟨rfl, Below.refl _ _⟩
    · exact small1.calls A n c l B no bc ops w hC hl hc hA hO hol hbc hok (by omega) (by omega)

end Go.Proofs.Ytlopceimlipemaa.Rope

/- What the rows of laws with operations need. -/
namespace Go.Proofs.Ytlopceimlipemaa.Rope
open Go.ChangeShapes Go.WideShapes Go.ChangeAt Go.RowKit Go.Proofs.YtlopceimlipemaaW.PrintWords Go.Proofs.YtlopceimlipemaaW.PrintLast Go.Proofs.YtlopceimlipemaaW.PrintMore Go.Shelf
set_option linter.unusedVariables false
set_option linter.unusedSimpArgs false
theorem len5 {α : Type} {l : List α} (h : l.length = 5) : ∃ a b c d e, l = [a, b, c, d, e] := by
  match l, h with
  | [a, b, c, d, e], _ => exact ⟨a, b, c, d, e, rfl⟩
theorem open_op {H : Type} {enc : TypeId × Value → H} {w : World} {base : Nat} {spare : Nat → Bool} {held : Bool} {n : Nat} {cs : List Value} {x : DataW H × List MemPlace} (h : DataW.trod enc Try.prog w base spare held n 58 cs = some x) : ∃ o : Op5, cs = o.cells ∧ o.ok := by
  obtain ⟨xs, q, rfl, rfl, hcl, hxl, hf⟩ := DataW.trod_struct Try.underlying58 h
  have z58 : Try.prog.cellsOf 58 = 5 := by kernel_rfl
  obtain ⟨c0, c1, c2, c3, c4, rfl⟩ := len5 (hcl.trans z58)
  obtain ⟨x0, x1, x2, x3, x4, rfl⟩ := len5 hxl
  have z3 : Try.prog.cellsOf 3 = 1 := by kernel_rfl
  have z5 : Try.prog.cellsOf 5 = 1 := by kernel_rfl
  have f0 : DataW.trod enc Try.prog w base spare held q 5 (([c0, c1, c2, c3, c4].drop 0).take (Try.prog.cellsOf 5)) = some x0 := hf 0 _ rfl
  have f1 : DataW.trod enc Try.prog w base spare held q 5 (([c0, c1, c2, c3, c4].drop 1).take (Try.prog.cellsOf 5)) = some x1 := hf 1 _ rfl
  have f2 : DataW.trod enc Try.prog w base spare held q 5 (([c0, c1, c2, c3, c4].drop 2).take (Try.prog.cellsOf 5)) = some x2 := hf 2 _ rfl
  have f3 : DataW.trod enc Try.prog w base spare held q 3 (([c0, c1, c2, c3, c4].drop 3).take (Try.prog.cellsOf 3)) = some x3 := hf 3 _ rfl
  have f4 : DataW.trod enc Try.prog w base spare held q 3 (([c0, c1, c2, c3, c4].drop 4).take (Try.prog.cellsOf 3)) = some x4 := hf 4 _ rfl
  rw [z5] at f0 f1 f2
  rw [z3] at f3 f4
  obtain ⟨a0, e0, _, w0⟩ := DataW.trod_int Try.underlying5 (show DataW.trod enc Try.prog w base spare held q 5 [c0] = some x0 from f0)
  obtain ⟨a1, e1, _, w1⟩ := DataW.trod_int Try.underlying5 (show DataW.trod enc Try.prog w base spare held q 5 [c1] = some x1 from f1)
  obtain ⟨a2, e2, _, w2⟩ := DataW.trod_int Try.underlying5 (show DataW.trod enc Try.prog w base spare held q 5 [c2] = some x2 from f2)
  obtain ⟨a3, e3, _, w3⟩ := DataW.trod_int Try.underlying3 (show DataW.trod enc Try.prog w base spare held q 3 [c3] = some x3 from f3)
  obtain ⟨a4, e4, _, w4⟩ := DataW.trod_int Try.underlying3 (show DataW.trod enc Try.prog w base spare held q 3 [c4] = some x4 from f4)
  cases e0; cases e1; cases e2; cases e3; cases e4
  exact ⟨⟨a0, a1, a2, a3, a4⟩, rfl, ⟨(u8_bounds w0).1, (u8_bounds w0).2, (u8_bounds w1).1, (u8_bounds w1).2, (u8_bounds w2).1, (u8_bounds w2).2⟩⟩
theorem pick_ops {H : Type} {enc : TypeId × Value → H} {w : World} {base : Nat} {spare : Nat → Bool} {held : Bool} {n : Nat} :
    ∀ (els : List (DataW H × List MemPlace)) (f : Nat → Option (List Value)), (∀ i, i < els.length → (f i).bind (DataW.trod enc Try.prog w base spare held n 58) = els[i]?) →
      ∃ l : List Op5, l.length = els.length ∧ (∀ o ∈ l, o.ok) ∧ ∀ (j : Nat) (p : Op5), l[j]? = some p → f j = some p.cells
  | [], _, _ => ⟨[], rfl, by simp, by simp⟩
  | y :: r, f, h => by
    have h0 := h 0 (by simp)
    simp only [List.getElem?_cons_zero] at h0
    obtain ⟨c, hc, hr⟩ := Option.bind_eq_some_iff.1 h0
    obtain ⟨o, rfl, ho⟩ := open_op hr
    obtain ⟨l, hl, hq, hk⟩ := pick_ops r (fun i => f (i + 1)) (fun i hi => by have := h (i + 1) (by simpa using hi); simpa using this)
    refine ⟨o :: l, by simp [hl], ?_, ?_⟩
    · intro z hz
      rcases List.mem_cons.1 hz with rfl | hz
      · exact ho
      · exact hq z hz
    · intro j p hj
      cases j with
      | zero => simp only [List.getElem?_cons_zero, Option.some.injEq] at hj; subst hj; exact hc
      | succ j => exact hk j p (by simpa using hj)
theorem open_ops {H : Type} {enc : TypeId × Value → H} {w : World} {base : Nat} {spare : Nat → Bool} {held : Bool} {n : Nat} {cs : List Value} {x : DataW H × List MemPlace} (h : DataW.trod enc Try.prog w base spare held n 54 cs = some x) :
    ∃ (l : List Op5) (A : Option Addr) (c : Nat), cs = [.slice A l.length c] ∧ l.length ≤ c ∧ OpsC w A l.length l ∧ (∀ o ∈ l, o.ok) := by
  have z58 : Try.prog.cellsOf 58 = 5 := by kernel_rfl
  rcases DataW.trod_slice Try.underlying54 h with ⟨rfl, rfl⟩ | ⟨a, len, cap, elems, rest, n', hn, rfl, rfl, hb, hl, hm, hlen, hel, hsp, hns⟩
  · exact ⟨[], none, 0, rfl, Nat.le_refl _, ⟨rfl, by decide, fun h => absurd h (by simp)⟩, by simp⟩
  · obtain ⟨l, h1, h3, h4⟩ := pick_ops elems (fun i => w.cells? base (a.add (i * Try.prog.cellsOf 58)) (Try.prog.cellsOf 58)) (fun i hi => hel i (by omega))
    refine ⟨l, some a, cap, by rw [h1, hlen], by omega, ⟨rfl, by simp [maxLen] at hm; omega, fun _ => ⟨a, rfl, fun j p hj => ?_⟩⟩, h3⟩
    have hc := h4 j p hj
    obtain ⟨_, hcl, hcc⟩ := World.cells?_some hc
    refine ⟨p.cells, rfl, rfl, fun i u hu => ?_⟩
    have hi : i < p.cells.length := by
      rcases Nat.lt_or_ge i p.cells.length with h | h
      · exact h
      · rw [List.getElem?_eq_none h] at hu; cases hu
    have hl5 : p.cells.length = 5 := rfl
    have := hcc i (by rw [z58]; omega)
    rw [Go.Deep.add_add, z58] at this
    rw [this]; exact hu

end Go.Proofs.Ytlopceimlipemaa.Rope
