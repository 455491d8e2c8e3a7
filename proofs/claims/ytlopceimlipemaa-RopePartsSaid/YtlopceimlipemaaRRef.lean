/- Ropes: what the reference's functions on lists answer. -/
import Derived.Test.YtlopceimlipemaaRHelp
import Derived.Laws.AppendOwnNone
namespace Go.Proofs.Ytlopceimlipemaa.Rope
open Go.RowKit Go.Proofs.YtlopceimlipemaaW.PrintWords Go.Proofs.YtlopceimlipemaaW.PrintLast Go.Proofs.YtlopceimlipemaaW.PrintMore Go.Shelf
set_option linter.unusedVariables false
set_option linter.unusedSimpArgs false
attribute [local go_sem] max2_int min2_int max_two min_two max_three min_three max_four min_four

set_option maxRecDepth 100000 in
set_option maxHeartbeats 4000000 in
theorem within.calls (a b c : Int) (w : World) : Calls Try.prog 54 #[.int .i64 a, .int .i64 b, .int .i64 c] w fun e w' => e = .returned (.int .i64 (mn (mx a b) c)) ∧ w' = w := by
  go_enter Try.func54, Try.ntmps54
  go_wp2
  all_goals
    go_ret
    refine ⟨?_, rfl⟩
    simp only [mn, mx]
    repeat' split
    all_goals first | rfl | (exfalso; omega) | (simp; omega)
/-- An append of ints, whatever lies behind them: a row of one's own. -/
theorem append_ints {P : Program} {w : World} {ops : Array Oper} {rest : List Oper} {o : Oper} {a : Act} {Q : Exit → Act → World → Prop} (hgd : o.guard = none) (s x : Operand) (t e : TypeId)
    (ho : o.op = .call { callee := .builtin .append, args := #[s, x], argTypes := #[t, t] })
    (base : Nat) (i : TypeInfo) (ht : P.underlying t = some (.slice e)) (hi : P.info? e = some i) (hz : i.zero = some (.int .i64 0)) (hsize : i.size = 1) (hby : i.bytes = 8)
    (v : Value) (n : Nat) (xs : List Int) (hs : a.eval s = v) (hown : w.ownsRow base e 1 v n (xs.map (.int .i64)))
    (A : Option Addr) (m c : Nat) (ys : List Int) (hx : a.eval x = .slice A m c) (hC : D_int.C w A m ys) (hl : ys.length = m) (hc : A = none → c = 0) (hb : (n + m) * 8 ≤ 140737488355328) (hbase : base ≤ w.heap.size)
    (h : ∀ v' w', w'.ownsRow base e 1 v' (n + m) ((xs ++ ys).map (.int .i64)) → w.grownBy w' v.ownBlock → wpList P ops Q rest (a.put o.dst v') w') : wpList P ops Q (o :: rest) a w := by
  have hm0 : m = 0 → ys = [] := fun h0 => List.eq_nil_of_length_eq_zero (by omega)
  have hml : (140737488355328 : Nat) ≤ maxLen := by decide
  cases A with
  | none =>
    have hc' := hc rfl
    have hm : m = 0 := by
      rcases Nat.eq_zero_or_pos m with h0 | h0
      · exact h0
      · obtain ⟨ad, e1, _⟩ := C_cells_int (xs := ys) (by rw [hl]; exact hC) (by omega)
        cases e1
    have hy := hm0 hm
    subst hm; subst hc'; subst hy
    exact wpList_append_own_none hgd s x t ho base e i 1 ht (by rw [hi]) v n _ hs hown hx (h v w (by simpa using hown) (World.grownBy.refl w _))
  | some ad =>
    refine wpList_append_own w hgd s x t ho base e i (.int .i64 0) 1 8 ht hi hz hsize hby rfl (by decide) v n _ hs hown ad m c (ys.map (.int .i64)) hx (by simp [hl]) ?_ (by simp [Value.oneCell']) (by omega) hb hbase ?_
    · intro j u hj
      rcases Nat.eq_zero_or_pos m with h0 | h0
      · rw [hm0 h0] at hj; simp at hj
      · obtain ⟨ad', e1, e2⟩ := C_cells_int (xs := ys) (by rw [hl]; exact hC) (by omega)
        cases e1
        exact e2 j u (by rw [flatMap_int]; exact hj)
    · intro v' w' h1 h2 _
      exact h v' w' (by rw [List.map_append]; exact h1) h2

/-- A nil row has no room. -/
theorem own_none {w : World} {base n k c : Nat} {e : TypeId} {A : Option Addr} {xs : List Value} (h : w.ownsRow base e 1 (.slice A k c) n xs) : A = none → c = 0 := by
  rintro rfl
  rcases h.2 with ⟨e1, _⟩ | ⟨g, cap, cur, e1, _⟩
  · cases e1; rfl
  · cases e1
theorem own_base {w : World} {base n k : Nat} {e : TypeId} {v : Value} {xs : List Value} (h : w.ownsRow base e 1 v n xs) (hk : v.ownBlock = some k) : base ≤ k := by
  rcases h.2 with ⟨rfl, _⟩ | ⟨g, cap, cur, rfl, hb, _⟩
  · simp [Value.ownBlock] at hk
  · have : g = k := by simpa [Value.ownBlock] using hk
    omega
def partL (l : List Int) (f t : Int) : List Int := (l.take (hiB l.length f t).toNat).drop (loB l.length f).toNat
set_option maxRecDepth 100000 in
set_option maxHeartbeats 4000000 in
theorem Part19.calls (A : Option Addr) (c n : Nat) (l : List Int) (f t : Int) (w : World) (hC : D_int.C w A n l) (hl : l.length = n) (hc : n ≤ c) (hA : A = none → c = 0) (hb : n * 8 ≤ 140737488351232) :
    Calls Try.prog 19 #[.slice A n c, .int .i64 f, .int .i64 t] w fun e w' => ∃ A' k c', e = .returned (.slice A' k c') ∧ (partL l f t).length = k ∧ k ≤ c' ∧ (A' = none → c' = 0) ∧ D_int.C w' A' k (partL l f t) ∧ Below w.heap.size w w' := by
  obtain ⟨i0, hi, hz0, hz1, hz2⟩ := info_parts info_int
  obtain ⟨a, ha⟩ : ∃ a : Nat, loB n f = a := ⟨(loB n f).toNat, by unfold loB mn mx; repeat' split; all_goals omega⟩
  obtain ⟨b, hb'⟩ : ∃ b : Nat, hiB n f t = b := ⟨(hiB n f t).toNat, by unfold hiB mn mx; repeat' split; all_goals omega⟩
  have hab : a ≤ b ∧ b ≤ n := by
    have h1 := ha; have h2 := hb'
    unfold loB mn mx at h1; unfold hiB mn mx at h2
    repeat' split at h1
    all_goals (repeat' split at h2)
    all_goals omega
  obtain ⟨t', ht'⟩ : ∃ t', mn (mx t 0) n = t' := ⟨_, rfl⟩
  have hbt : (b : Int) = mx t' a := by rw [← hb', ← ht', ← ha]; rfl
  have hP : partL l f t = (l.take b).drop a := by unfold partL; rw [hl, ha, hb']; rfl
  rw [hP]
  have hlen : ((l.take b).drop a).length = b - a := by rw [List.length_drop, List.length_take]; omega
  have hM : D_int.C w (if c = a then A else A.map (·.add (a * 1))) (b - a) ((l.take b).drop a) := by
    have := Kd.C_mid (lo := a) (hi := b) (c := c) (by rw [hl]; exact hC) hab.1 (by omega) (by omega)
    rwa [hlen] at this
  have hX : (if c = a then A else A.map (·.add (a * 1))) = none → c - a = 0 := by
    intro h
    split at h
    · omega
    · cases A with
      | none => have := hA rfl; omega
      | some ad => simp at h
  have hcut := cut_mid (P := Try.prog) 22 3 .i64 .i64 Try.underlying22 hi 1 hz1 A n c a b (by omega) (by omega) (by omega) (by omega)
  simp only [Int.toNat_natCast] at hcut
  obtain ⟨X, hXe⟩ : ∃ X, X = (if c = a then A else A.map (·.add (a * 1))) := ⟨_, rfl⟩
  rw [← hXe] at hM hX hcut
  have HM := Aside0.mk hM
  have HX := Aside0.mk hX
  have HA := Aside0.mk ha
  have HT := Aside0.mk ht'
  have HBT := Aside0.mk hbt
  have HLEN := Aside0.mk hlen
  have h1 := hab.1
  have h2 := hab.2
  have hb1 : Below w.heap.size w (w.alloc (.cells #[] 3)) := (Below.refl _ w).alloc (Nat.le_refl _) _
  have ho1 : (w.alloc (.cells #[] 3)).ownsRow w.heap.size 3 1 (.slice (some ⟨w.heap.size, 0, none⟩) 0 0) 0 (([] : List Int).map (.int .i64)) := ⟨rfl, .inr ⟨_, 0, _, rfl, Nat.le_refl _, heap_new w _, Nat.le_refl _, Nat.zero_le _, rfl, rfl⟩⟩
  have HO := Aside0.mk ho1
  have HB := Aside0.mk hb1
  clear hM hX ha ht' hbt hlen hab hb' hP hC hl hA hXe ho1 hb1
  have hcs : (t' < (a : Int) ∧ (b : Int) = a) ∨ (¬ t' < (a : Int) ∧ t' = (b : Int)) := by
    have := HBT.out
    unfold mx at this
    split at this <;> omega
  rcases hcs with ⟨hlt, hbe⟩ | ⟨hlt, hbe⟩
  · obtain rfl : a = b := by omega
    rw [Nat.sub_self] at HM HLEN hcut
    have HCUT := Aside0.mk hcut
    clear hcut
    go_enter Try.func19, Try.ntmps19
    go_wp2_with fail
    refine (within.calls _ _ _ _).mono ?_
    rintro e w1 ⟨rfl, rfl⟩
    rw [show mn (mx f 0) (n : Int) = (a : Int) from HA.out]
    go_wp2_with fail
    refine (within.calls _ _ _ _).mono ?_
    rintro e w1 ⟨rfl, rfl⟩
    rw [HT.out]
    have hcut' := HCUT.out
    go_wp2_with (at_builtin; refine append_ints rfl _ _ 22 3 rfl w1.heap.size i0 Try.underlying22 hi hz0 hz1 hz2 _ 0 ([] : List Int) rfl HO.out X _ _ _ rfl (Kd.C_below HM.out HB.out) HLEN.out HX.out (by omega) (by simp) ?_; intro v' w2 hown' hgrow)
    have hB2 := HB.out.grown hgrow (by simp) (fun k e => by have e2 : w1.heap.size = k := by simpa [Act.eval, Value.ownBlock] using e
                                                            omega)
    simp only [Nat.zero_add, List.nil_append] at hown'
    have HO2 := Aside0.mk hown'
    have HB2 := Aside0.mk hB2
    clear hown' hgrow hB2 hcut'
    go_ret
    obtain ⟨A', c', rfl, hc', hC'⟩ := own_C_int HO2.out HLEN.out
    exact ⟨A', _, c', rfl, HLEN.out, hc', own_none HO2.out, hC', HB2.out⟩
  · subst hbe
    have HCUT := Aside0.mk hcut
    clear hcut
    go_enter Try.func19, Try.ntmps19
    go_wp2_with fail
    refine (within.calls _ _ _ _).mono ?_
    rintro e w1 ⟨rfl, rfl⟩
    rw [show mn (mx f 0) (n : Int) = (a : Int) from HA.out]
    go_wp2_with fail
    refine (within.calls _ _ _ _).mono ?_
    rintro e w1 ⟨rfl, rfl⟩
    rw [HT.out]
    have hcut' := HCUT.out
    go_wp2_with (at_builtin; refine append_ints rfl _ _ 22 3 rfl w1.heap.size i0 Try.underlying22 hi hz0 hz1 hz2 _ 0 ([] : List Int) rfl HO.out X _ _ _ rfl (Kd.C_below HM.out HB.out) HLEN.out HX.out (by omega) (by simp) ?_; intro v' w2 hown' hgrow)
    have hB2 := HB.out.grown hgrow (by simp) (fun k e => by have e2 : w1.heap.size = k := by simpa [Act.eval, Value.ownBlock] using e
                                                            omega)
    simp only [Nat.zero_add, List.nil_append] at hown'
    have HO2 := Aside0.mk hown'
    have HB2 := Aside0.mk hB2
    clear hown' hgrow hB2 hcut'
    go_ret
    obtain ⟨A', c', rfl, hc', hC'⟩ := own_C_int HO2.out HLEN.out
    exact ⟨A', _, c', rfl, HLEN.out, hc', own_none HO2.out, hC', HB2.out⟩

set_option maxRecDepth 100000 in
set_option maxHeartbeats 4000000 in
theorem Join56.calls (A : Option Addr) (c n : Nat) (l : List Int) (A2 : Option Addr) (c2 n2 : Nat) (m : List Int) (w : World) (hC : D_int.C w A n l) (hl : l.length = n) (hc : n ≤ c) (hA : A = none → c = 0) (hC2 : D_int.C w A2 n2 m) (hl2 : m.length = n2) (hc2 : n2 ≤ c2) (hA2 : A2 = none → c2 = 0) (hb : (n + n2) * 8 ≤ 140737488355328) :
    Calls Try.prog 56 #[.slice A n c, .slice A2 n2 c2] w fun e w' => ∃ A' k c', e = .returned (.slice A' k c') ∧ (l ++ m).length = k ∧ k ≤ c' ∧ (A' = none → c' = 0) ∧ D_int.C w' A' k (l ++ m) ∧ Below w.heap.size w w' := by
  obtain ⟨i0, hi, hz0, hz1, hz2⟩ := info_parts info_int
  have hlen : (l ++ m).length = n + n2 := by rw [List.length_append, hl, hl2]
  have hb1 : Below w.heap.size w (w.alloc (.cells #[] 3)) := (Below.refl _ w).alloc (Nat.le_refl _) _
  have ho1 : (w.alloc (.cells #[] 3)).ownsRow w.heap.size 3 1 (.slice (some ⟨w.heap.size, 0, none⟩) 0 0) 0 (([] : List Int).map (.int .i64)) := ⟨rfl, .inr ⟨_, 0, _, rfl, Nat.le_refl _, heap_new w _, Nat.le_refl _, Nat.zero_le _, rfl, rfl⟩⟩
  have HO := Aside0.mk ho1
  have HB := Aside0.mk hb1
  have HC := Aside0.mk hC
  have HC2 := Aside0.mk hC2
  have HL := Aside0.mk hl
  have HL2 := Aside0.mk hl2
  have HA := Aside0.mk hA
  have HA2 := Aside0.mk hA2
  have HLEN := Aside0.mk hlen
  clear ho1 hb1 hC hC2 hl hl2 hA hA2 hlen
  go_enter Try.func56, Try.ntmps56
  have tok1 : True := trivial
  go_wp2_with (first
    | (at_builtin; have _t := tok1; refine append_ints rfl _ _ 22 3 rfl w.heap.size i0 Try.underlying22 hi hz0 hz1 hz2 _ 0 ([] : List Int) rfl HO.out A n c l rfl (Kd.C_below HC.out HB.out) HL.out HA.out (by omega) (by simp) ?_; intro v' w2 hown' hgrow; clear tok1 _t
       have hB2 := HB.out.grown hgrow (by simp) (fun k e => by have e2 : w.heap.size = k := by simpa [Act.eval, Value.ownBlock] using e
                                                               omega); simp only [Nat.zero_add, List.nil_append] at hown'; have HO2 := Aside0.mk hown'; have HB2 := Aside0.mk hB2; clear hown' hgrow hB2)
    | (at_builtin; refine append_ints rfl _ _ 22 3 rfl w.heap.size i0 Try.underlying22 hi hz0 hz1 hz2 _ n l rfl HO2.out A2 n2 c2 m rfl (Kd.C_below HC2.out HB2.out) HL2.out HA2.out (by omega) HB2.out.size ?_; intro v3 w3 hown' hgrow
       have hB3 := HB2.out.grown hgrow HB2.out.size (fun k e => own_base HO2.out e); have HO3 := Aside0.mk hown'; have HB3 := Aside0.mk hB3; clear hown' hgrow hB3))
  go_ret
  obtain ⟨A', c', rfl, hc', hC'⟩ := own_C_int HO3.out HLEN.out
  exact ⟨A', _, c', rfl, HLEN.out, hc', own_none HO3.out, hC', HB3.out⟩

def replL (l : List Int) (f t : Int) (m : List Int) : List Int := (l.take (loB l.length f).toNat ++ m) ++ l.drop (hiB l.length f t).toNat
theorem partL_all (l : List Int) (a : Nat) (ha : a ≤ l.length) : partL l 0 a = l.take a := by
  unfold partL
  rw [show hiB l.length 0 (a : Int) = (a : Int) by unfold hiB mn mx; repeat' split; all_goals omega, show loB l.length 0 = 0 by unfold loB mn mx; repeat' split; all_goals omega]
  simp
theorem partL_drop (l : List Int) (b : Nat) (hb : b ≤ l.length) : partL l b l.length = l.drop b := by
  unfold partL
  rw [show hiB l.length (b : Int) (l.length : Int) = (l.length : Int) by unfold hiB mn mx; repeat' split; all_goals omega, show loB l.length (b : Int) = (b : Int) by unfold loB mn mx; repeat' split; all_goals omega]
  simp
set_option maxRecDepth 100000 in
set_option maxHeartbeats 4000000 in
theorem Replace21.calls (A : Option Addr) (c n : Nat) (l : List Int) (f t : Int) (A2 : Option Addr) (c2 n2 : Nat) (m : List Int) (w : World) (hC : D_int.C w A n l) (hl : l.length = n) (hc : n ≤ c) (hA : A = none → c = 0) (hC2 : D_int.C w A2 n2 m) (hl2 : m.length = n2) (hc2 : n2 ≤ c2) (hA2 : A2 = none → c2 = 0)
    (hb : n * 8 ≤ 35184372088832) (hb2 : n2 * 8 ≤ 35184372088832) :
    Calls Try.prog 21 #[.slice A n c, .int .i64 f, .int .i64 t, .slice A2 n2 c2] w fun e w' => ∃ A' k c', e = .returned (.slice A' k c') ∧ (replL l f t m).length = k ∧ k ≤ c' ∧ (A' = none → c' = 0) ∧ D_int.C w' A' k (replL l f t m) ∧ Below w.heap.size w w' := by
  obtain ⟨a, ha⟩ : ∃ a : Nat, loB n f = a := ⟨(loB n f).toNat, by unfold loB mn mx; repeat' split; all_goals omega⟩
  obtain ⟨b, hb'⟩ : ∃ b : Nat, hiB n f t = b := ⟨(hiB n f t).toNat, by unfold hiB mn mx; repeat' split; all_goals omega⟩
  have hab : a ≤ b ∧ b ≤ n := by
    have h1 := ha; have h2 := hb'
    unfold loB mn mx at h1; unfold hiB mn mx at h2
    repeat' split at h1
    all_goals (repeat' split at h2)
    all_goals omega
  obtain ⟨t', ht'⟩ : ∃ t', mn (mx t 0) n = t' := ⟨_, rfl⟩
  have hbt : (b : Int) = mx t' a := by rw [← hb', ← ht', ← ha]; rfl
  have hP : replL l f t m = (l.take a ++ m) ++ l.drop b := by unfold replL; rw [hl, ha, hb']; rfl
  rw [hP]
  have hp1 : partL l 0 a = l.take a := partL_all l a (by omega)
  have hp2 : partL l b n = l.drop b := by have := partL_drop l b (by omega); rwa [hl] at this
  have hp1l : (l.take a).length = a := by rw [List.length_take]; omega
  have HA := Aside0.mk ha
  have HT := Aside0.mk ht'
  have HP1 := Aside0.mk hp1
  have HP2 := Aside0.mk hp2
  have HP1L := Aside0.mk hp1l
  have HC := Aside0.mk hC
  have HL := Aside0.mk hl
  have HAN := Aside0.mk hA
  have HC2 := Aside0.mk hC2
  have HL2 := Aside0.mk hl2
  have HA2 := Aside0.mk hA2
  have h1 := hab.1
  have h2 := hab.2
  clear ha hb' ht' hab hP hp1 hp2 hp1l hC hl hA hC2 hl2 hA2
  have hcs : (t' < (a : Int) ∧ a = b) ∨ ((a : Int) ≤ t' ∧ t' = (b : Int)) := by
    unfold mx at hbt
    split at hbt <;> omega
  clear hbt
  rcases hcs with ⟨hlt, hbe⟩ | ⟨hlt, hbe⟩
  all_goals
    subst hbe
    go_enter Try.func21, Try.ntmps21
    go_wp2_with fail
    refine (within.calls _ _ _ _).mono ?_
    rintro e w1 ⟨rfl, rfl⟩
    rw [show mn (mx f 0) (n : Int) = (a : Int) from HA.out]
    go_wp2_with fail
    refine (within.calls _ _ _ _).mono ?_
    rintro e w1 ⟨rfl, rfl⟩
    rw [HT.out]
    go_wp2_with fail
    all_goals try (exfalso; omega)
    refine (Part19.calls A c n l 0 a _ HC.out HL.out hc HAN.out (by omega)).mono ?_
    rintro e w2 ⟨A3, k3, c3, rfl, h31, h32, h33, hC3, hb3⟩
    rw [HP1.out] at h31 hC3
    have HP3 := Aside0.mk h31
    have HC3 := Aside0.mk hC3
    have HA3 := Aside0.mk h33
    have HB3 := Aside0.mk hb3
    have h3l : k3 = a := h31.symm.trans HP1L.out
    subst h3l
    clear h31 hC3 h33 hb3
    go_wp2_with fail
    refine (Join56.calls A3 c3 _ _ A2 c2 n2 m _ HC3.out HP3.out h32 HA3.out (Kd.C_below HC2.out HB3.out) HL2.out hc2 HA2.out (by omega)).mono ?_
    rintro e w4 ⟨A4, k4, c4, rfl, h41, h42, h43, hC4, hb4⟩
    have h4l : k4 ≤ n + n2 := by rw [← h41, List.length_append, HP3.out, HL2.out]; omega
    have HP4 := Aside0.mk h41
    have HC4 := Aside0.mk hC4
    have HA4 := Aside0.mk h43
    have HB4 := Aside0.mk (below_step HB3.out hb4)
    clear h41 hC4 h43 hb4
    go_wp2_with fail
    refine (Part19.calls A c n l _ n _ (Kd.C_below HC.out HB4.out) HL.out hc HAN.out (by omega)).mono ?_
    rintro e w5 ⟨A5, k5, c5, rfl, h51, h52, h53, hC5, hb5⟩
    rw [HP2.out] at h51 hC5
    have h5l : k5 ≤ n := by rw [← h51, List.length_drop, HL.out]; omega
    have HP5 := Aside0.mk h51
    have HC5 := Aside0.mk hC5
    have HA5 := Aside0.mk h53
    have HC4' := Aside0.mk (Kd.C_below HC4.out hb5)
    have HB5 := Aside0.mk (below_step HB4.out hb5)
    clear h51 hC5 h53 hb5
    go_wp2_with fail
    refine (Join56.calls A4 c4 _ _ A5 c5 _ _ _ HC4'.out HP4.out h42 HA4.out HC5.out HP5.out h52 HA5.out (by omega)).mono ?_
    rintro e w6 ⟨A6, k6, c6, rfl, h61, h62, h63, hC6, hb6⟩
    have H6 := Aside0.mk (And.intro h61 (And.intro h62 (And.intro h63 (And.intro hC6 (below_step HB5.out hb6)))))
    clear h61 h62 h63 hC6 hb6
    go_wp2_with fail
    go_ret
    obtain ⟨g1, g2, g3, g4, g5⟩ := H6.out
    exact ⟨A6, _, c6, rfl, g1, g2, g3, g4, g5⟩

end Go.Proofs.Ytlopceimlipemaa.Rope
