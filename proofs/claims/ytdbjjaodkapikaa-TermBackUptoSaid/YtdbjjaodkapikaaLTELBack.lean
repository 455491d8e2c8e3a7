/- The law TermBack, by hand. -/
import Derived.Test.YtdbjjaodkapikaaLTEAw
import Derived.Test.YtdbjjaodkapikaaLTEPlain
import Derived.Test.YtdbjjaodkapikaaLTECmp
section
namespace Go.Proofs.Ytdbjjaodkapikaa.TE
open Go.RowKit Go.Shelf Go.Proofs.YtdbjjaodkapikaaW.PrintWords Go.Proofs.YtdbjjaodkapikaaW.PrintLast Go.Proofs.YtdbjjaodkapikaaW.PrintMore Go.Proofs.Ytdbjjaodkapikaa.Evs
set_option linter.unusedVariables false
set_option linter.unusedSimpArgs false
theorem fine_le {m n : Int} (h : m ≤ n) {x : Tm} (hx : fineS m x = true) : fineS n x = true := by
  unfold fineS at *; simp only [Bool.and_eq_true, Bool.not_eq_true', decide_eq_false_iff_not] at *; exact ⟨by omega, hx.2⟩
theorem check_le {m n : Int} (h : m ≤ n) {l : List Tm} (hl : checkS m l = 0) : checkS n l = 0 := by
  unfold checkS at *
  split at hl
  · simp at hl
  · split at hl
    · simp at hl
    · split at hl
      · rename_i h1 h2 h3
        rw [if_neg h1, if_neg h2, if_pos]; rw [List.all_eq_true] at *
        exact fun x hx => fine_le h (h3 x hx)
      · simp at hl
theorem rows1 {w : World} {A : Option Addr} {c : Nat} {l : List Tm} (hC : Kd.C k42 w A l.length l) (hc : l.length ≤ c) :
    Kd.C (Kd.slice 42 k42) (w.alloc (.cells #[.slice A l.length c] 22)) (some ⟨w.heap.size, 0, none⟩) 1 [l] := by
  refine ⟨rfl, by decide, fun _ => ⟨_, rfl, fun j p hp => ?_⟩⟩
  have hj : j = 0 := by
    rcases Nat.eq_zero_or_pos j with h | h
    · exact h
    · rw [List.getElem?_eq_none (by simp; omega)] at hp; simp at hp
  subst hj
  obtain rfl : l = p := by simpa using hp
  refine ⟨[.slice A l.length c], rfl, ⟨A, c, rfl, hc, Kd.C_below hC ((Below.refl _ _).alloc (Nat.le_refl _) _)⟩, fun i u hu => ?_⟩; rw [add_plain]; refine (q5 (World.alloc_heap_new w _) _).trans ?_
  match i, hu with
  | 0, hu => exact hu
set_option maxRecDepth 100000 in
set_option maxHeartbeats 4000000 in
theorem TermErrors.calls (A : Option Addr) (c : Nat) (l : List Tm) (w : World) (hC : Kd.C k42 w A l.length l) (hc : l.length ≤ c) (ok : ok42s l) (hb : bk42s l ≤ 1048576) :
    Calls Try.prog 4 #[.slice A l.length c] w fun e w' => e = .returned (.bool true) ∧ Below w.heap.size w w' := by
  have hb' : bk42s l ≤ 1099511627776 := by omega
  obtain ⟨k1, hk1⟩ := (size_ev hb').get; obtain ⟨k2, hk2⟩ := (rsize_ev _ l (Nat.le_refl _) hb').get; obtain ⟨k3, hk3⟩ := (show Evt (fun k => term_Value.f k l) (checkS 4 l) from Evt.bind (check_ev hb' 4) (Evt.const _)).get; obtain ⟨k4, hk4⟩ := (show Evt (fun k => term_Pattern.f k l) (checkS 7 l) from Evt.bind (check_ev hb' 7) (Evt.const _)).get; obtain ⟨k5, hk5⟩ := (Result_ev hb').get; obtain ⟨k6, hk6⟩ := (show Evt (fun k => chiasmusref01_Value.f k l) (checkS 4 l) from Evt.bind (wrong_ev hb' 4) (Evt.const _)).get; obtain ⟨k7, hk7⟩ := (show Evt (fun k => chiasmusref01_Pattern.f k l) (checkS 7 l) from Evt.bind (wrong_ev hb' 7) (Evt.const _)).get; obtain ⟨k8, hk8⟩ := (rResult_ev hb').get; have h47 : checkS 4 l = 0 → checkS 7 l = 0 := check_le (by decide); have h78 : checkS 7 l = 0 → checkS 8 l = 0 := check_le (by decide); have H47 := Aside0.mk h47; have H78 := Aside0.mk h78; obtain ⟨N, hN⟩ : ∃ N : Int, N = ((flat l).length : Int) := ⟨_, rfl⟩; obtain ⟨D, hD⟩ : ∃ D : Int, D = dpL 0 l := ⟨_, rfl⟩; obtain ⟨v, hv⟩ : ∃ v : Int, v = checkS 4 l := ⟨_, rfl⟩; obtain ⟨p, hp⟩ : ∃ p : Int, p = checkS 7 l := ⟨_, rfl⟩; obtain ⟨r, hr⟩ : ∃ r : Int, r = checkS 8 l := ⟨_, rfl⟩; rw [← hN, ← hD] at hk1 hk2; rw [← hv] at hk3 hk6; rw [← hp] at hk4 hk7; rw [← hr] at hk5 hk8; have hcall0 := Small.calls 5000 (some ⟨w.heap.size, 0, none⟩) 1 1 [l] _ (rows1 hC hc) rfl (Nat.le_refl _); have hbl : Below w.heap.size w (w.alloc (.cells #[.slice A l.length c] 22)) := (Below.refl _ _).alloc (Nat.le_refl _) _; obtain ⟨W0, hW0⟩ : ∃ W0, w.alloc (.cells #[.slice A l.length c] 22) = W0 := ⟨_, rfl⟩; have HW0 := Aside0.mk hW0; rw [hW0] at hcall0 hbl; obtain ⟨b, hbb⟩ : ∃ b, b = (cntAll 5000 [l]).1 := ⟨_, rfl⟩; rw [← hbb] at hcall0; have HC := Aside0.mk hC; have HCC := Aside0.mk hc; have HBL := Aside0.mk hbl; have HCALL0 := Aside0.mk hcall0; have HK1 := Aside0.mk hk1; have HK2 := Aside0.mk hk2; have HK3 := Aside0.mk hk3; have HK4 := Aside0.mk hk4; have HK5 := Aside0.mk hk5; have HK6 := Aside0.mk hk6; have HK7 := Aside0.mk hk7; have HK8 := Aside0.mk hk8
  have h47' : v = 0 → p = 0 := by rw [hv, hp]; exact h47
  have h78' : p = 0 → r = 0 := by rw [hp, hr]; exact h78
  have H47' := Aside0.mk h47'; have H78' := Aside0.mk h78'; clear hC hc ok hb hb' hk1 hk2 hk3 hk4 hk5 hk6 hk7 hk8 h47 h78 H47 H78 hN hD hv hp hr hcall0 hbl hW0 hbb h47' h78'
  go_enter Try.func4, Try.ntmps4
  go_wp2_with fail
  rw [HW0.out]; refine HCALL0.out.mono ?_; rintro e w1 ⟨rfl, hb1⟩; have HB1 := Aside0.mk (q14 HBL.out hb1); clear hb1
  cases b with
  | false =>
    go_wp2_with fail
    refine (awake.calls w1).mono ?_; rintro e w2 ⟨rfl, hb2⟩; have HB2 := Aside0.mk (q14 HB1.out hb2); clear hb2
    go_wp2_with fail
    go_ret; exact ⟨rfl, HB2.out⟩
  | true =>
    go_wp2_with fail
    refine (term_Size.calls k1 A c l N D w1 (Kd.C_below HC.out HB1.out) HCC.out HK1.out).mono ?_; rintro e w2 ⟨rfl, hb2⟩; have HB2 := Aside0.mk (q14 HB1.out hb2); clear hb2
    go_wp2_with fail
    refine (chiasmusref01_Size.calls k2 A c l N D w2 (Kd.C_below HC.out HB2.out) HCC.out HK2.out).mono ?_; rintro e w3 ⟨rfl, hb3⟩; have HB3 := Aside0.mk (q14 HB2.out hb3); clear hb3
    go_wp2_with fail
    refine (term_Value.calls k3 A c l _ w3 (Kd.C_below HC.out HB3.out) HCC.out HK3.out).mono ?_; rintro e w4 ⟨rfl, hb4⟩; have HB4 := Aside0.mk (q14 HB3.out hb4); clear hb4
    go_wp2_with fail
    refine (term_Pattern.calls k4 A c l _ w4 (Kd.C_below HC.out HB4.out) HCC.out HK4.out).mono ?_; rintro e w5 ⟨rfl, hb5⟩; have HB5 := Aside0.mk (q14 HB4.out hb5); clear hb5
    go_wp2_with fail
    refine (term_Result.calls k5 A c l _ w5 (Kd.C_below HC.out HB5.out) HCC.out HK5.out).mono ?_; rintro e w6 ⟨rfl, hb6⟩; have HB6 := Aside0.mk (q14 HB5.out hb6); clear hb6
    have evv : ((v : Int) == v) = true := by simp
    have epp : ((p : Int) == p) = true := by simp
    have err : ((r : Int) == r) = true := by simp
    by_cases hv0 : v = 0
    · have hp0 := H47'.out hv0; have hr0 := H78'.out hp0; subst hv0; subst hp0; subst hr0
      go_wp2_with fail
      refine (chiasmusref01_Value.calls k6 A c l _ w6 (Kd.C_below HC.out HB6.out) HCC.out HK6.out).mono ?_; rintro e w7 ⟨rfl, hb7⟩; have HB7 := Aside0.mk (q14 HB6.out hb7); clear hb7
      go_wp2_with fail
      refine (chiasmusref01_Pattern.calls k7 A c l _ w7 (Kd.C_below HC.out HB7.out) HCC.out HK7.out).mono ?_; rintro e w8 ⟨rfl, hb8⟩; have HB8 := Aside0.mk (q14 HB7.out hb8); clear hb8
      go_wp2_with fail
      refine (chiasmusref01_Result.calls k8 A c l _ w8 (Kd.C_below HC.out HB8.out) HCC.out HK8.out).mono ?_; rintro e w9 ⟨rfl, hb9⟩; have HB9 := Aside0.mk (q14 HB8.out hb9); clear hb9
      go_wp2_with fail
      refine (awake.calls w9).mono ?_; rintro e w10 ⟨rfl, hb10⟩; have HB10 := Aside0.mk (q14 HB9.out hb10); clear hb10
      go_wp2_with fail
      go_ret; exact ⟨rfl, HB10.out⟩
    · have ev : ((v : Int) == 0) = false := by simp; exact hv0
      by_cases hp0 : p = 0
      · have hr0 := H78'.out hp0; subst hp0; subst hr0; clear hv0
        go_wp2_with fail
        refine (chiasmusref01_Value.calls k6 A c l _ w6 (Kd.C_below HC.out HB6.out) HCC.out HK6.out).mono ?_; rintro e w7 ⟨rfl, hb7⟩; have HB7 := Aside0.mk (q14 HB6.out hb7); clear hb7
        go_wp2_with fail
        refine (chiasmusref01_Pattern.calls k7 A c l _ w7 (Kd.C_below HC.out HB7.out) HCC.out HK7.out).mono ?_; rintro e w8 ⟨rfl, hb8⟩; have HB8 := Aside0.mk (q14 HB7.out hb8); clear hb8
        go_wp2_with fail
        refine (chiasmusref01_Result.calls k8 A c l _ w8 (Kd.C_below HC.out HB8.out) HCC.out HK8.out).mono ?_; rintro e w9 ⟨rfl, hb9⟩; have HB9 := Aside0.mk (q14 HB8.out hb9); clear hb9
        go_wp2_with fail
        refine (awake.calls w9).mono ?_; rintro e w10 ⟨rfl, hb10⟩; have HB10 := Aside0.mk (q14 HB9.out hb10); clear hb10
        go_wp2_with fail
        go_ret; exact ⟨rfl, HB10.out⟩
      · have ep : ((p : Int) == 0) = false := by simp; exact hp0
        clear hv0 hp0
        go_wp2_with fail
        refine (chiasmusref01_Value.calls k6 A c l _ w6 (Kd.C_below HC.out HB6.out) HCC.out HK6.out).mono ?_; rintro e w7 ⟨rfl, hb7⟩; have HB7 := Aside0.mk (q14 HB6.out hb7); clear hb7
        go_wp2_with fail
        refine (chiasmusref01_Pattern.calls k7 A c l _ w7 (Kd.C_below HC.out HB7.out) HCC.out HK7.out).mono ?_; rintro e w8 ⟨rfl, hb8⟩; have HB8 := Aside0.mk (q14 HB7.out hb8); clear hb8
        go_wp2_with fail
        refine (chiasmusref01_Result.calls k8 A c l _ w8 (Kd.C_below HC.out HB8.out) HCC.out HK8.out).mono ?_; rintro e w9 ⟨rfl, hb9⟩; have HB9 := Aside0.mk (q14 HB8.out hb9); clear hb9
        go_wp2_with fail
        refine (awake.calls w9).mono ?_; rintro e w10 ⟨rfl, hb10⟩; have HB10 := Aside0.mk (q14 HB9.out hb10); clear hb10
        go_wp2_with fail
        go_ret; exact ⟨rfl, HB10.out⟩
end Go.Proofs.Ytdbjjaodkapikaa.TE
end
section
namespace Go.Proofs.Ytdbjjaodkapikaa.TE
open Go.RowKit Go.Shelf Go.Proofs.YtdbjjaodkapikaaW.PrintWords Go.Proofs.YtdbjjaodkapikaaW.PrintLast Go.Proofs.YtdbjjaodkapikaaW.PrintMore Go.Proofs.Ytdbjjaodkapikaa.Evs
set_option linter.unusedVariables false
set_option linter.unusedSimpArgs false
theorem Equal_self2 {l : List Tm} (h : bk42s l ≤ 1099511627776) : ∃ k, term_Equal.f k l l = some true := by
  obtain ⟨v5, _, _, _, e5, i5⟩ := Equals_ev h h; have hv5 : v5 = 0 := i5.2 rfl; subst hv5; obtain ⟨k, hk⟩ := e5.get; exact ⟨k, hk⟩
def El (W : World) (b i : Nat) : Prop := ∃ (x : List Tm) (A : Option Addr) (c : Nat), W.cell? ⟨b, i, none⟩ = some (.slice A x.length c) ∧ x.length ≤ c ∧ Kd.C k42 W A x.length x ∧ bk42s x ≤ 1048576
theorem El.below {W W' : World} {b i : Nat} (h : El W b i) (hb : Below W.heap.size W W') : El W' b i := by
  obtain ⟨x, A, c, h1, h2, h3, h4⟩ := h; exact ⟨x, A, c, pw_cell_below hb h1, h2, Kd.C_below h3 hb, h4⟩
theorem lit_row (W : World) (base : Nat) (A : Option Addr) (n c : Nat) (h : base ≤ W.heap.size) : (W.alloc (.cells #[.slice A n c] 22)).ownsRow base 22 1 (.slice (some ⟨W.heap.size, 0, none⟩) 1 1) 1 [.slice A n c] :=
  World.ownsRow_lit W #[.slice A n c] 1 h (by decide) rfl
theorem info_terms : (Try.prog.info? 22).map (fun i => (i.zero, i.size, i.bytes)) = some (some (.slice none 0 0), 1, 24) := by kernel_rfl
theorem el_of {W : World} {base b n cc i : Nat} {vs : List Value} {x : List Tm} {A : Option Addr} {c : Nat} (h : W.ownsRow base 22 1 (.slice (some ⟨b, 0, none⟩) n cc) n vs) (hv : vs[i]? = some (.slice A x.length c)) (hc : x.length ≤ c) (hC : Kd.C k42 W A x.length x) (hb : bk42s x ≤ 1048576) : El W b i := by
  have := h.cells (g := b) rfl i _ hv; rw [add_plain] at this; exact ⟨x, A, c, by simpa using this, hc, hC, hb⟩
set_option maxRecDepth 100000 in
set_option maxHeartbeats 4000000 in
theorem TermBack.calls (A : Option Addr) (c : Nat) (l : List Tm) (s : ByteArray) (w : World) (hC : Kd.C k42 w A l.length l) (hc : l.length ≤ c) (ok : ok42s l) (hb : bk42s l + s.size ≤ 1048576) :
    Calls Try.prog 5 #[.slice A l.length c, .string s] w fun e w' => e = .returned (.bool true) ∧ Below w.heap.size w w' := by
  have hbl : bk42s l ≤ 1048576 := by omega
  have hcall0 := Small.calls 1000 (some ⟨w.heap.size, 0, none⟩) 1 1 [l] _ (rows1 hC hc) rfl (Nat.le_refl _); have hbb : Below w.heap.size w (w.alloc (.cells #[.slice A l.length c] 22)) := (Below.refl _ _).alloc (Nat.le_refl _) _; obtain ⟨W0, hW0⟩ : ∃ W0, w.alloc (.cells #[.slice A l.length c] 22) = W0 := ⟨_, rfl⟩; have HW0 := Aside0.mk hW0; rw [hW0] at hcall0 hbb; obtain ⟨b, hbo⟩ : ∃ b, b = (cntAll 1000 [l]).1 := ⟨_, rfl⟩; rw [← hbo] at hcall0; have HC := Aside0.mk hC; have HCC := Aside0.mk hc; have HBB := Aside0.mk hbb; have HBL := Aside0.mk hbl; have HCALL0 := Aside0.mk hcall0; clear hC hc ok hb hbl hcall0 hbb hW0 hbo
  by_cases hs : 3000 < s.size
  · have e1 : decide ((3000 : Int) < (s.size : Int)) = true := decide_eq_true (by omega); have e1' : decide (3000 < s.size) = true := decide_eq_true hs; clear hs
    cases b with
    | false =>
      go_enter Try.func5, Try.ntmps5
      go_wp2_with fail
      rw [HW0.out]; refine HCALL0.out.mono ?_; rintro e w1 ⟨rfl, hb1⟩; have HB1 := Aside0.mk (q14 HBB.out hb1); clear hb1
      go_wp2_with fail
      refine (awake.calls w1).mono ?_; rintro e w2 ⟨rfl, hb2⟩; have HB2 := Aside0.mk (q14 HB1.out hb2); clear hb2
      go_wp2_with fail
      go_ret; exact ⟨rfl, HB2.out⟩
    | true =>
      go_enter Try.func5, Try.ntmps5
      go_wp2_with fail
      rw [HW0.out]; refine HCALL0.out.mono ?_; rintro e w1 ⟨rfl, hb1⟩; have HB1 := Aside0.mk (q14 HBB.out hb1); clear hb1
      go_wp2_with fail
      refine (awake.calls w1).mono ?_; rintro e w2 ⟨rfl, hb2⟩; have HB2 := Aside0.mk (q14 HB1.out hb2); clear hb2
      go_wp2_with fail
      go_ret; exact ⟨rfl, HB2.out⟩
  · have e1 : decide ((3000 : Int) < (s.size : Int)) = false := decide_eq_false (by omega); have e1' : decide (3000 < s.size) = false := decide_eq_false hs; have HS := Aside0.mk hs; clear hs
    cases b with
    | false =>
      go_enter Try.func5, Try.ntmps5
      go_wp2_with fail
      rw [HW0.out]; refine HCALL0.out.mono ?_; rintro e w1 ⟨rfl, hb1⟩; have HB1 := Aside0.mk (q14 HBB.out hb1); clear hb1
      go_wp2_with fail
      refine (awake.calls w1).mono ?_; rintro e w2 ⟨rfl, hb2⟩; have HB2 := Aside0.mk (q14 HB1.out hb2); clear hb2
      go_wp2_with fail
      go_ret; exact ⟨rfl, HB2.out⟩
    | true =>
      go_enter Try.func5, Try.ntmps5
      go_wp2_with fail
      rw [HW0.out]; refine HCALL0.out.mono ?_; rintro e w1 ⟨rfl, hb1⟩; have HB1 := Aside0.mk (q14 HBB.out hb1); clear hb1
      go_wp2_with fail
      refine (Parse.calls s w1).mono ?_; rintro e w3 ⟨A1, c1, rfl, hc1, hC1, hb3⟩; have HB3 := Aside0.mk (q14 HB1.out hb3); have HC1 := Aside0.mk hC1; have HC1C := Aside0.mk hc1; obtain ⟨m, hm⟩ : ∃ m, m = (parseS s).1 := ⟨_, rfl⟩; obtain ⟨at1, hat⟩ : ∃ at1, at1 = (parseS s).2.1 := ⟨_, rfl⟩; obtain ⟨e0, he0⟩ : ∃ e0, e0 = (parseS s).2.2 := ⟨_, rfl⟩; have HPB : Aside0 (e0 = 0 → bk42s m ≤ 1048576) := ⟨fun h => by have := (parse_bk s (by rw [← he0]; exact h)).1; have := HS.out; rw [hm]; omega⟩; rw [← hm] at HC1 HC1C; rw [← hm, ← hat, ← he0]; clear hm hat he0 hc1 hC1 hb3
      by_cases h0 : e0 = 0
      · have e2 : (e0 == 0) = true := by simp [h0]
        have HM := Aside0.mk (HPB.out h0); clear h0; obtain ⟨i0, hi, hz0, hz1, hz2⟩ := info_parts info_terms; have hle3 : w.heap.size ≤ w3.heap.size := HB3.out.size; have HO := Aside0.mk ((lit_row w3 w.heap.size A l.length c hle3).alloc (.cells #[.slice A1 m.length c1] 22)); have hB5 : Below w3.heap.size w3 ((w3.alloc (.cells #[.slice A l.length c] 22)).alloc (.cells #[.slice A1 m.length c1] 22)) := ((Below.refl _ _).alloc (Nat.le_refl _) _).alloc (by simp) _; have HB35 := Aside0.mk hB5; have hle5 : w.heap.size ≤ ((w3.alloc (.cells #[.slice A l.length c] 22)).alloc (.cells #[.slice A1 m.length c1] 22)).heap.size := Nat.le_trans hle3 hB5.size; have HLE5 := Aside0.mk hle5; clear hle3 hB5 hle5
        go_upto_region 7 with (at_builtin; refine wpList_append_own _ rfl _ _ 36 rfl w.heap.size 22 i0 (.slice none 0 0) 1 24 Try.underlying36 hi hz0 hz1 hz2 rfl (by decide) _ _ _ rfl HO.out ⟨w3.heap.size + 1, 0, none⟩ 1 1 [.slice A1 m.length c1] (by simp [Act.eval]) rfl (fun j u hj => by have hx := cell_new1 (w3.alloc (.cells #[.slice A l.length c] 22)) (.slice A1 m.length c1) 22 j u hj; simpa using hx) (by simp [Value.oneCell']) (by decide) (by decide) HLE5.out ?_; intro v' w6 hown6 hgrow6 _; have HO6 := Aside0.mk hown6; have HG6 := Aside0.mk hgrow6; clear hown6 hgrow6)
        obtain ⟨bb, cc, hv6, _⟩ := own_formP HO6.out (by decide); subst hv6; have hb36 : Below w3.heap.size w3 w6 := HB35.out.grown HG6.out HB35.out.size (fun k e => by have e2 : w3.heap.size = k := (by simpa [Act.eval, Value.ownBlock] using e); omega); have HBS := Aside0.mk (q14 HB3.out hb36)
        have HEL : Aside0 (∀ i, i < 2 → El w6 bb i) := ⟨by
          intro i hi
          rcases Nat.lt_or_ge i 1 with h | h
          · obtain rfl : i = 0 := by omega
            exact el_of HO6.out rfl HCC.out (Kd.C_below HC.out (q14 HB3.out hb36)) HBL.out
          · obtain rfl : i = 1 := by omega
            exact el_of HO6.out rfl HC1C.out (Kd.C_below HC1.out hb36) HM.out⟩
        clear hb36
        go_wp2_with fail
        go_loopg [42] (2 + 1) (fun gk v42 wr_ => ∃ i : Nat, v42 = .int .i64 (i : Int) ∧ i ≤ 2 ∧ 2 - i < gk ∧ Aside0 (Below w.heap.size w wr_) ∧ Aside0 (∀ i, i < 2 → El wr_ bb i))
        case atStart => exact ⟨0, rfl, by omega, by omega, HBS, HEL⟩
        case round =>
          clear HBS HEL; obtain ⟨i, hv, hin, hgk, HB, HE⟩ := hrel; subst hv; obtain ⟨g', rfl⟩ : ∃ g', gk = g' + 1 := ⟨gk - 1, by omega⟩; have hi0 : (0 : Int) ≤ (i : Int) := Int.natCast_nonneg _
          have hw : IntKind.i64.wrap ((i : Int) + 1) = (i : Int) + 1 := by rw [i64_w]; rw [wrap64_id (by omega) (by omega)]
          by_cases hlt : i < 2
          · have q1 : decide ((i : Int) < 2) = true := decide_eq_true (by omega); have q2 : decide (i < 2) = true := decide_eq_true hlt
            have q3 : (i : Int) < 2 := by omega
            obtain ⟨x, Ax, cx, hcell, hxc, hxC, hxb⟩ := HE.out i hlt
            have hxb9 : bk42s x ≤ 1099511627776 := by omega
            obtain ⟨kk, hkk⟩ := (Result_ev hxb9).get; obtain ⟨ke, hke⟩ := Equal_self2 hxb9; obtain ⟨r, hr⟩ : ∃ r, r = checkS 8 x := ⟨_, rfl⟩; rw [← hr] at hkk; have htx := Text.calls kk Ax cx x r wr hxC hxc hkk (fun h0 => ⟨wok_of (by rw [← hr]; exact h0) hxb, by have := txl_len _ x none (Nat.le_refl _); omega⟩); have HTX := Aside0.mk htx; have HXC := Aside0.mk hxC; have HXCC := Aside0.mk hxc; have HKE := Aside0.mk hke; have HR := Aside0.mk hr; have HIN := Aside0.mk hin; have HGK := Aside0.mk hgk; have HLT := Aside0.mk hlt; clear hxc hxC hxb hxb9 hkk hke hr htx hin hgk hlt
            go_wp2_with fail
            refine HTX.out.mono ?_; rintro e w5 ⟨rfl, hb5⟩; have HB5 := Aside0.mk (q14 HB.out hb5); have HE5 := Aside0.mk (fun i hi => (HE.out i hi).below hb5); have HX5 := Aside0.mk (Kd.C_below HXC.out hb5); obtain ⟨te, hte⟩ : ∃ te, te = textE r x := ⟨_, rfl⟩; obtain ⟨ts, hts⟩ : ∃ ts, ts = textS r x := ⟨_, rfl⟩; rw [← hte, ← hts]; have HTE := Aside0.mk hte; have HTS := Aside0.mk hts; clear hb5 hte hts hcell HTX
            by_cases h0 : te = 0
            · have e5 : (te != 0) = false := by simp [h0]
              have hp : parseS ts = (x, 0, 0) := by
                have ht := HTE.out; rw [h0] at ht; unfold textE at ht
                by_cases r0 : r = 0
                · rw [if_pos r0] at ht
                  by_cases hl : (txl none x).length ≤ 40000
                  · have : ts = ⟨(txl none x).toArray⟩ := by rw [HTS.out]; unfold textS; rw [if_pos ⟨r0, hl⟩]
                    rw [this]; exact parse_text (by rw [← HR.out]; exact r0) hl
                  · rw [if_neg hl] at ht; cases ht
                · rw [if_neg r0] at ht; exact absurd ht.symm r0
              have hpc := Parse.calls ts w5; rw [hp] at hpc; have HPC := Aside0.mk hpc; clear h0 hp hpc
              go_wp2_with fail
              refine HPC.out.mono ?_; rintro e w6 ⟨A6, c6, rfl, hc6, hC6, hb6⟩; have HC6 := Aside0.mk hC6; have HC6C := Aside0.mk hc6; have HB6 := Aside0.mk (q14 HB5.out hb6); have HE6 := Aside0.mk (fun i hi => (HE5.out i hi).below hb6); have HX6 := Aside0.mk (Kd.C_below HX5.out hb6); clear hc6 hC6 hb6
              go_wp2_with fail
              refine (term_Equal.calls ke Ax cx x A6 c6 x true w6 HX6.out HXCC.out HC6.out HC6C.out HKE.out).mono ?_; rintro e w7 ⟨rfl, hb7⟩; have HB7 := Aside0.mk (q14 HB6.out hb7); have HE7 := Aside0.mk (fun i hi => (HE6.out i hi).below hb7); clear hb7
              go_wp2_with fail
              go_roundg g'
              case measure => have := HGK.out; have := HLT.out; omega
              case rel => exact ⟨i + 1, by simp, by have := HLT.out; omega, by have := HGK.out; have := HLT.out; omega, HB7, HE7⟩
            · have e5 : (te != 0) = true := by simp [h0]
              clear h0
              go_wp2_with fail
              go_roundg g'
              case measure => have := HGK.out; have := HLT.out; omega
              case rel => exact ⟨i + 1, by simp, by have := HLT.out; omega, by have := HGK.out; have := HLT.out; omega, HB5, HE5⟩
          · have q1 : decide ((i : Int) < 2) = false := decide_eq_false (by omega); have q2 : decide (i < 2) = false := decide_eq_false hlt; clear hlt hgk
            go_wp2_with fail
            refine (awake.calls wr).mono ?_; rintro e w8 ⟨rfl, hb8⟩; have HB8 := Aside0.mk (q14 HB.out hb8); clear hb8
            go_wp2_with fail
            go_ret; exact ⟨rfl, HB8.out⟩
      · have e2 : (e0 == 0) = false := by simp [h0]
        clear h0; have hle3 : w.heap.size ≤ w3.heap.size := HB3.out.size; have hO := lit_row w3 w.heap.size A l.length c hle3; have hb36 : Below w3.heap.size w3 (w3.alloc (.cells #[.slice A l.length c] 22)) := (Below.refl _ _).alloc (Nat.le_refl _) _; obtain ⟨w6, hw6⟩ : ∃ w6, w3.alloc (.cells #[.slice A l.length c] 22) = w6 := ⟨_, rfl⟩; rw [hw6] at hO hb36; obtain ⟨bb, hbbe⟩ : ∃ bb, bb = w3.heap.size := ⟨_, rfl⟩; rw [← hbbe] at hO; have HW6 := Aside0.mk hw6; have HBE := Aside0.mk hbbe.symm; have HBS := Aside0.mk (q14 HB3.out hb36)
        have HEL : Aside0 (∀ i, i < 1 → El w6 bb i) := ⟨by
          intro i hi
          obtain rfl : i = 0 := by omega
          exact el_of hO rfl HCC.out (Kd.C_below HC.out (q14 HB3.out hb36)) HBL.out⟩
        clear hb36 hO hle3 hw6 hbbe
        go_wp2_with fail
        rw [HW6.out]; rw [HBE.out]
        go_loopg [42] (1 + 1) (fun gk v42 wr_ => ∃ i : Nat, v42 = .int .i64 (i : Int) ∧ i ≤ 1 ∧ 1 - i < gk ∧ Aside0 (Below w.heap.size w wr_) ∧ Aside0 (∀ i, i < 1 → El wr_ bb i))
        case atStart => exact ⟨0, rfl, by omega, by omega, HBS, HEL⟩
        case round =>
          clear HBS HEL; obtain ⟨i, hv, hin, hgk, HB, HE⟩ := hrel; subst hv; obtain ⟨g', rfl⟩ : ∃ g', gk = g' + 1 := ⟨gk - 1, by omega⟩; have hi0 : (0 : Int) ≤ (i : Int) := Int.natCast_nonneg _
          have hw : IntKind.i64.wrap ((i : Int) + 1) = (i : Int) + 1 := by rw [i64_w]; rw [wrap64_id (by omega) (by omega)]
          by_cases hlt : i < 1
          · have q1 : decide ((i : Int) < 1) = true := decide_eq_true (by omega); have q2 : decide (i < 1) = true := decide_eq_true hlt
            have q3 : (i : Int) < 1 := by omega
            obtain ⟨x, Ax, cx, hcell, hxc, hxC, hxb⟩ := HE.out i hlt
            have hxb9 : bk42s x ≤ 1099511627776 := by omega
            obtain ⟨kk, hkk⟩ := (Result_ev hxb9).get; obtain ⟨ke, hke⟩ := Equal_self2 hxb9; obtain ⟨r, hr⟩ : ∃ r, r = checkS 8 x := ⟨_, rfl⟩; rw [← hr] at hkk; have htx := Text.calls kk Ax cx x r wr hxC hxc hkk (fun h0 => ⟨wok_of (by rw [← hr]; exact h0) hxb, by have := txl_len _ x none (Nat.le_refl _); omega⟩); have HTX := Aside0.mk htx; have HXC := Aside0.mk hxC; have HXCC := Aside0.mk hxc; have HKE := Aside0.mk hke; have HR := Aside0.mk hr; have HIN := Aside0.mk hin; have HGK := Aside0.mk hgk; have HLT := Aside0.mk hlt; clear hxc hxC hxb hxb9 hkk hke hr htx hin hgk hlt
            go_wp2_with fail
            refine HTX.out.mono ?_; rintro e w5 ⟨rfl, hb5⟩; have HB5 := Aside0.mk (q14 HB.out hb5); have HE5 := Aside0.mk (fun i hi => (HE.out i hi).below hb5); have HX5 := Aside0.mk (Kd.C_below HXC.out hb5); obtain ⟨te, hte⟩ : ∃ te, te = textE r x := ⟨_, rfl⟩; obtain ⟨ts, hts⟩ : ∃ ts, ts = textS r x := ⟨_, rfl⟩; rw [← hte, ← hts]; have HTE := Aside0.mk hte; have HTS := Aside0.mk hts; clear hb5 hte hts hcell HTX
            by_cases h0 : te = 0
            · have e5 : (te != 0) = false := by simp [h0]
              have hp : parseS ts = (x, 0, 0) := by
                have ht := HTE.out; rw [h0] at ht; unfold textE at ht
                by_cases r0 : r = 0
                · rw [if_pos r0] at ht
                  by_cases hl : (txl none x).length ≤ 40000
                  · have : ts = ⟨(txl none x).toArray⟩ := by rw [HTS.out]; unfold textS; rw [if_pos ⟨r0, hl⟩]
                    rw [this]; exact parse_text (by rw [← HR.out]; exact r0) hl
                  · rw [if_neg hl] at ht; cases ht
                · rw [if_neg r0] at ht; exact absurd ht.symm r0
              have hpc := Parse.calls ts w5; rw [hp] at hpc; have HPC := Aside0.mk hpc; clear h0 hp hpc
              go_wp2_with fail
              refine HPC.out.mono ?_; rintro e w6 ⟨A6, c6, rfl, hc6, hC6, hb6⟩; have HC6 := Aside0.mk hC6; have HC6C := Aside0.mk hc6; have HB6 := Aside0.mk (q14 HB5.out hb6); have HE6 := Aside0.mk (fun i hi => (HE5.out i hi).below hb6); have HX6 := Aside0.mk (Kd.C_below HX5.out hb6); clear hc6 hC6 hb6
              go_wp2_with fail
              refine (term_Equal.calls ke Ax cx x A6 c6 x true w6 HX6.out HXCC.out HC6.out HC6C.out HKE.out).mono ?_; rintro e w7 ⟨rfl, hb7⟩; have HB7 := Aside0.mk (q14 HB6.out hb7); have HE7 := Aside0.mk (fun i hi => (HE6.out i hi).below hb7); clear hb7
              go_wp2_with fail
              go_roundg g'
              case measure => have := HGK.out; have := HLT.out; omega
              case rel => exact ⟨i + 1, by simp, by have := HLT.out; omega, by have := HGK.out; have := HLT.out; omega, HB7, HE7⟩
            · have e5 : (te != 0) = true := by simp [h0]
              clear h0
              go_wp2_with fail
              go_roundg g'
              case measure => have := HGK.out; have := HLT.out; omega
              case rel => exact ⟨i + 1, by simp, by have := HLT.out; omega, by have := HGK.out; have := HLT.out; omega, HB5, HE5⟩
          · have q1 : decide ((i : Int) < 1) = false := decide_eq_false (by omega); have q2 : decide (i < 1) = false := decide_eq_false hlt; clear hlt hgk
            go_wp2_with fail
            refine (awake.calls wr).mono ?_; rintro e w8 ⟨rfl, hb8⟩; have HB8 := Aside0.mk (q14 HB.out hb8); clear hb8
            go_wp2_with fail
            go_ret; exact ⟨rfl, HB8.out⟩
end Go.Proofs.Ytdbjjaodkapikaa.TE
end
