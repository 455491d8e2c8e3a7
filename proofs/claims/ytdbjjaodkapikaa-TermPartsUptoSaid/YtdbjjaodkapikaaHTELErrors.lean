/- The law TermErrors, by hand. -/
import Derived.Test.YtdbjjaodkapikaaHTEAw
import Derived.Test.YtdbjjaodkapikaaHTEPlain
namespace Go.Proofs.Ytdbjjaodkapikaa.TE
open Go.RowKit Go.Shelf Go.Proofs.YtdbjjaodkapikaaW.PrintWords Go.Proofs.YtdbjjaodkapikaaW.PrintLast Go.Proofs.YtdbjjaodkapikaaW.PrintMore Go.Proofs.Ytdbjjaodkapikaa.Evs
set_option linter.unusedVariables false
set_option linter.unusedSimpArgs false
theorem fine_le {m n : Int} (h : m ≤ n) {x : Tm} (hx : fineS m x = true) : fineS n x = true := by
  unfold fineS at *; simp only [Bool.and_eq_true, Bool.not_eq_true', decide_eq_false_iff_not] at *; exact ⟨by omega, hx.2⟩
theorem check_le {m n : Int} (h : m ≤ n) {l : List Tm} (hl : checkS m l = 0) : checkS n l = 0 := by
  unfold checkS at *
  split at hl
  · simp at hl
  · split at hl
    · simp at hl
    · split at hl
      · rename_i h1 h2 h3
        rw [if_neg h1, if_neg h2, if_pos]; rw [List.all_eq_true] at *
        exact fun x hx => fine_le h (h3 x hx)
      · simp at hl
theorem rows1 {w : World} {A : Option Addr} {c : Nat} {l : List Tm} (hC : Kd.C k42 w A l.length l) (hc : l.length ≤ c) :
    Kd.C (Kd.slice 42 k42) (w.alloc (.cells #[.slice A l.length c] 22)) (some ⟨w.heap.size, 0, none⟩) 1 [l] := by
  refine ⟨rfl, by decide, fun _ => ⟨_, rfl, fun j p hp => ?_⟩⟩
  have hj : j = 0 := by
    rcases Nat.eq_zero_or_pos j with h | h
    · exact h
    · rw [List.getElem?_eq_none (by simp; omega)] at hp; simp at hp
  subst hj
  obtain rfl : l = p := by simpa using hp
  refine ⟨[.slice A l.length c], rfl, ⟨A, c, rfl, hc, Kd.C_below hC ((Below.refl _ _).alloc (Nat.le_refl _) _)⟩, fun i u hu => ?_⟩; rw [add_plain]; refine (q10 (World.alloc_heap_new w _) _).trans ?_
  match i, hu with
  | 0, hu => exact hu
set_option maxRecDepth 100000 in
set_option maxHeartbeats 4000000 in
theorem TermErrors.calls (A : Option Addr) (c : Nat) (l : List Tm) (w : World) (hC : Kd.C k42 w A l.length l) (hc : l.length ≤ c) (ok : ok42s l) (hb : bk42s l ≤ 1048576) :
    Calls Try.prog 4 #[.slice A l.length c] w fun e w' => e = .returned (.bool true) ∧ Below w.heap.size w w' := by
  have hb' : bk42s l ≤ 1099511627776 := by omega
  obtain ⟨k1, hk1⟩ := (size_ev hb').get; obtain ⟨k2, hk2⟩ := (rsize_ev _ l (Nat.le_refl _) hb').get; obtain ⟨k3, hk3⟩ := (show Evt (fun k => term_Value.f k l) (checkS 4 l) from Evt.bind (check_ev hb' 4) (Evt.const _)).get; obtain ⟨k4, hk4⟩ := (show Evt (fun k => term_Pattern.f k l) (checkS 7 l) from Evt.bind (check_ev hb' 7) (Evt.const _)).get; obtain ⟨k5, hk5⟩ := (Result_ev hb').get; obtain ⟨k6, hk6⟩ := (show Evt (fun k => chiasmusref01_Value.f k l) (checkS 4 l) from Evt.bind (wrong_ev hb' 4) (Evt.const _)).get; obtain ⟨k7, hk7⟩ := (show Evt (fun k => chiasmusref01_Pattern.f k l) (checkS 7 l) from Evt.bind (wrong_ev hb' 7) (Evt.const _)).get; obtain ⟨k8, hk8⟩ := (rResult_ev hb').get; have h47 : checkS 4 l = 0 → checkS 7 l = 0 := check_le (by decide); have h78 : checkS 7 l = 0 → checkS 8 l = 0 := check_le (by decide); have H47 := Aside0.mk h47; have H78 := Aside0.mk h78; obtain ⟨N, hN⟩ : ∃ N : Int, N = ((flat l).length : Int) := ⟨_, rfl⟩; obtain ⟨D, hD⟩ : ∃ D : Int, D = dpL 0 l := ⟨_, rfl⟩; obtain ⟨v, hv⟩ : ∃ v : Int, v = checkS 4 l := ⟨_, rfl⟩; obtain ⟨p, hp⟩ : ∃ p : Int, p = checkS 7 l := ⟨_, rfl⟩; obtain ⟨r, hr⟩ : ∃ r : Int, r = checkS 8 l := ⟨_, rfl⟩; rw [← hN, ← hD] at hk1 hk2; rw [← hv] at hk3 hk6; rw [← hp] at hk4 hk7; rw [← hr] at hk5 hk8; have hcall0 := Small.calls 5000 (some ⟨w.heap.size, 0, none⟩) 1 1 [l] _ (rows1 hC hc) rfl (Nat.le_refl _); have hbl : Below w.heap.size w (w.alloc (.cells #[.slice A l.length c] 22)) := (Below.refl _ _).alloc (Nat.le_refl _) _; obtain ⟨W0, hW0⟩ : ∃ W0, w.alloc (.cells #[.slice A l.length c] 22) = W0 := ⟨_, rfl⟩; have HW0 := Aside0.mk hW0; rw [hW0] at hcall0 hbl; obtain ⟨b, hbb⟩ : ∃ b, b = (cntAll 5000 [l]).1 := ⟨_, rfl⟩; rw [← hbb] at hcall0; have HC := Aside0.mk hC; have HCC := Aside0.mk hc; have HBL := Aside0.mk hbl; have HCALL0 := Aside0.mk hcall0; have HK1 := Aside0.mk hk1; have HK2 := Aside0.mk hk2; have HK3 := Aside0.mk hk3; have HK4 := Aside0.mk hk4; have HK5 := Aside0.mk hk5; have HK6 := Aside0.mk hk6; have HK7 := Aside0.mk hk7; have HK8 := Aside0.mk hk8
  have h47' : v = 0 → p = 0 := by rw [hv, hp]; exact h47
  have h78' : p = 0 → r = 0 := by rw [hp, hr]; exact h78
  have H47' := Aside0.mk h47'; have H78' := Aside0.mk h78'; clear hC hc ok hb hb' hk1 hk2 hk3 hk4 hk5 hk6 hk7 hk8 h47 h78 H47 H78 hN hD hv hp hr hcall0 hbl hW0 hbb h47' h78'
  go_enter Try.func4, Try.ntmps4
  go_wp2_with fail
  rw [HW0.out]; refine HCALL0.out.mono ?_; rintro e w1 ⟨rfl, hb1⟩; have HB1 := Aside0.mk (q14 HBL.out hb1); clear hb1
  cases b with
  | false =>
    go_wp2_with fail
    refine (awake.calls w1).mono ?_; rintro e w2 ⟨rfl, hb2⟩; have HB2 := Aside0.mk (q14 HB1.out hb2); clear hb2
    go_wp2_with fail
    go_ret; exact ⟨rfl, HB2.out⟩
  | true =>
    go_wp2_with fail
    refine (term_Size.calls k1 A c l N D w1 (Kd.C_below HC.out HB1.out) HCC.out HK1.out).mono ?_; rintro e w2 ⟨rfl, hb2⟩; have HB2 := Aside0.mk (q14 HB1.out hb2); clear hb2
    go_wp2_with fail
    refine (chiasmusref01_Size.calls k2 A c l N D w2 (Kd.C_below HC.out HB2.out) HCC.out HK2.out).mono ?_; rintro e w3 ⟨rfl, hb3⟩; have HB3 := Aside0.mk (q14 HB2.out hb3); clear hb3
    go_wp2_with fail
    refine (term_Value.calls k3 A c l _ w3 (Kd.C_below HC.out HB3.out) HCC.out HK3.out).mono ?_; rintro e w4 ⟨rfl, hb4⟩; have HB4 := Aside0.mk (q14 HB3.out hb4); clear hb4
    go_wp2_with fail
    refine (term_Pattern.calls k4 A c l _ w4 (Kd.C_below HC.out HB4.out) HCC.out HK4.out).mono ?_; rintro e w5 ⟨rfl, hb5⟩; have HB5 := Aside0.mk (q14 HB4.out hb5); clear hb5
    go_wp2_with fail
    refine (term_Result.calls k5 A c l _ w5 (Kd.C_below HC.out HB5.out) HCC.out HK5.out).mono ?_; rintro e w6 ⟨rfl, hb6⟩; have HB6 := Aside0.mk (q14 HB5.out hb6); clear hb6
    have evv : ((v : Int) == v) = true := by simp
    have epp : ((p : Int) == p) = true := by simp
    have err : ((r : Int) == r) = true := by simp
    by_cases hv0 : v = 0
    · have hp0 := H47'.out hv0; have hr0 := H78'.out hp0; subst hv0; subst hp0; subst hr0
      go_wp2_with fail
      refine (chiasmusref01_Value.calls k6 A c l _ w6 (Kd.C_below HC.out HB6.out) HCC.out HK6.out).mono ?_; rintro e w7 ⟨rfl, hb7⟩; have HB7 := Aside0.mk (q14 HB6.out hb7); clear hb7
      go_wp2_with fail
      refine (chiasmusref01_Pattern.calls k7 A c l _ w7 (Kd.C_below HC.out HB7.out) HCC.out HK7.out).mono ?_; rintro e w8 ⟨rfl, hb8⟩; have HB8 := Aside0.mk (q14 HB7.out hb8); clear hb8
      go_wp2_with fail
      refine (chiasmusref01_Result.calls k8 A c l _ w8 (Kd.C_below HC.out HB8.out) HCC.out HK8.out).mono ?_; rintro e w9 ⟨rfl, hb9⟩; have HB9 := Aside0.mk (q14 HB8.out hb9); clear hb9
      go_wp2_with fail
      refine (awake.calls w9).mono ?_; rintro e w10 ⟨rfl, hb10⟩; have HB10 := Aside0.mk (q14 HB9.out hb10); clear hb10
      go_wp2_with fail
      go_ret; exact ⟨rfl, HB10.out⟩
    · have ev : ((v : Int) == 0) = false := by simp; exact hv0
      by_cases hp0 : p = 0
      · have hr0 := H78'.out hp0; subst hp0; subst hr0; clear hv0
        go_wp2_with fail
        refine (chiasmusref01_Value.calls k6 A c l _ w6 (Kd.C_below HC.out HB6.out) HCC.out HK6.out).mono ?_; rintro e w7 ⟨rfl, hb7⟩; have HB7 := Aside0.mk (q14 HB6.out hb7); clear hb7
        go_wp2_with fail
        refine (chiasmusref01_Pattern.calls k7 A c l _ w7 (Kd.C_below HC.out HB7.out) HCC.out HK7.out).mono ?_; rintro e w8 ⟨rfl, hb8⟩; have HB8 := Aside0.mk (q14 HB7.out hb8); clear hb8
        go_wp2_with fail
        refine (chiasmusref01_Result.calls k8 A c l _ w8 (Kd.C_below HC.out HB8.out) HCC.out HK8.out).mono ?_; rintro e w9 ⟨rfl, hb9⟩; have HB9 := Aside0.mk (q14 HB8.out hb9); clear hb9
        go_wp2_with fail
        refine (awake.calls w9).mono ?_; rintro e w10 ⟨rfl, hb10⟩; have HB10 := Aside0.mk (q14 HB9.out hb10); clear hb10
        go_wp2_with fail
        go_ret; exact ⟨rfl, HB10.out⟩
      · have ep : ((p : Int) == 0) = false := by simp; exact hp0
        clear hv0 hp0
        go_wp2_with fail
        refine (chiasmusref01_Value.calls k6 A c l _ w6 (Kd.C_below HC.out HB6.out) HCC.out HK6.out).mono ?_; rintro e w7 ⟨rfl, hb7⟩; have HB7 := Aside0.mk (q14 HB6.out hb7); clear hb7
        go_wp2_with fail
        refine (chiasmusref01_Pattern.calls k7 A c l _ w7 (Kd.C_below HC.out HB7.out) HCC.out HK7.out).mono ?_; rintro e w8 ⟨rfl, hb8⟩; have HB8 := Aside0.mk (q14 HB7.out hb8); clear hb8
        go_wp2_with fail
        refine (chiasmusref01_Result.calls k8 A c l _ w8 (Kd.C_below HC.out HB8.out) HCC.out HK8.out).mono ?_; rintro e w9 ⟨rfl, hb9⟩; have HB9 := Aside0.mk (q14 HB8.out hb9); clear hb9
        go_wp2_with fail
        refine (awake.calls w9).mono ?_; rintro e w10 ⟨rfl, hb10⟩; have HB10 := Aside0.mk (q14 HB9.out hb10); clear hb10
        go_wp2_with fail
        go_ret; exact ⟨rfl, HB10.out⟩
end Go.Proofs.Ytdbjjaodkapikaa.TE
