/- The law TermOrders, by hand. -/
import Derived.Test.YtdbjjaodkapikaaGTEAw
import Derived.Test.YtdbjjaodkapikaaGTECmp
import Derived.Test.YtdbjjaodkapikaaGTESpoil
namespace Go.Proofs.Ytdbjjaodkapikaa.TE
open Go.RowKit Go.Shelf Go.Proofs.YtdbjjaodkapikaaW.PrintWords Go.Proofs.YtdbjjaodkapikaaW.PrintLast Go.Proofs.YtdbjjaodkapikaaW.PrintMore Go.Proofs.Ytdbjjaodkapikaa.Evs
set_option linter.unusedVariables false
set_option linter.unusedSimpArgs false
theorem rows2 {w : World} {A B : Option Addr} {c d : Nat} {l m : List Tm} (hC : Kd.C k42 w A l.length l) (hc : l.length ≤ c) (hD : Kd.C k42 w B m.length m) (hd : m.length ≤ d) :
    Kd.C (Kd.slice 42 k42) (w.alloc (.cells #[.slice A l.length c, .slice B m.length d] 22)) (some ⟨w.heap.size, 0, none⟩) 2 [l, m] := by
  have hb : Below w.heap.size w (w.alloc (.cells #[.slice A l.length c, .slice B m.length d] 22)) := (Below.refl _ _).alloc (Nat.le_refl _) _; refine ⟨rfl, by decide, fun _ => ⟨_, rfl, fun j p hp => ?_⟩⟩
  match j, hp with
  | 0, hp =>
    obtain rfl : l = p := by simpa using hp
    refine ⟨[.slice A l.length c], rfl, ⟨A, c, rfl, hc, Kd.C_below hC hb⟩, fun i u hu => ?_⟩; rw [add_plain]; refine (q4 (World.alloc_heap_new w _) _).trans ?_
    match i, hu with
    | 0, hu => exact hu
  | 1, hp =>
    obtain rfl : m = p := by simpa using hp
    refine ⟨[.slice B m.length d], rfl, ⟨B, d, rfl, hd, Kd.C_below hD hb⟩, fun i u hu => ?_⟩; rw [add_plain]; refine (q4 (World.alloc_heap_new w _) _).trans ?_
    match i, hu with
    | 0, hu => exact hu
theorem below_of_fr {B lo hi : Nat} {W W' : World} (h : Fr W W' (fun i => lo ≤ i ∧ i < hi)) (h1 : B ≤ lo) (h2 : B ≤ W.heap.size) : Below B W W' :=
  ⟨h.os, h.tape, h.output, h.size, fun k hk => h.block k (by omega) (fun e => by have := e.1; omega)⟩
set_option maxRecDepth 100000 in
set_option maxHeartbeats 4000000 in
theorem TermOrders.calls (A : Option Addr) (c : Nat) (l : List Tm) (B : Option Addr) (d : Nat) (m : List Tm) (w : World) (hC : Kd.C k42 w A l.length l) (hc : l.length ≤ c) (hD : Kd.C k42 w B m.length m) (hd : m.length ≤ d) (ok : ok42s l) (ok2 : ok42s m) (hb : bk42s l + bk42s m ≤ 1048576) :
    Calls Try.prog 6 #[.slice A l.length c, .slice B m.length d] w fun e w' => e = .returned (.bool true) ∧ Below w.heap.size w w' := by
  have hbl : bk42s l ≤ 1099511627776 := by omega
  have hbm : bk42s m ≤ 1099511627776 := by omega
  have hbl8 : bk42s l ≤ 1048576 := by omega
  obtain ⟨v, e1, e2, e3, e4, _⟩ := Equals_ev hbl hbm; obtain ⟨k1, hk1⟩ := e1.get; obtain ⟨k2, hk2⟩ := e2.get; obtain ⟨k3, hk3⟩ := e3.get; obtain ⟨k4, hk4⟩ := e4.get; obtain ⟨v5, _, _, e5, _, i5⟩ := Equals_ev hbl hbl; have hv5 : v5 = 0 := i5.2 rfl; subst hv5; obtain ⟨k5, hk5⟩ := e5.get; have hk5 : chiasmusref01_Equal.f k5 l l = some true := hk5; obtain ⟨k6, hk6⟩ := (twin_ev _ l (Nat.le_refl _) hbl).get; obtain ⟨eq, heq⟩ : ∃ eq : Bool, eq = (v == 0) := ⟨_, rfl⟩; rw [← heq] at hk3 hk4; have hcall0 := Small.calls 2000 (some ⟨w.heap.size, 0, none⟩) 2 2 [l, m] _ (rows2 hC hc hD hd) rfl (Nat.le_refl _); have hbb : Below w.heap.size w (w.alloc (.cells #[.slice A l.length c, .slice B m.length d] 22)) := (Below.refl _ _).alloc (Nat.le_refl _) _; obtain ⟨W0, hW0⟩ : ∃ W0, w.alloc (.cells #[.slice A l.length c, .slice B m.length d] 22) = W0 := ⟨_, rfl⟩; have HW0 := Aside0.mk hW0; rw [hW0] at hcall0 hbb; obtain ⟨b, hbs⟩ : ∃ b, b = (cntAll 2000 [l, m]).1 := ⟨_, rfl⟩; rw [← hbs] at hcall0; have HC := Aside0.mk hC; have HCC := Aside0.mk hc; have HD := Aside0.mk hD; have HDD := Aside0.mk hd; have HBL := Aside0.mk hbb; have HB8 := Aside0.mk hbl8; have HCALL0 := Aside0.mk hcall0; have HK1 := Aside0.mk hk1; have HK2 := Aside0.mk hk2; have HK3 := Aside0.mk hk3; have HK4 := Aside0.mk hk4; have HK5 := Aside0.mk hk5; have HK6 := Aside0.mk hk6
  have evv : ((v : Int) == v) = true := by simp
  have eqq : ((eq : Bool) == eq) = true := by simp
  clear hC hc hD hd ok ok2 hb hbl hbm hbl8 hk1 hk2 hk3 hk4 hk5 hk6 e1 e2 e3 e4 e5 i5 hcall0 hbb hW0 hbs heq
  go_enter Try.func6, Try.ntmps6
  go_wp2_with fail
  rw [HW0.out]; refine HCALL0.out.mono ?_; rintro e w1 ⟨rfl, hb1⟩; have HB1 := Aside0.mk (q10 HBL.out hb1); clear hb1
  cases b with
  | false =>
    go_wp2_with fail
    refine (awake.calls w1).mono ?_; rintro e w2 ⟨rfl, hb2⟩; have HB2 := Aside0.mk (q10 HB1.out hb2); clear hb2
    go_wp2_with fail
    go_ret; exact ⟨rfl, HB2.out⟩
  | true =>
    go_wp2_with fail
    refine (term_Equal.calls k4 A c l B d m eq w1 (Kd.C_below HC.out HB1.out) HCC.out (Kd.C_below HD.out HB1.out) HDD.out HK4.out).mono ?_; rintro e w2 ⟨rfl, hb2⟩; have HB2 := Aside0.mk (q10 HB1.out hb2); clear hb2
    go_wp2_with fail
    refine (chiasmusref01_Equal.calls k3 A c l B d m eq w2 (Kd.C_below HC.out HB2.out) HCC.out (Kd.C_below HD.out HB2.out) HDD.out HK3.out).mono ?_; rintro e w3 ⟨rfl, hb3⟩; have HB3 := Aside0.mk (q10 HB2.out hb3); clear hb3
    go_wp2_with fail
    refine (term_Compare.calls k2 A c l B d m v w3 (Kd.C_below HC.out HB3.out) HCC.out (Kd.C_below HD.out HB3.out) HDD.out HK2.out).mono ?_; rintro e w4 ⟨rfl, hb4⟩; have HB4 := Aside0.mk (q10 HB3.out hb4); clear hb4
    go_wp2_with fail
    refine (chiasmusref01_Compare.calls k1 A c l B d m v w4 (Kd.C_below HC.out HB4.out) HCC.out (Kd.C_below HD.out HB4.out) HDD.out HK1.out).mono ?_; rintro e w5 ⟨rfl, hb5⟩; have HB5 := Aside0.mk (q10 HB4.out hb5); clear hb5
    go_wp2_with fail
    refine (chiasmuslaw01_twin.calls k6 A c l l w5 (Kd.C_below HC.out HB5.out) HCC.out HK6.out).mono ?_; rintro e w6 ⟨vt, rfl, hR, hb6⟩; obtain ⟨At, ct, rfl, hct, hCt⟩ := Kd.R_reads hR; have HB6 := Aside0.mk (q10 HB5.out hb6); have HCT := Aside0.mk hct; have HTW := Aside0.mk hCt; clear hR hb6 hct hCt
    go_wp2_with fail
    refine (Copy.calls w (SizeOf.sizeOf l) A c l w6 (Nat.le_refl _) HC.out HCC.out HB6.out HB8.out).mono ?_; rintro e w7 ⟨vc, rfl, hot, hb7⟩; obtain ⟨Ac, cc, hvc, hcc, hCc⟩ := hot.reads HB8.out; subst hvc; have HB7 := Aside0.mk (q10 HB6.out hb7); have HT7 := Aside0.mk (Kd.C_below HTW.out hb7); have HOT := Aside0.mk hot; have HCc := Aside0.mk hCc; have Hcc := Aside0.mk hcc; have HS7 := Aside0.mk hb7; clear hot hb7 hcc hCc
    go_wp2_with fail
    refine (chiasmusref01_Equal.calls k5 Ac cc l At ct l true w7 HCc.out Hcc.out HT7.out HCT.out HK5.out).mono ?_; rintro e w8 ⟨rfl, hb8⟩; have HB8' := Aside0.mk (q10 HB7.out hb8); have HS8 := Aside0.mk (q10 HS7.out hb8); have HOT8 := Aside0.mk (OT.frame _ _ _ _ _ HOT.out (fun k _ hk => hb8.block k hk)); clear hb8
    go_wp2_with fail
    refine (spoil.calls _ l _ _ _ w8 HOT8.out HB8.out).mono ?_; rintro e w9 ⟨rfl, hf9⟩; have HB9 := Aside0.mk (HB8'.out.trans (below_of_fr hf9 HB6.out.size HB8'.out.size)); have HS9 := Aside0.mk (HS8.out.trans (below_of_fr hf9 (Nat.le_refl _) HS8.out.size)); clear hf9
    go_wp2_with fail
    refine (chiasmusref01_Equal.calls k5 A c l At ct l true w9 (Kd.C_below HC.out HB9.out) HCC.out (Kd.C_below HTW.out HS9.out) HCT.out HK5.out).mono ?_; rintro e w10 ⟨rfl, hb10⟩; have HB10 := Aside0.mk (q10 HB9.out hb10); clear hb10
    go_wp2_with fail
    refine (awake.calls w10).mono ?_; rintro e w11 ⟨rfl, hb11⟩; have HB11 := Aside0.mk (q10 HB10.out hb11); clear hb11
    go_wp2_with fail
    go_ret; exact ⟨rfl, HB11.out⟩
end Go.Proofs.Ytdbjjaodkapikaa.TE
