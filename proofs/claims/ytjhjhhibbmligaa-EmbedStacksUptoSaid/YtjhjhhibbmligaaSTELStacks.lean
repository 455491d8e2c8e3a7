/- The law EmbedStacks, by hand. -/
import Derived.Test.YtjhjhhibbmligaaSTESp
import Derived.Test.YtjhjhhibbmligaaSTEAv
import Derived.Test.YtjhjhhibbmligaaSTEBa
section
namespace Go.Proofs.Ytjhjhhibbmligaa.TE
open Go.RowKit Go.Shelf Go.Proofs.YtjhjhhibbmligaaW.PrintWords Go.Proofs.YtjhjhhibbmligaaW.PrintLast Go.Proofs.YtjhjhhibbmligaaW.PrintMore Go.Proofs.Ytjhjhhibbmligaa.Evs
set_option linter.unusedVariables false
set_option linter.unusedSimpArgs false
theorem rPrefix.any {A0 A1 : Option Addr} {c0 c1 : Nat} {a b : List ByteArray} {w : World} (h0 : Kd.C Kd.string w A0 a.length a) (hc0 : a.length ≤ c0) (h1 : Kd.C Kd.string w A1 b.length b) (hc1 : b.length ≤ c1) (ha : a.length ≤ 1048576) (hb : b.length ≤ 1048576) :
    Calls Try.prog 18 #[.slice A0 a.length c0, .slice A1 b.length c1] w fun e w' => e = .returned (.tuple #[.int .i64 (prefixS a b).1, .bool (prefixS a b).2]) ∧ ∃ n, w' = w.drewN n := by
  obtain ⟨k, hk⟩ := (rprefix_ev a b (by omega) (by omega)).get; refine (chiasmusref27_Prefix.calls k A0 c0 a A1 c1 b _ _ w h0 hc0 h1 hc1 hk).mono ?_; rintro e w' ⟨rfl, hd⟩; exact ⟨rfl, hd.out⟩
theorem rActive.any {A : Option Addr} {c : Nat} {l : List Tm} {w : World} (hC : Kd.C k42 w A l.length l) (hc : l.length ≤ c) (hb : bk42s l ≤ 1048576) :
    Calls Try.prog 86 #[.slice A l.length c] w fun e w' => ∃ P d, e = .returned (.tuple #[.slice P (actP l).length d, .bool (act l).isSome]) ∧ (actP l).length ≤ d ∧ Kd.C (Kd.int .i64) w' P (actP l).length (actP l) ∧ Below w.heap.size w w' := by
  obtain ⟨k, hk⟩ := (ract_ev _ l (Nat.le_refl _) (by omega)).get; refine (chiasmusref11_Active.calls k A c l _ _ w hC hc hk).mono ?_; rintro e w' ⟨v, rfl, hR, hb⟩; obtain ⟨P, d, rfl, hd, hCP⟩ := Kd.R_reads hR; exact ⟨P, d, rfl, hd, hCP, hb⟩
theorem rAt.take (A : Option Addr) (c : Nat) (l : List Tm) (P : Option Addr) (d : Nat) (p : List Int) (q : Nat) (w : World) (hC : Kd.C k42 w A l.length l) (hc : l.length ≤ c) (hP : Kd.C (Kd.int .i64) w P p.length p) (hd : p.length ≤ d) (hpl : p.length ≤ 1048576) (hb : bk42s l ≤ 1048576) (hq : q < p.length) :
    Calls Try.prog 87 #[.slice A l.length c, .slice P (q + 1) d] w fun e w' => ∃ A' c', e = .returned (.tuple #[.agg #[.int .i64 (rAR (p.take (q + 1)) l).1.f0, .string (rAR (p.take (q + 1)) l).1.f1, .slice A' (rAR (p.take (q + 1)) l).1.f2.length c'], .bool (rAR (p.take (q + 1)) l).2]) ∧ Below w.heap.size w w' := by
  have hl : (p.take (q + 1)).length = q + 1 := by rw [List.length_take]; omega
  have h := rAt.calls (p.take (q + 1)) A c l P d w hC hc (Kd.C_take hP (by omega)) (by omega) (by omega) hb; rw [hl] at h; refine h.mono ?_; rintro e w' ⟨A', c', h1, _, _, h4⟩; exact ⟨A', c', h1, h4⟩
section
attribute [local go_sem] Oper.semAt_some
set_option maxRecDepth 100000 in
set_option maxHeartbeats 4000000 in
theorem rStack.calls (A : Option Addr) (c : Nat) (l : List Tm) (W : World) (hC : Kd.C k42 W A l.length l) (hc : l.length ≤ c) (hb : bk42s l ≤ 1048576) :
    Calls Try.prog 21 #[.slice A l.length c] W fun e W' => ∃ v, e = .returned v ∧ W'.ownsRow 0 9 1 v (stk l (actP l)).length ((stk l (actP l)).map Value.string) ∧ Below W.heap.size W W' := by
  have hu42 := Try.underlying42; have hfl := flat_len l; have hact := rActive.any hC hc hb
  have hpl : (actP l).length ≤ 1048576 := by have := actP_len l; omega
  have hbp : (act l).isSome = false → actP l = [] := fun h => by
    unfold actP
    cases hx : act l with
    | none => rfl
    | some p => rw [hx] at h; cases h
  obtain ⟨b, hbb⟩ : ∃ b, b = (act l).isSome := ⟨_, rfl⟩; obtain ⟨p, hp⟩ : ∃ p, p = actP l := ⟨_, rfl⟩; rw [← hbb] at hact hbp; rw [← hp] at hact hpl hbp ⊢; have HACT := Aside0.mk hact; have HBP := Aside0.mk hbp; have HC := Aside0.mk hC; have HCC := Aside0.mk hc; have HBK := Aside0.mk hb; clear hact hC hc hb hp hfl hbp hbb
  go_enter Try.func21, Try.ntmps21
  go_wp2_with (fail)
  refine HACT.out.mono ?_; rintro e w1 ⟨P, d, rfl, hd, hCP, hb1⟩; have HP := Aside0.mk hCP; have HB1 := Aside0.mk hb1; clear hCP hb1
  go_wp2_with (fail)
  go_loopw [5, 6] (fun vo i wr => ∃ (q : Nat), i = .int .i64 q ∧ q ≤ p.length ∧ Aside0 (wr.ownsRow w1.heap.size 9 1 vo (stk l (p.take q)).length ((stk l (p.take q)).map Value.string)) ∧ Aside0 (Below w1.heap.size w1 wr)) (fun vo i wr => p.length - (intOf i).toNat)
  case atStart => exact ⟨0, rfl, Nat.zero_le _, ⟨by rw [List.take_zero, stk_nil]; exact ⟨rfl, .inr ⟨w1.heap.size, 0, #[], rfl, Nat.le_refl _, World.alloc_heap_new w1 _, Nat.le_refl _, Nat.zero_le _, rfl, rfl⟩⟩⟩, ⟨(Below.refl _ _).alloc (Nat.le_refl _) _⟩⟩
  case round =>
    obtain ⟨q, rfl, hq, HO, HBr⟩ := hrel; have hbr : Below W.heap.size W wr := q12 HB1.out HBr.out
    by_cases hlt : q < p.length
    · have hbt : b = true := by
        cases b with
        | true => rfl
        | false => have := HBP.out rfl; subst this; simp at hlt
      subst hbt
      have hlb : decide ((q : Int) < (p.length : Int)) = true := by simp; omega
      have hw : IntKind.i64.wrap ((q : Int) + 1) = (q : Int) + 1 := by rw [i64_w]; rw [wrap64_id (by omega) (by omega)]
      have hqd : (q : Int) + 1 ≤ (d : Int) := by omega
      have hq0 : (0 : Int) ≤ (q : Int) + 1 := by omega
      have hat := rAt.take A c l P d p q wr (Kd.C_below HC.out hbr) HCC.out (Kd.C_below HP.out HBr.out) hd hpl HBK.out hlt; have hst := stk_take p l q hlt; obtain ⟨b2, hb2⟩ : ∃ b2, b2 = (rAR (p.take (q + 1)) l).2 := ⟨_, rfl⟩; rw [← hb2] at hat; obtain ⟨z, hz⟩ : ∃ z, z = (rAR (p.take (q + 1)) l).1 := ⟨_, rfl⟩; rw [← hz] at hat hst; have HAT := Aside0.mk hat; have HST := Aside0.mk hst; clear hat hst hb2 hz
      go_wp2_with (fail)
      refine HAT.out.mono ?_; rintro e w2 ⟨A', c', rfl, hb2⟩; have HB2 := Aside0.mk (q12 HBr.out hb2); have HO2 := Aside0.mk (own_below0 HO.out hb2); clear hb2
      have hsz : (stk l (p.take q)).length ≤ 1048576 := by
        have := stk_len (p.take q) l; rw [List.length_take] at this
        omega
      have HSZ := Aside0.mk hsz; clear hsz
      by_cases h8 : z.f0 = 8
      · have e8 : (z.f0 == 8) = true := by simp [h8]
        have HST' : Aside0 (stk l (p.take (q + 1)) = stk l (p.take q) ++ [z.f1]) := ⟨by rw [HST.out, nmOf, if_pos h8]⟩; obtain ⟨i0, hi, hz0, hz1, hz2⟩ := info_parts info_str; have HI := Aside0.mk (And.intro hi (And.intro hz0 (And.intro hz1 hz2))); have hsz1 : w1.heap.size ≤ w2.heap.size := HB2.out.size; have HSZ1 := Aside0.mk hsz1; have hcn := cell_one_new (w2.alloc (.cells #[.int .i64 z.f0, .string z.f1, .slice A' z.f2.length c'] 42)) (.string z.f1) 9; rw [World.size_alloc] at hcn; have HCN := Aside0.mk hcn; clear h8 hi hz0 hz1 hz2 hsz1 hcn
        go_wp2_with (at_builtin; refine wpList_append_own _ rfl (.tmp 36) (.tmp 39) 23 rfl w1.heap.size 9 i0 (.string ⟨#[]⟩) 1 16 Try.underlying23 HI.out.1 HI.out.2.1 HI.out.2.2.1 HI.out.2.2.2 rfl (by decide) _ (stk l (p.take q)).length ((stk l (p.take q)).map Value.string) rfl (own_alloc (own_alloc HO2.out _) _) ⟨_, 0, none⟩ 1 1 [.string z.f1] rfl rfl HCN.out (by simp [Value.oneCell']) (by have := HSZ.out; simp only [maxLen]; omega) (by have := HSZ.out; omega) (by have := HSZ1.out; simp; omega) ?_; intro v7 w7 ho7 hg7 _; have HO7 := Aside0.mk ho7; have hb7 : Below w1.heap.size w1 w7 := (below_al (below_al HB2.out _) _).grown hg7 (by have := HSZ1.out; simp; omega) (fun k e => (own_ltA HO2.out k e).2); have HB7 := Aside0.mk hb7; clear ho7 hg7 hb7)
        go_roundw
        case rel => exact ⟨q + 1, by go_num, by omega, ⟨by rw [HST'.out, List.length_append, List.map_append]; exact HO7.out⟩, HB7⟩
        case measure => simp [intOf]; omega
      · have e8 : (z.f0 == 8) = false := by simp [h8]
        have HST' : Aside0 (stk l (p.take (q + 1)) = stk l (p.take q)) := ⟨by rw [HST.out, nmOf, if_neg h8, List.append_nil]⟩; clear h8
        go_wp2_with (fail)
        go_roundw
        case rel => exact ⟨q + 1, by go_num, by omega, ⟨by rw [HST'.out]; exact own_alloc HO2.out _⟩, ⟨below_al HB2.out _⟩⟩
        case measure => simp [intOf]; omega
    · obtain rfl : q = p.length := by omega
      have hlb : decide ((p.length : Int) < (p.length : Int)) = false := by simp
      rw [List.take_length] at HO
      cases b with
      | false =>
        go_wp2_with (fail)
        go_ret; exact ⟨_, rfl, own_base0 HO.out, hbr⟩
      | true =>
        go_wp2_with (fail)
        go_ret; exact ⟨_, rfl, own_base0 HO.out, hbr⟩
end
end Go.Proofs.Ytjhjhhibbmligaa.TE
end
section
namespace Go.Proofs.Ytjhjhhibbmligaa.TE
open Go.RowKit Go.Shelf Go.Proofs.YtjhjhhibbmligaaW.PrintWords Go.Proofs.YtjhjhhibbmligaaW.PrintLast Go.Proofs.YtjhjhhibbmligaaW.PrintMore Go.Proofs.Ytjhjhhibbmligaa.Evs
set_option linter.unusedVariables false
set_option linter.unusedSimpArgs false
theorem rowsE1 {w : World} {A : Option Addr} {c : Nat} {l : List Tm} (hC : Kd.C k42 w A l.length l) (hc : l.length ≤ c) :
    Kd.C (Kd.slice 42 k42) (w.alloc (.cells #[.slice A l.length c] 22)) (some ⟨w.heap.size, 0, none⟩) 1 [l] := by
  refine ⟨rfl, by decide, fun _ => ⟨_, rfl, fun j p hp => ?_⟩⟩
  have hj : j = 0 := by
    rcases Nat.eq_zero_or_pos j with h | h
    · exact h
    · rw [List.getElem?_eq_none (by simp; omega)] at hp; simp at hp
  subst hj
  obtain rfl : l = p := by simpa using hp
  refine ⟨[.slice A l.length c], rfl, ⟨A, c, rfl, hc, Kd.C_below hC ((Below.refl _ _).alloc (Nat.le_refl _) _)⟩, fun i u hu => ?_⟩; rw [add_plain]; refine (q4 (World.alloc_heap_new w _) _).trans ?_
  match i, hu with
  | 0, hu => exact hu
theorem eqB_refl (l : List ByteArray) : eqB l l = true := decide_eq_true rfl
theorem below_dn {w w' : World} (h : Below w.heap.size w w') (n : Nat) : Below w.heap.size w (w'.drewN n) := h.trans ⟨rfl, rfl, rfl, Nat.le_refl _, fun _ _ => rfl⟩
set_option maxRecDepth 100000 in
set_option maxHeartbeats 4000000 in
theorem EmbedStacks.calls (A : Option Addr) (c : Nat) (l : List Tm) (A1 : Option Addr) (c1 : Nat) (a : List ByteArray) (A2 : Option Addr) (c2 : Nat) (b : List ByteArray) (w : World) (hC : Kd.C k42 w A l.length l) (hc : l.length ≤ c) (hCa : Kd.C Kd.string w A1 a.length a) (hca : a.length ≤ c1) (hCb : Kd.C Kd.string w A2 b.length b) (hcb : b.length ≤ c2)
    (ok : ok42s l) (hb : bk42s l + a.length + b.length ≤ 1048576) :
    Calls Try.prog 3 #[.slice A l.length c, .slice A1 a.length c1, .slice A2 b.length c2] w fun e w' => e = .returned (.bool true) ∧ Below w.heap.size w w' := by
  have hcall0 := Small.calls 500 (some ⟨w.heap.size, 0, none⟩) 1 1 [l] _ (rowsE1 hC hc) rfl (Nat.le_refl _); have hbl : Below w.heap.size w (w.alloc (.cells #[.slice A l.length c] 22)) := (Below.refl _ _).alloc (Nat.le_refl _) _; obtain ⟨W0, hW0⟩ : ∃ W0, w.alloc (.cells #[.slice A l.length c] 22) = W0 := ⟨_, rfl⟩; have HW0 := Aside0.mk hW0; rw [hW0] at hcall0 hbl; obtain ⟨s, hss⟩ : ∃ s, s = (cntAll 500 [l]).1 := ⟨_, rfl⟩; rw [← hss] at hcall0
  have hal : a.length ≤ 1048576 := by omega
  have hbl2 : b.length ≤ 1048576 := by omega
  have hlb : bk42s l ≤ 1048576 := by omega
  have hsl : (stk l (actP l)).length ≤ 1099511627776 := by
    have h1 := stk_len (actP l) l; have h2 := actP_len l; have h3 := flat_len l
    omega
  have ha0 : (0 : Int) ≤ (a.length : Int) := Int.natCast_nonneg _; have hb0 : (0 : Int) ≤ (b.length : Int) := Int.natCast_nonneg _; have HC := Aside0.mk hC; have HCC := Aside0.mk hc; have HCA := Aside0.mk hCa; have HCB := Aside0.mk hCb; have HBL := Aside0.mk hbl; have HCALL0 := Aside0.mk hcall0; have HLB := Aside0.mk hlb; have HSL := Aside0.mk hsl; have HAL := Aside0.mk hal; have HBB := Aside0.mk hbl2; have HCA1 := Aside0.mk hca; have HCB1 := Aside0.mk hcb; clear hC hc ok hb hcall0 hbl hW0 hss hlb hsl hCa hCb hal hbl2 hca hcb
  go_enter Try.func3, Try.ntmps3
  go_wp2_with fail
  rw [HW0.out]; refine HCALL0.out.mono ?_; rintro e w1 ⟨rfl, hb1⟩; have HB1 := Aside0.mk (q12 HBL.out hb1); clear hb1
  have haw : ∀ w2, Below w.heap.size w w2 → Calls Try.prog 16 #[] w2 fun e W' => e = .returned (.bool true) ∧ Below w.heap.size w W' := fun w2 h => (awakeE.calls w2).mono (by rintro e W' ⟨rfl, h2⟩; exact ⟨rfl, q12 h h2⟩)
  have HAW := Aside0.mk haw; clear haw
  by_cases hgo : s = true ∧ a.length ≤ 100 ∧ b.length ≤ 100
  · obtain ⟨rfl, g1, g2⟩ := hgo; have d1 : decide ((a.length : Int) > 100) = false := decide_eq_false (by omega); have d2 : decide ((b.length : Int) > 100) = false := decide_eq_false (by omega); have d1' : decide (a.length > 100) = false := decide_eq_false (by omega); have d2' : decide (b.length > 100) = false := decide_eq_false (by omega); obtain ⟨N, hN⟩ : ∃ N, N = (prefixS a b).1 := ⟨_, rfl⟩; obtain ⟨ob, hob⟩ : ∃ ob, ob = (prefixS a b).2 := ⟨_, rfl⟩
    have hp1 := fun W h1 h2 => Prefix.calls A1 A2 c1 c2 a b W h1 HCA1.out h2 HCB1.out HBB.out
    have hp2 := fun W h1 h2 => rPrefix.any (A0 := A1) (A1 := A2) (c0 := c1) (c1 := c2) (a := a) (b := b) (w := W) h1 HCA1.out h2 HCB1.out HAL.out HBB.out
    rw [← hN, ← hob] at hp1 hp2; have HP1 := Aside0.mk hp1; have HP2 := Aside0.mk hp2
    have e1 : (N == N) = true := by simp
    have e2 : (ob == ob) = true := by simp
    clear hp1 hp2 hN hob
    go_wp2_with fail
    refine (HP1.out w1 (Kd.C_below HCA.out HB1.out) (Kd.C_below HCB.out HB1.out)).mono ?_; rintro e w2 ⟨rfl, n2, hn2⟩; have HB2 : Aside0 (Below w.heap.size w w2) := ⟨by rw [hn2]; exact below_dn HB1.out n2⟩; clear hn2
    go_wp2_with fail
    refine (HP2.out w2 (Kd.C_below HCA.out HB2.out) (Kd.C_below HCB.out HB2.out)).mono ?_; rintro e w3 ⟨rfl, n3, hn3⟩; have HB3 : Aside0 (Below w.heap.size w w3) := ⟨by rw [hn3]; exact below_dn HB2.out n3⟩; clear hn3
    go_wp2_with fail
    refine (Stack.calls A c l w3 (Kd.C_below HC.out HB3.out) HCC.out HLB.out).mono ?_; rintro e w4 ⟨v4, rfl, ho4, hb4⟩; obtain ⟨A4, c4, rfl, hc4, hC4⟩ := own_CS ho4; have HC4 := Aside0.mk hC4; have HCC4 := Aside0.mk hc4; have HB4 := Aside0.mk (q12 HB3.out hb4); clear ho4 hb4 hC4 hc4
    go_wp2_with fail
    refine (rStack.calls A c l w4 (Kd.C_below HC.out HB4.out) HCC.out HLB.out).mono ?_; rintro e w5 ⟨v5, rfl, ho5, hb5⟩; obtain ⟨A5, c5, rfl, hc5, hC5⟩ := own_CS ho5; have HC5 := Aside0.mk hC5; have HCC5 := Aside0.mk hc5; have HC45 := Aside0.mk (Kd.C_below HC4.out hb5); have HB5 := Aside0.mk (q12 HB4.out hb5); clear ho5 hb5 hC5 hc5; have heq := Equal.any HC45.out HCC4.out HC5.out HCC5.out HSL.out; rw [eqB_refl] at heq; have HEQ := Aside0.mk heq; clear heq
    go_wp2_with fail
    refine HEQ.out.mono ?_; rintro e w6 ⟨rfl, n6, hn6⟩; have HB6 : Aside0 (Below w.heap.size w w6) := ⟨by rw [hn6]; exact below_dn HB5.out n6⟩; clear hn6
    go_wp2_with fail
    refine (HAW.out _ HB6.out).mono ?_; rintro e w7 ⟨rfl, hb7⟩; have HB7 := Aside0.mk hb7; clear hb7
    go_wp2_with fail
    go_ret; exact ⟨rfl, HB7.out⟩
  · cases s with
    | false =>
      go_wp2_with fail
      refine (HAW.out _ HB1.out).mono ?_; rintro e w2 ⟨rfl, hb2⟩; have HB2 := Aside0.mk hb2; clear hb2
      go_wp2_with fail
      go_ret; exact ⟨rfl, HB2.out⟩
    | true =>
      by_cases g1 : a.length ≤ 100
      · have d1 : decide ((a.length : Int) > 100) = false := decide_eq_false (by omega); have d2 : decide ((b.length : Int) > 100) = true := decide_eq_true (by have : ¬ b.length ≤ 100 := (fun h => hgo ⟨rfl, g1, h⟩); omega)
        go_wp2_with fail
        refine (HAW.out _ HB1.out).mono ?_; rintro e w2 ⟨rfl, hb2⟩; have HB2 := Aside0.mk hb2; clear hb2
        go_wp2_with fail
        go_ret; exact ⟨rfl, HB2.out⟩
      · have d1 : decide ((a.length : Int) > 100) = true := decide_eq_true (by omega)
        go_wp2_with fail
        refine (HAW.out _ HB1.out).mono ?_; rintro e w2 ⟨rfl, hb2⟩; have HB2 := Aside0.mk hb2; clear hb2
        go_wp2_with fail
        go_ret; exact ⟨rfl, HB2.out⟩
end Go.Proofs.Ytjhjhhibbmligaa.TE
end
