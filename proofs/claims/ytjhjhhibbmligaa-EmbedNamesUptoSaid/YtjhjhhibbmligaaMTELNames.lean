/- The law EmbedNames, by hand. -/
import Derived.Test.YtjhjhhibbmligaaMTERs
import Derived.Test.YtjhjhhibbmligaaMTEWh
import Derived.Test.YtjhjhhibbmligaaMTEWi
namespace Go.Proofs.Ytjhjhhibbmligaa.TE
open Go.RowKit Go.Shelf Go.Proofs.YtjhjhhibbmligaaW.PrintWords Go.Proofs.YtjhjhhibbmligaaW.PrintLast Go.Proofs.YtjhjhhibbmligaaW.PrintMore Go.Proofs.Ytjhjhhibbmligaa.Evs
set_option linter.unusedVariables false
set_option linter.unusedSimpArgs false
theorem rowsN1 {w : World} {A : Option Addr} {c : Nat} {l : List Tm} (hC : Kd.C k42 w A l.length l) (hc : l.length ≤ c) :
    Kd.C (Kd.slice 42 k42) (w.alloc (.cells #[.slice A l.length c] 22)) (some ⟨w.heap.size, 0, none⟩) 1 [l] := by
  refine ⟨rfl, by decide, fun _ => ⟨_, rfl, fun j p hp => ?_⟩⟩
  have hj : j = 0 := by
    rcases Nat.eq_zero_or_pos j with h | h
    · exact h
    · rw [List.getElem?_eq_none (by simp; omega)] at hp; simp at hp
  subst hj
  obtain rfl : l = p := by simpa using hp
  refine ⟨[.slice A l.length c], rfl, ⟨A, c, rfl, hc, Kd.C_below hC ((Below.refl _ _).alloc (Nat.le_refl _) _)⟩, fun i u hu => ?_⟩; rw [add_plain]; refine (q4 (World.alloc_heap_new w _) _).trans ?_
  match i, hu with
  | 0, hu => exact hu
theorem rowsN2 {w : World} {A B : Option Addr} {c d : Nat} {l m : List Tm} (hl : Kd.C k42 w A l.length l) (hc : l.length ≤ c) (hm : Kd.C k42 w B m.length m) (hd : m.length ≤ d) :
    Kd.C (Kd.slice 42 k42) (w.alloc (.cells #[.slice A l.length c, .slice B m.length d] 22)) (some ⟨w.heap.size, 0, none⟩) 2 [l, m] := by
  have hb : Below w.heap.size w (w.alloc (.cells #[.slice A l.length c, .slice B m.length d] 22)) := (Below.refl _ _).alloc (Nat.le_refl _) _; have hk := World.alloc_heap_new w (.cells #[.slice A l.length c, .slice B m.length d] 22); refine ⟨rfl, by decide, fun _ => ⟨_, rfl, fun j p hp => ?_⟩⟩
  match j, hp with
  | 0, hp =>
    obtain rfl : l = p := by simpa using hp
    refine ⟨[.slice A l.length c], rfl, ⟨A, c, rfl, hc, Kd.C_below hl hb⟩, fun i u hu => ?_⟩; rw [add_plain]; refine (q4 hk _).trans ?_
    match i, hu with
    | 0, hu => exact hu
  | 1, hp =>
    obtain rfl : m = p := by simpa using hp
    refine ⟨[.slice B m.length d], rfl, ⟨B, d, rfl, hd, Kd.C_below hm hb⟩, fun i u hu => ?_⟩; rw [add_plain]; refine (q4 hk _).trans ?_
    match i, hu with
    | 0, hu => exact hu
def stf (c : List Tm) (kind : Int) (x : List Tm) : Bool := if kind = 1 then embL x c else if kind = 2 then stS x c else (stS x c && embL x c)
theorem whistle_at {A B : Option Addr} {c d : Nat} {ls : List (List Tm)} {b : List Tm} {w : World} (kind : Int) (hk : kind = 1 ∨ kind = 2 ∨ kind = 3) (hA : Kd.C (Kd.slice 42 k42) w A ls.length ls) (hc : ls.length ≤ c) (hlen : ls.length ≤ 1048576) (hbk : ∀ x ∈ ls, bk42s x ≤ 1048576) (hB : Kd.C k42 w B b.length b) (hd : b.length ≤ d) (h2 : bk42s b ≤ 1048576) :
    Calls Try.prog 39 #[.slice A ls.length c, .slice B b.length d, .int .i64 kind] w fun e w' => e = .returned (.tuple #[.int .i64 (whL (stf b kind) ls ls.length), .int .i64 0]) ∧ Below w.heap.size w w' := by
  rcases hk with rfl | rfl | rfl
  · exact Whistle.calls1 A B c d ls b w hA hc hlen hbk hB hd h2
  · exact Whistle.calls2 A B c d ls b w hA hc hlen hbk hB hd h2
  · exact Whistle.calls3 A B c d ls b w hA hc hlen hbk hB hd h2
def whA (st : List Tm → Bool) (b : List Tm) : Int := if st b = true then 0 else -1
def whB (st : List Tm → Bool) (a b : List Tm) : Int := if st b = true then 1 else whA st a
theorem whL_one (st : List Tm → Bool) (b : List Tm) : whL st [b] 1 = whA st b := by
  unfold whA; simp [whL]
theorem whL_two (st : List Tm → Bool) (a b : List Tm) : whL st [a, b] 2 = whB st a b := by
  unfold whB whA; simp [whL]
set_option maxRecDepth 100000 in
set_option maxHeartbeats 4000000 in
theorem EmbedNames.calls (A1 : Option Addr) (c1 : Nat) (a : List Tm) (A2 : Option Addr) (c2 : Nat) (b : List Tm) (A3 : Option Addr) (c3 : Nat) (c : List Tm) (w : World) (hA : Kd.C k42 w A1 a.length a) (hc1 : a.length ≤ c1) (hB : Kd.C k42 w A2 b.length b) (hc2 : b.length ≤ c2) (hC : Kd.C k42 w A3 c.length c) (hc3 : c.length ≤ c3)
    (ok1 : ok42s a) (ok2 : ok42s b) (ok3 : ok42s c) (hb : bk42s a + bk42s b + bk42s c ≤ 1048576) :
    Calls Try.prog 7 #[.slice A1 a.length c1, .slice A2 b.length c2, .slice A3 c.length c3] w fun e w' => e = .returned (.bool true) ∧ Below w.heap.size w w' := by
  have b1 : bk42s a ≤ 1048576 := by omega
  have b2 : bk42s b ≤ 1048576 := by omega
  have b3 : bk42s c ≤ 1048576 := by omega
  have hcall0 := Flat.calls 60 (some ⟨w.heap.size, 0, none⟩) 3 3 [a, b, c] _ (rowsE3 hA hc1 hB hc2 hC hc3) rfl (Nat.le_refl _) (fun x hx => by
    simp only [List.mem_cons, List.not_mem_nil, or_false] at hx
    rcases hx with rfl | rfl | rfl <;> omega)
  have hbl : Below w.heap.size w (w.alloc (.cells #[.slice A1 a.length c1, .slice A2 b.length c2, .slice A3 c.length c3] 22)) := (Below.refl _ _).alloc (Nat.le_refl _) _; obtain ⟨W0, hW0⟩ : ∃ W0, w.alloc (.cells #[.slice A1 a.length c1, .slice A2 b.length c2, .slice A3 c.length c3] 22) = W0 := ⟨_, rfl⟩; have HW0 := Aside0.mk hW0; rw [hW0] at hcall0 hbl; obtain ⟨ab, hab⟩ : ∃ x, embL a b = x := ⟨_, rfl⟩; have HAB := Aside0.mk (in_at hA hB hc1 hc2 b1 b2 ab hab); have HEAB := Aside0.mk hab; have HA := Aside0.mk hA; have HB := Aside0.mk hB; have HC := Aside0.mk hC; have HC1 := Aside0.mk hc1; have HC2 := Aside0.mk hc2; have HC3 := Aside0.mk hc3; have HBK1 := Aside0.mk b1; have HBK2 := Aside0.mk b2; have HBK3 := Aside0.mk b3; have HBL := Aside0.mk hbl; have HCALL0 := Aside0.mk hcall0
  have haw : ∀ w2, Below w.heap.size w w2 → Calls Try.prog 16 #[] w2 fun e W' => e = .returned (.bool true) ∧ Below w.heap.size w W' := fun w2 h => (awakeE.calls w2).mono (by rintro e W' ⟨rfl, h2⟩; exact ⟨rfl, q12 h h2⟩)
  have HAW := Aside0.mk haw; clear hA hB hC hc1 hc2 hc3 ok1 ok2 ok3 hb b1 b2 b3 hcall0 hbl hW0 haw hab
  go_enter Try.func7, Try.ntmps7
  go_wp2_with fail
  rw [HW0.out]; refine HCALL0.out.mono ?_; rintro e w1 ⟨⟨s, rfl⟩, hb1⟩; have HB1 := Aside0.mk (q12 HBL.out hb1); clear hb1
  cases s with
  | false =>
    go_wp2_with fail
    refine (HAW.out _ HB1.out).mono ?_; rintro e w2 ⟨rfl, hb2⟩; have HB2 := Aside0.mk hb2; clear hb2
    go_wp2_with fail
    go_ret; exact ⟨rfl, HB2.out⟩
  | true =>
    have e0 : (ab != ab) = false := by simp
    have e00 : (ab == ab) = true := by simp
    go_wp2_with fail
    refine (HAB.out _ HB1.out).mono ?_; rintro e w2 ⟨rfl, hb2⟩; have HB2 := Aside0.mk hb2; clear hb2
    go_wp2_with fail
    refine (renamed.calls _ A1 c1 a w2 (Nat.le_refl _) (Kd.C_below HA.out HB2.out) HC1.out HBK1.out).mono ?_; rintro e w3 ⟨v3, a', rfl, ht3, hr3, hb3⟩; obtain ⟨A4, c4, rfl, hc4⟩ := ht3.slice; have hI := In.calls A4 A2 c4 c2 a' b w3 (Kd.F_now ht3.foot.2.2) (Kd.C_below HB.out (q12 HB2.out hb3)) hc4 HC2.out (by rw [← hr3.flat]; exact flat_ok HBK1.out) (flat_ok HBK2.out); rw [← ren_left hr3, HEAB.out] at hI; have HI := Aside0.mk hI; have HB3 := Aside0.mk (q12 HB2.out hb3); clear hI ht3 hr3 hb3 hc4
    go_wp2_with fail
    refine HI.out.mono ?_; rintro e w4 ⟨rfl, hb4⟩; have HB4 := Aside0.mk (q12 HB3.out hb4); clear hb4 HI
    go_wp2_with fail
    refine (HAB.out _ HB4.out).mono ?_; rintro e w5 ⟨rfl, hb5⟩; have HB5 := Aside0.mk hb5; clear hb5
    go_wp2_with fail
    refine (renamed.calls _ A2 c2 b w5 (Nat.le_refl _) (Kd.C_below HB.out HB5.out) HC2.out HBK2.out).mono ?_; rintro e w6 ⟨v6, b', rfl, ht6, hr6, hb6⟩; obtain ⟨A5, c5, rfl, hc5⟩ := ht6.slice; have hI := In.calls A1 A5 c1 c5 a b' w6 (Kd.C_below HA.out (q12 HB5.out hb6)) (Kd.F_now ht6.foot.2.2) HC1.out hc5 (flat_ok HBK1.out) (by rw [← hr6.flat]; exact flat_ok HBK2.out); rw [← ren_right hr6, HEAB.out] at hI; have HI := Aside0.mk hI; have HB6 := Aside0.mk (q12 HB5.out hb6); clear hI ht6 hr6 hb6 hc5
    go_wp2_with fail
    refine HI.out.mono ?_; rintro e w7 ⟨rfl, hb7⟩; have HB7 := Aside0.mk (q12 HB6.out hb7); clear hb7 HI
    go_wp2_with fail
    obtain ⟨g, hg⟩ : ∃ g, g = w7.heap.size := ⟨_, rfl⟩; have HGG := Aside0.mk hg; rw [← hg]; clear hg
    go_loopw [8] (fun i wr => ∃ (k : Nat) (f : Nat → Int), i = .int .i64 k ∧ 1 ≤ k ∧ k ≤ 4 ∧ Aside0 (∀ j, 1 ≤ j → j < k → f j = whA (stf c j) b) ∧ Aside0 (wr.heap[g]? = some (.cells #[.int .i64 (f 0), .int .i64 (f 1), .int .i64 (f 2), .int .i64 (f 3)] 60 (0, 0))) ∧ Aside0 (Below w.heap.size w wr)) (fun i wr => 4 - (intOf i).toNat)
    case atStart => exact ⟨1, fun _ => 0, rfl, Nat.le_refl _, by omega, ⟨fun j h1 h2 => by omega⟩, ⟨by rw [HGG.out]; exact World.alloc_heap_new w7 _⟩, ⟨below_al HB7.out _⟩⟩
    case round =>
      obtain ⟨k, f, rfl, hk1, hk4, HF, HK, HBr⟩ := hrel
      by_cases hlt : k ≤ 3
      · have hlb : decide ((k : Int) ≤ 3) = true := decide_eq_true (by omega); have hlb' : decide (k ≤ 3) = true := decide_eq_true hlt
        have hk3 : (k : Int) = 1 ∨ (k : Int) = 2 ∨ (k : Int) = 3 := by omega
        have hrows := rowsN2 (Kd.C_below HA.out HBr.out) HC1.out (Kd.C_below HB.out HBr.out) HC2.out; obtain ⟨Wa, hWa⟩ : ∃ Wa, Wa = wr.alloc (.cells #[.slice A1 a.length c1, .slice A2 b.length c2] 22) := ⟨_, rfl⟩; rw [← hWa] at hrows
        have hba : Below wr.heap.size wr Wa := by rw [hWa]; exact (Below.refl _ _).alloc (Nat.le_refl _) _
        have hw2 := whistle_at (c := 2) (d := c3) (ls := [a, b]) (b := c) (w := Wa) (k : Int) hk3 hrows (Nat.le_refl _) (by simp) (fun x hx => by
          simp only [List.mem_cons, List.not_mem_nil, or_false] at hx
          rcases hx with rfl | rfl
          · exact HBK1.out
          · exact HBK2.out) (Kd.C_below HC.out (q12 HBr.out hba)) HC3.out HBK3.out
        rw [show ([a, b] : List (List Tm)).length = 2 from rfl, whL_two] at hw2; obtain ⟨r2, hr2⟩ : ∃ r, r = whB (stf c k) a b := ⟨_, rfl⟩; rw [← hr2] at hw2; obtain ⟨r1, hr1⟩ : ∃ r, r = whA (stf c k) b := ⟨_, rfl⟩
        have hcase : (r1 = 0 ∧ r2 = 1) ∨ (r1 = -1 ∧ (r2 = 0 ∨ r2 = -1)) := by
          rw [hr1, hr2]; unfold whB whA
          by_cases h1 : stf c k b = true
          · simp [h1]
          · by_cases h2 : stf c k a = true
            · simp [h1, h2]
            · simp [h1, h2]
        have HR1 := Aside0.mk hr1; have HWA := Aside0.mk hWa; have HBA := Aside0.mk (q12 HBr.out hba); have HBA0 := Aside0.mk hba; have HW2 := Aside0.mk hw2; have HK3 := Aside0.mk hk3; clear hWa hrows hba hw2 hr2 hr1 hk3
        go_wp2_with fail
        rw [← HWA.out]; refine HW2.out.mono ?_; rintro e Wb ⟨rfl, hbb⟩; have hrows := rowsN1 (Kd.C_below HB.out (q12 HBA.out hbb)) HC2.out; obtain ⟨Wc, hWc⟩ : ∃ Wc, Wc = Wb.alloc (.cells #[.slice A2 b.length c2] 22) := ⟨_, rfl⟩; rw [← hWc] at hrows
        have hbc : Below Wb.heap.size Wb Wc := by rw [hWc]; exact (Below.refl _ _).alloc (Nat.le_refl _) _
        have hw1 := whistle_at (c := 1) (d := c3) (ls := [b]) (b := c) (w := Wc) (k : Int) HK3.out hrows (Nat.le_refl _) (by simp) (fun x hx => by
          simp only [List.mem_cons, List.not_mem_nil, or_false] at hx
          subst hx; exact HBK2.out) (Kd.C_below HC.out (q12 (q12 HBA.out hbb) hbc)) HC3.out HBK3.out
        rw [show ([b] : List (List Tm)).length = 1 from rfl, whL_one, ← HR1.out] at hw1; have HWC := Aside0.mk hWc; have HBC := Aside0.mk (q12 (q12 HBA.out hbb) hbc); have HBC0 := Aside0.mk (q12 HBA0.out (q12 hbb hbc)); have HW1 := Aside0.mk hw1; clear hWc hrows hbc hbb hw1
        go_wp2_with fail
        rw [← HWC.out]; refine HW1.out.mono ?_; rintro e Wd ⟨rfl, hbd⟩; have hkd := q13 (q13 HK.out HBC0.out) hbd; have HKD := Aside0.mk hkd; have HBD := Aside0.mk (q12 HBC.out hbd)
        have qa : ∀ i, Wd.frozen? ⟨g, i, none⟩ = false := fun i => q11 hkd i
        have p0 : Wd.cell? ⟨g, 0, none⟩ = some (.int .i64 (f 0)) := (q4 hkd 0).trans rfl; have p1 : Wd.cell? ⟨g, 1, none⟩ = some (.int .i64 (f 1)) := (q4 hkd 1).trans rfl; have p2 : Wd.cell? ⟨g, 2, none⟩ = some (.int .i64 (f 2)) := (q4 hkd 2).trans rfl; have p3 : Wd.cell? ⟨g, 3, none⟩ = some (.int .i64 (f 3)) := (q4 hkd 3).trans rfl; clear hkd hbd
        have hk0 : (0 : Int) ≤ (k : Int) := by omega
        have hkl : (k : Int) < 4 := by omega
        have hkw : IntKind.i64.wrap ((k : Int) + 1) = (k : Int) + 1 := by rw [i64_w]; rw [wrap64_id (by omega) (by omega)]
        have hset : ∀ v : Int, (Wd.setCell ⟨g, k, none⟩ (.int .i64 v)).heap[g]? = some (.cells #[.int .i64 (if 0 = k then v else f 0), .int .i64 (if 1 = k then v else f 1), .int .i64 (if 2 = k then v else f 2), .int .i64 (if 3 = k then v else f 3)] 60 (0, 0)) := fun v => by
          have h := q21 HKD.out k (.int .i64 v)
          rcases (show k = 1 ∨ k = 2 ∨ k = 3 by omega) with rfl | rfl | rfl <;> simpa using h
        have HSET := Aside0.mk hset; clear hset
        obtain ⟨vk, pk⟩ : ∃ v, Wd.cell? ⟨g, k, none⟩ = some v := by
          rcases (show k = 1 ∨ k = 2 ∨ k = 3 by omega) with rfl | rfl | rfl
          · exact ⟨_, p1⟩
          · exact ⟨_, p2⟩
          · exact ⟨_, p3⟩
        have qk := qa k; clear p0 p1 p2 p3 qa
        rcases hcase with ⟨rfl, rfl⟩ | ⟨rfl, rfl | rfl⟩
        all_goals
          go_wp2_with fail
          go_roundw
          case rel => exact ⟨k + 1, fun j => if j = k then _ else f j, by go_num, by omega, by omega, ⟨fun j h1 h2 => by
            by_cases h : j = k
            · subst h; simpa using HR1.out
            · simp only [if_neg h]; exact HF.out j h1 (by omega)⟩, ⟨HSET.out _⟩, ⟨HBD.out.setCell (p := ⟨g, k, none⟩) (by rw [HGG.out]; exact HB7.out.size) _⟩⟩
          case measure => simp [intOf]; omega
      · obtain rfl : k = 4 := by omega
        have hlb : decide (((4 : Nat) : Int) ≤ 3) = false := by decide
        have hlb' : decide ((4 : Int) ≤ 3) = false := by decide
        have f1 := HF.out 1 (by omega) (by omega); have f2 := HF.out 2 (by omega) (by omega); have f3 := HF.out 3 (by omega) (by omega); have p1 : wr.cell? ⟨g, 1, none⟩ = some (.int .i64 (f 1)) := (q4 HK.out 1).trans rfl; have p2 : wr.cell? ⟨g, 2, none⟩ = some (.int .i64 (f 2)) := (q4 HK.out 2).trans rfl; have p3 : wr.cell? ⟨g, 3, none⟩ = some (.int .i64 (f 3)) := (q4 HK.out 3).trans rfl
        have hcase : (f 1 = 0 ∧ f 2 = 0 ∧ f 3 = 0) ∨ (f 1 = 0 ∧ f 2 = -1 ∧ f 3 = -1) ∨ (f 1 = -1 ∧ f 2 = 0 ∧ f 3 = -1) ∨ (f 1 = -1 ∧ f 2 = -1 ∧ f 3 = -1) := by
          rw [f1, f2, f3]; unfold whA stf
          cases embL b c <;> cases stS b c <;> simp
        obtain ⟨v1, hv1⟩ : ∃ v, v = f 1 := ⟨_, rfl⟩; obtain ⟨v2, hv2⟩ : ∃ v, v = f 2 := ⟨_, rfl⟩; obtain ⟨v3, hv3⟩ : ∃ v, v = f 3 := ⟨_, rfl⟩; rw [← hv1] at p1 hcase; rw [← hv2] at p2 hcase; rw [← hv3] at p3 hcase; clear f1 f2 f3 hv1 hv2 hv3 HF
        go_upto_region 14 with fail
        go_cut [98] (fun v98 wx => v98 = .bool false ∧ wx = wr)
        case first =>
          rcases hcase with ⟨rfl, rfl, rfl⟩ | ⟨rfl, rfl, rfl⟩ | ⟨rfl, rfl, rfl⟩ | ⟨rfl, rfl, rfl⟩
          all_goals
            go_wp2_with fail
            go_meet
            case rel => exact ⟨rfl, rfl⟩
        case rest =>
          obtain ⟨rfl, rfl⟩ := hcut; have hflat := flat_len a
          have hlen : (stk a (actP a)).length ≤ 1048576 := by
            have h1 := stk_len (actP a) a; have h2 := actP_len a; have h3 := HBK1.out
            omega
          have hself := prefix_self (stk a (actP a)); have hcal := stk_calls a; rw [show (flat a).any (fun x => decide (x.f0 = 8)) = hasCall a from rfl] at hcal; have HLEN := Aside0.mk hlen; have HSELF := Aside0.mk hself; have HCAL := Aside0.mk hcal; clear hflat hlen hself hcal p1 p2 p3 hcase
          go_wp2_with fail
          refine (Stack.calls A1 c1 a _ (Kd.C_below HA.out HBr.out) HC1.out HBK1.out).mono ?_; rintro e Ws ⟨v, rfl, ho, hbs⟩; obtain ⟨As, cs, rfl, hcs, hCs⟩ := own_CS ho; have hpx := Prefix.calls As As cs cs _ _ Ws hCs hcs hCs hcs HLEN.out; rw [HSELF.out] at hpx; obtain ⟨n, hn⟩ : ∃ n, n = (stk a (actP a)).length := ⟨_, rfl⟩; rw [← hn] at hpx hcs ⊢; obtain ⟨pn, hpn⟩ : ∃ pn, pn = (prefixS (stk a (actP a)) (stk a (actP a))).1 := ⟨_, rfl⟩; rw [← hpn] at hpx; have HN := Aside0.mk hn; have HPX := Aside0.mk hpx; have HBS := Aside0.mk (q12 HBr.out hbs); clear ho hbs hpx hcs hCs hn hpn
          go_wp2_with fail
          refine HPX.out.mono ?_; rintro e Wp ⟨rfl, np, hnp⟩; have HBP : Aside0 (Below w.heap.size w Wp) := ⟨by rw [hnp]; exact HBS.out.trans ⟨rfl, rfl, rfl, Nat.le_refl _, fun _ _ => rfl⟩⟩; clear hnp; have hct := CallsT.calls A1 c1 a Wp (Kd.C_below HA.out HBP.out) HC1.out; rw [← HCAL.out, ← HN.out] at hct; have HCT := Aside0.mk hct; clear hct; have hn0 : (0 : Int) ≤ (n : Int) := Int.natCast_nonneg _
          by_cases hpos : 0 < n
          · have d1 : decide ((n : Int) > 0) = true := decide_eq_true (by omega); have d2 : decide (0 < n) = true := decide_eq_true hpos; rw [d2] at HCT
            go_wp2_with fail
            refine HCT.out.mono ?_; rintro e Wq ⟨rfl, hbq⟩; have HBQ := Aside0.mk (q12 HBP.out hbq); clear hbq
            go_wp2_with fail
            refine (HAW.out _ HBQ.out).mono ?_; rintro e Wz ⟨rfl, hbz⟩; have HBZ := Aside0.mk hbz; clear hbz
            go_wp2_with fail
            go_ret; exact ⟨rfl, HBZ.out⟩
          · have d1 : decide ((n : Int) > 0) = false := decide_eq_false (by omega); have d2 : decide (0 < n) = false := decide_eq_false hpos; rw [d2] at HCT
            go_wp2_with fail
            refine HCT.out.mono ?_; rintro e Wq ⟨rfl, hbq⟩; have HBQ := Aside0.mk (q12 HBP.out hbq); clear hbq
            go_wp2_with fail
            refine (HAW.out _ HBQ.out).mono ?_; rintro e Wz ⟨rfl, hbz⟩; have HBZ := Aside0.mk hbz; clear hbz
            go_wp2_with fail
            go_ret; exact ⟨rfl, HBZ.out⟩
end Go.Proofs.Ytjhjhhibbmligaa.TE
