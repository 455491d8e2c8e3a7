/- Part of the walk: lemmas and printed functions that the claim uses (wip/tools/trim.py). -/
import Derived.Test.YtdbjjaodkapikaaHTEx0
namespace Go.Proofs.Ytdbjjaodkapikaa.TE
open Go.RowKit Go.Proofs.YtdbjjaodkapikaaW.PrintWords Go.Proofs.YtdbjjaodkapikaaW.PrintLast Go.Proofs.YtdbjjaodkapikaaW.PrintMore
attribute [local go_sem] max2_int min2_int max_two min_two max_three min_three max_four min_four
set_option linter.unusedVariables false
set_option linter.unusedSimpArgs false
mutual
def chiasmusref01_Calls.l0 : Nat → List (S42) → Int → Option (Bool)
  | 0, _, _ => none
  | k + 1, x0, x3 => if x3 < (x0.length : Int) then (if 0 ≤ x3 then (if ((rd_T42 x0 x3).f0) = 8 then (some true) else ((chiasmusref01_Calls.f k ((rd_T42 x0 x3).f2)).bind fun t332 => (if t332 = true then (some true) else (chiasmusref01_Calls.l0 k x0 (wrap64 (x3 + 1)))))) else (none)) else (some false)
def chiasmusref01_Calls.f : Nat → List (S42) → Option (Bool)
  | 0, _ => none
  | k + 1, l0 => chiasmusref01_Calls.l0 k l0 0
end
set_option maxHeartbeats 8000000 in
set_option maxRecDepth 100000 in
theorem chiasmusref01_Calls.calls (k : Nat) : ∀ (A0 : Option Addr) (c0 : Nat) (l0 : List (S42)) (r : Bool) (w : World) (hr0 : Kd.C k42 w A0 l0.length l0) (hc0 : l0.length ≤ c0) (h : chiasmusref01_Calls.f k l0 = some r),
    Calls Try.prog 50 #[.slice A0 l0.length c0] w fun e w' => e = .returned (.bool r) ∧ Drawn0 w w' := by
  induction k using Nat.strongRecOn with
  | _ k ih =>
  intro A0 c0 l0 r w hr0 hc0 h
  cases k with
  | zero => exact absurd h (by simp [chiasmusref01_Calls.f])
  | succ k =>
  simp only [chiasmusref01_Calls.f] at h; have HR0 := Aside0.mk hr0; have HC0 := Aside0.mk hc0; clear hr0 hc0; have H : (chiasmusref01_Calls.l0 k l0 0) = some r := h; clear h; have H' := Aside0.mk H; clear H
  go_enter Try.func50, Try.ntmps50
  go_wp2
  go_loopg [3] k (fun kq v3 w' => ∃ (x3_1 : Int), v3 = .int .i64 x3_1 ∧ Aside0 (chiasmusref01_Calls.l0 kq l0 x3_1 = some r) ∧ Aside0 (kq ≤ k) ∧ Drawn0 w w')
  case atStart => exact ⟨(0), (by first | rfl | (simp; done) | (simp [*]; done)), H', ⟨Nat.le_refl _⟩, by repeat (first | exact Drawn0.refl _ | apply Drawn0.step)⟩
  case round =>
    clear H'; obtain ⟨x3_1, rfl, HA, HK1, ⟨m1, rfl⟩⟩ := hrel
    cases gk with
    | zero => exact absurd HA.out (by simp [chiasmusref01_Calls.l0])
    | succ k1 =>
      have H := HA.out; clear HA; simp only [chiasmusref01_Calls.l0] at H
      by_cases c2 : x3_1 < (l0.length : Int)
      · rw [if_pos c2] at H; have c2b0 : decide (x3_1 < (l0.length : Int)) = true := decide_eq_true c2; clear c2
        by_cases c3 : 0 ≤ x3_1
        · rw [if_pos c3] at H; have c3b0 : decide (0 ≤ x3_1) = true := decide_eq_true c3; clear c3
          by_cases c4 : ((rd_T42 l0 x3_1).f0) = 8
          · rw [if_pos c4] at H; have c4b0 : (((rd_T42 l0 x3_1).f0) == 8) = true := beq_iff_eq.mpr c4; have c4b1 : (((rd_T42 l0 x3_1).f0) != 8) = false := bne_eq_false_iff_eq.mpr c4; clear c4; obtain rfl := Option.some.inj H; have p330 : 0 ≤ (x3_1 : Int) := of_decide_eq_true (by first | (with_reducible assumption) | assumption); have q330 : x3_1 < (l0.length : Int) := of_decide_eq_true (by first | (with_reducible assumption) | assumption); obtain ⟨ad330, A330_2, c330_2, e330, hx330_0, hx330_1, hx330_2, hl330_2, hi330_2⟩ := at_T42 HR0.out x3_1 p330 q330; cases e330; have HR330_2 := Aside0.mk hi330_2; have HC330_2 := Aside0.mk hl330_2; clear hi330_2 hl330_2; replace p330 := eq_true p330; replace q330 := eq_true q330
            go_wp2
            go_ret; exact ⟨by first | rfl | (simp; done) | (simp [*]; done), by repeat (first | exact Drawn0.refl _ | apply Drawn0.step)⟩
          · rw [if_neg c4] at H; have c4b0 : (((rd_T42 l0 x3_1).f0) == 8) = false := beq_eq_false_iff_ne.mpr c4; have c4b1 : (((rd_T42 l0 x3_1).f0) != 8) = true := bne_iff_ne.mpr c4; replace H := Option.bind_eq_some_iff.mp H; obtain ⟨t332, A50, H⟩ := H; replace H : (if t332 = true then (some true) else (chiasmusref01_Calls.l0 k1 l0 (wrap64 (x3_1 + 1)))) = some r := H; have A5 := Aside0.mk A50; clear A50
            by_cases c6 : t332 = true
            · subst c6
              have H1 : (some true) = some r := by rw [if_pos rfl] at H; exact H
              clear H; have H := H1; clear H1; obtain rfl := Option.some.inj H; have p330 : 0 ≤ (x3_1 : Int) := of_decide_eq_true (by first | (with_reducible assumption) | assumption); have q330 : x3_1 < (l0.length : Int) := of_decide_eq_true (by first | (with_reducible assumption) | assumption); obtain ⟨ad330, A330_2, c330_2, e330, hx330_0, hx330_1, hx330_2, hl330_2, hi330_2⟩ := at_T42 HR0.out x3_1 p330 q330; cases e330; have HR330_2 := Aside0.mk hi330_2; have HC330_2 := Aside0.mk hl330_2; clear hi330_2 hl330_2; replace p330 := eq_true p330; replace q330 := eq_true q330; have p331 : 0 ≤ (x3_1 : Int) := of_decide_eq_true (by first | (with_reducible assumption) | assumption); have q331 : x3_1 < (l0.length : Int) := of_decide_eq_true (by first | (with_reducible assumption) | assumption); obtain ⟨ad331, A331_2, c331_2, e331, hx331_0, hx331_1, hx331_2, hl331_2, hi331_2⟩ := at_T42 HR0.out x3_1 p331 q331; obtain rfl : ad330 = ad331 := (by injection e331); have HR331_2 := Aside0.mk hi331_2; have HC331_2 := Aside0.mk hl331_2; clear hi331_2 hl331_2; replace p331 := eq_true p331; replace q331 := eq_true q331; have ea_ := Option.some.inj (hx330_2.symm.trans hx331_2)
              injection ea_ with ea_ en_ ec_
              subst ea_; subst ec_; clear en_
              go_wp2_with (first | (go_at_call 50; (with_reducible refine (ih k1 (by have := HK1.out; omega) _ _ ((rd_T42 l0 x3_1).f2) true _ ?side1 ?side2 A5.out).mono ?_); (case side1 => repeat (first | exact HR331_2.out | (with_reducible refine Kd.C_alloc ?_ _) | (with_reducible refine Kd.C_drewN ?_ _) | (with_reducible refine Kd.C_drew ?_))); (case side2 => exact HC331_2.out); rintro e w' ⟨rfl, ⟨nd, rfl⟩⟩))
              go_ret; exact ⟨by first | rfl | (simp; done) | (simp [*]; done), by repeat (first | exact Drawn0.refl _ | apply Drawn0.step)⟩
            · replace c6 := Bool.eq_false_iff.mpr c6; subst c6
              have H1 : (chiasmusref01_Calls.l0 k1 l0 (wrap64 (x3_1 + 1))) = some r := by rw [if_neg (show ¬ (false = true) by decide)] at H; exact H
              clear H; have H := H1; clear H1; have H' := Aside0.mk H; clear H; have p330 : 0 ≤ (x3_1 : Int) := of_decide_eq_true (by first | (with_reducible assumption) | assumption); have q330 : x3_1 < (l0.length : Int) := of_decide_eq_true (by first | (with_reducible assumption) | assumption); obtain ⟨ad330, A330_2, c330_2, e330, hx330_0, hx330_1, hx330_2, hl330_2, hi330_2⟩ := at_T42 HR0.out x3_1 p330 q330; cases e330; have HR330_2 := Aside0.mk hi330_2; have HC330_2 := Aside0.mk hl330_2; clear hi330_2 hl330_2; replace p330 := eq_true p330; replace q330 := eq_true q330; have p331 : 0 ≤ (x3_1 : Int) := of_decide_eq_true (by first | (with_reducible assumption) | assumption); have q331 : x3_1 < (l0.length : Int) := of_decide_eq_true (by first | (with_reducible assumption) | assumption); obtain ⟨ad331, A331_2, c331_2, e331, hx331_0, hx331_1, hx331_2, hl331_2, hi331_2⟩ := at_T42 HR0.out x3_1 p331 q331; obtain rfl : ad330 = ad331 := (by injection e331); have HR331_2 := Aside0.mk hi331_2; have HC331_2 := Aside0.mk hl331_2; clear hi331_2 hl331_2; replace p331 := eq_true p331; replace q331 := eq_true q331; have ea_ := Option.some.inj (hx330_2.symm.trans hx331_2)
              injection ea_ with ea_ en_ ec_
              subst ea_; subst ec_; clear en_
              go_wp2_with (first | (go_at_call 50; (with_reducible refine (ih k1 (by have := HK1.out; omega) _ _ ((rd_T42 l0 x3_1).f2) false _ ?side1 ?side2 A5.out).mono ?_); (case side1 => repeat (first | exact HR331_2.out | (with_reducible refine Kd.C_alloc ?_ _) | (with_reducible refine Kd.C_drewN ?_ _) | (with_reducible refine Kd.C_drew ?_))); (case side2 => exact HC331_2.out); rintro e w' ⟨rfl, ⟨nd, rfl⟩⟩))
              go_roundg k1
              case measure => have := HK1.out; omega
              case rel => exact ⟨(wrap64 (x3_1 + 1)), (by first | rfl | (simp; done) | (simp [*]; done)), H', ⟨by have := HK1.out; omega⟩, by repeat (first | exact Drawn0.refl _ | apply Drawn0.step)⟩
        · rw [if_neg c3] at H; exact absurd H (by simp)
      · rw [if_neg c2] at H; have c2b0 : decide (x3_1 < (l0.length : Int)) = false := decide_eq_false c2; clear c2; obtain rfl := Option.some.inj H
        go_wp2
        go_ret; exact ⟨by first | rfl | (simp; done) | (simp [*]; done), by repeat (first | exact Drawn0.refl _ | apply Drawn0.step)⟩
def chiasmusref01_Chars.l0 : Nat → ByteArray → List (S42) → Int → Option ((List (S42)))
  | 0, _, _, _ => none
  | k + 1, x0, x3, x4 => if x4 < (x0.size : Int) then (if 0 ≤ x4 then (if x4 ≤ (wrap64 (x4 + 1)) then (if (wrap64 (x4 + 1)) ≤ (x0.size : Int) then (if x3.length < 2932031007402 then (chiasmusref01_Chars.l0 k x0 (x3 ++ [(⟨1, x0.extract (x4 : Int).toNat ((wrap64 (x4 + 1)) : Int).toNat, ([] : List (S42))⟩ : S42)]) (wrap64 (x4 + 1))) else (none)) else (none)) else (none)) else (none)) else (some x3)
def chiasmusref01_Chars.f (k : Nat) (a0 : ByteArray) : Option ((List (S42))) := chiasmusref01_Chars.l0 k a0 (([] : List (S42))) 0
set_option maxHeartbeats 8000000 in
set_option maxRecDepth 100000 in
theorem chiasmusref01_Chars.calls (k : Nat) (a0 : ByteArray) (r : List (S42)) (w : World) (h : chiasmusref01_Chars.f k a0 = some r) :
    Calls Try.prog 52 #[.string a0] w fun e w' => ∃ v0_ : Value, e = .returned (v0_) ∧ Kd.R k42 42 w' w.heap.size (fun _ => True) v0_ r ∧ Below w.heap.size w w' := by
  have hu42 := Try.underlying42; have HB := Aside0.mk (Below.refl w.heap.size w); have H : (chiasmusref01_Chars.l0 k a0 (([] : List (S42))) 0) = some r := h; clear h; obtain ⟨y333, hy333⟩ : ∃ y_ : List (S42), y_ = (([] : List (S42))) := ⟨_, rfl⟩
  replace H : (chiasmusref01_Chars.l0 k a0 y333 0) = some r := by first | (rw [hy333]; with_reducible exact H) | (have H2_ := (Option.bind_some _ _).symm.trans H; rw [hy333]; with_reducible exact H2_) | (have H2_ := (Option.bind_some _ _).symm.trans H; with_reducible exact H2_) | with_reducible exact H | (rw [hy333]; exact H) | exact H
  have Ny333 := Aside0.mk hy333; clear hy333; have H' := Aside0.mk H; clear H
  go_enter Try.func52, Try.ntmps52
  go_wp2_with (first | ((with_reducible refine q23 (N := 5) rfl ?_); refine Kd.R_lit k42 _ 42 ?hg (N := 5) ?hd (xs := ([] : List (S42))) (inner := []) (ok := fun _ => True) (okp := fun _ => True) ?hr ?hp (fun _ hk => hk) trivial (Below.refl _ _) (Nat.le_refl _) (by simp) ?_; (case hd => rfl); (case hg => rfl); (case hr => first | (go_simp; done) | (go_simp; rfl)); (case hp => exact (Reps.none _ _)); intro v334 w2 ho3 hb hg_ hnew_; clear hg_ hnew_; (first | rw [← Ny333.out] at ho3 | (simp only [Int.reduceToNat] at ho3; rw [← Ny333.out] at ho3)); have n0_ := Aside0.mk (Kd.R_lower ho3 (q15 (by repeat (first | (with_reducible first | exact HB.out | apply q9 | apply q3 | apply q5) | exact HB.out)))); have n1_ := Aside0.mk (q14 (by repeat (first | (with_reducible first | exact HB.out | apply q9 | apply q3 | apply q5) | exact HB.out)) hb); clear HB; have HO335 := n0_; have HB := n1_; clear n0_ n1_; clear hb ho3))
  go_loopg [3, 4] k (fun kq v3 v4 w' => ∃ (x3_1 : List (S42)) (x4_1 : Int), v4 = .int .i64 x4_1 ∧ Aside0 (chiasmusref01_Chars.l0 kq a0 x3_1 x4_1 = some r) ∧ Aside0 (kq ≤ k) ∧ Aside0 (Kd.R k42 42 w' w.heap.size (fun _ => True) v3 x3_1) ∧ Aside0 (Below w.heap.size w w'))
  case atStart => exact ⟨(y333), (0), (by first | rfl | (simp; done) | (simp [*]; done)), H', ⟨Nat.le_refl _⟩, ⟨by (with_reducible repeat (first | apply Kd.R_alloc | apply Kd.R_drewN | apply Kd.R_drew)); exact HO335.out⟩, ⟨by repeat (first | (with_reducible first | exact HB.out | apply q9 | apply q3 | apply q5) | exact HB.out)⟩⟩
  case round =>
    clear H'
    try clear p2
    obtain ⟨x3_1, x4_1, rfl, HA, HK1, HO_3, HB⟩ := hrel
    cases gk with
    | zero => exact absurd HA.out (by simp [chiasmusref01_Chars.l0])
    | succ k1 =>
      have H := HA.out; clear HA; simp only [chiasmusref01_Chars.l0] at H
      by_cases c4 : x4_1 < (a0.size : Int)
      · rw [if_pos c4] at H; have c4b0 : decide (x4_1 < (a0.size : Int)) = true := decide_eq_true c4; clear c4
        by_cases c5 : 0 ≤ x4_1
        · rw [if_pos c5] at H; have c5b0 := eq_true c5; have c5b1 : decide (0 ≤ x4_1) = true := decide_eq_true c5; clear c5
          by_cases c6 : x4_1 ≤ (wrap64 (x4_1 + 1))
          · rw [if_pos c6] at H; have c6b0 := eq_true c6; have c6b1 : decide (x4_1 ≤ (wrap64 (x4_1 + 1))) = true := decide_eq_true c6
            by_cases c7 : (wrap64 (x4_1 + 1)) ≤ (a0.size : Int)
            · rw [if_pos c7] at H; have c7b0 := eq_true c7; have c7b1 : decide ((wrap64 (x4_1 + 1)) ≤ (a0.size : Int)) = true := decide_eq_true c7
              by_cases c8 : x3_1.length < 2932031007402
              · rw [if_pos c8] at H; have LMc8 := Aside0.mk c8; clear c8; obtain ⟨y336, hy336⟩ : ∃ y_ : List (S42), y_ = (x3_1 ++ [(⟨1, a0.extract (x4_1 : Int).toNat ((wrap64 (x4_1 + 1)) : Int).toNat, ([] : List (S42))⟩ : S42)]) := ⟨_, rfl⟩
                replace H : (chiasmusref01_Chars.l0 k1 a0 y336 (wrap64 (x4_1 + 1))) = some r := by first | (rw [hy336]; with_reducible exact H) | (have H2_ := (Option.bind_some _ _).symm.trans H; rw [hy336]; with_reducible exact H2_) | (have H2_ := (Option.bind_some _ _).symm.trans H; with_reducible exact H2_) | with_reducible exact H | (rw [hy336]; exact H) | exact H
                have Ny336 := Aside0.mk hy336; clear hy336; have H' := Aside0.mk H; clear H
                go_wp2_with (first | ((with_reducible refine gate_builtin (b := .append) (xs := #[.tmp 12, .tmp 19]) rfl ?_); at_builtin; refine Kd.R_append k42 (w0 := w) w.heap.size rfl (.tmp 12) (.tmp 19) 22 42 (.agg #[(.int .i64 0), (.string ⟨#[]⟩), (.slice none 0 0)]) 48 rfl Try.underlying22 info42 rfl (by decide) (by omega) u3 x3_1 (⟨1, a0.extract (x4_1 : Int).toNat ((wrap64 (x4_1 + 1)) : Int).toNat, ([] : List (S42))⟩ : S42) [.int .i64 1, .string (a0.extract (x4_1 : Int).toNat ((wrap64 (x4_1 + 1)) : Int).toNat), .slice none 0 0] (fun _ => True) (fun k_ => ((fun _ => True)) k_ ∧ some k_ ≠ (u3 : Value).ownBlock) rfl rfl ?aP (fun _ hk => hk) ?aF ?aO ?aB ?aS ?aL ?_; (case aP => exact k42_mkM _ _ _ (⟨1, a0.extract (x4_1 : Int).toNat ((wrap64 (x4_1 + 1)) : Int).toNat, ([] : List (S42))⟩ : S42) (Kd.R_nil _ _ _ _ _)); (case aB => exact (by repeat (first | (with_reducible first | exact HB.out | apply q9 | apply q3 | apply q5) | exact HB.out))); (case aF => exact (fun _ _ => trivial)); (case aO => exact (by (with_reducible repeat (first | apply Kd.R_alloc | apply Kd.R_drewN | apply Kd.R_drew)); exact HO_3.out)); (case aS => exact (q15 (by repeat (first | (with_reducible first | exact HB.out | apply q9 | apply q3 | apply q5) | exact HB.out)))); (case aL => have := LMc8.out; omega); intro v337 w9 ho hb hg hat; rw [← Ny336.out] at ho; have n0_ := Aside0.mk (hb); have n1_ := Aside0.mk (ho); clear HB; clear HO_3; have HB := n0_; have HO338 := n1_; clear n0_ n1_; clear ho hb hg hat))
                go_roundg k1
                case measure => have := HK1.out; omega
                case rel => exact ⟨(y336), (wrap64 (x4_1 + 1)), (by first | rfl | (simp; done) | (simp [*]; done)), H', ⟨by have := HK1.out; omega⟩, ⟨by (with_reducible repeat (first | apply Kd.R_alloc | apply Kd.R_drewN | apply Kd.R_drew)); exact HO338.out⟩, ⟨by repeat (first | (with_reducible first | exact HB.out | apply q9 | apply q3 | apply q5) | exact HB.out)⟩⟩
              · rw [if_neg c8] at H; exact absurd H (by simp)
            · rw [if_neg c7] at H; exact absurd H (by simp)
          · rw [if_neg c6] at H; exact absurd H (by simp)
        · rw [if_neg c5] at H; exact absurd H (by simp)
      · rw [if_neg c4] at H; have c4b0 : decide (x4_1 < (a0.size : Int)) = false := decide_eq_false c4; clear c4; obtain rfl := Option.some.inj H
        go_wp2
        go_ret; exact ⟨_, by first | rfl | (simp [errW_none, errW_some] <;> rfl) | (simp [*, errW_none, errW_some] <;> rfl), by (with_reducible repeat (first | apply Kd.R_alloc | apply Kd.R_drewN | apply Kd.R_drew)); exact HO_3.out, by repeat (first | (with_reducible first | exact HB.out | apply q9 | apply q3 | apply q5) | exact HB.out)⟩
end Go.Proofs.Ytdbjjaodkapikaa.TE
