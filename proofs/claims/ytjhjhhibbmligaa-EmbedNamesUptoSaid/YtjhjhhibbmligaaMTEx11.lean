/- Part of the walk: lemmas and printed functions that the claim uses (wip/tools/trim.py). -/
import Derived.Test.YtjhjhhibbmligaaMTEx0
import Derived.Test.YtjhjhhibbmligaaMTEx2
import Derived.Test.YtjhjhhibbmligaaMTEx1
import Derived.Test.YtjhjhhibbmligaaMTEx3
section
namespace Go.Proofs.Ytjhjhhibbmligaa.TE
open Go.RowKit Go.Proofs.YtjhjhhibbmligaaW.PrintWords Go.Proofs.YtjhjhhibbmligaaW.PrintLast Go.Proofs.YtjhjhhibbmligaaW.PrintMore
attribute [local go_sem] max2_int min2_int max_two min_two max_three min_three max_four min_four
set_option linter.unusedVariables false
set_option linter.unusedSimpArgs false
def IsS142 (w0 W : World) (g : Nat) (f0 : ByteArray) (f1 : Int) (f2 : Int) (f3 : List (S42)) (f4 : List (S203)) : Prop := ∃ A3 c3, ∃ A4 c4, W.heap[g]? = some (.cells #[.string f0, .int .i64 f1, .int .i64 f2, .slice A3 f3.length c3, .slice A4 f4.length c4] 142 (0, 0)) ∧ w0.heap.size ≤ g ∧ Kd.C k42 w0 A3 f3.length f3 ∧ Kd.C k203 w0 A4 f4.length f4
theorem IsS142.grown {w0 W : World} {g : Nat} {f0 : ByteArray} {f1 : Int} {f2 : Int} {f3 : List (S42)} {f4 : List (S203)} {W1 : World} {row : Option Nat} (h : IsS142 w0 W g f0 f1 f2 f3 f4) (hw : W.grownBy W1 row) (hne : some g ≠ row) : IsS142 w0 W1 g f0 f1 f2 f3 f4 := by
  obtain ⟨A3, c3, A4, c4, hb, hg, hr3, hr4⟩ := h; exact ⟨A3, c3, A4, c4, blk_grown hb hw hne, hg, hr3, hr4⟩
theorem IsS142.kept {w0 W : World} {g : Nat} {f0 : ByteArray} {f1 : Int} {f2 : Int} {f3 : List (S42)} {f4 : List (S203)} {W1 : World} {S : Nat → Prop} (h : IsS142 w0 W g f0 f1 f2 f3 f4) (hk : Kept W W1 S) (hne : ¬ S g) : IsS142 w0 W1 g f0 f1 f2 f3 f4 := by
  obtain ⟨A3, c3, A4, c4, hb, hg, hr3, hr4⟩ := h; exact ⟨A3, c3, A4, c4, blk_kept hb hk hne, hg, hr3, hr4⟩
theorem IsS142.below {w0 W : World} {g : Nat} {f0 : ByteArray} {f1 : Int} {f2 : Int} {f3 : List (S42)} {f4 : List (S203)} {W1 : World} (h : IsS142 w0 W g f0 f1 f2 f3 f4) (hw : Below W.heap.size W W1) : IsS142 w0 W1 g f0 f1 f2 f3 f4 := h.grown (grown_of_below hw none) (by simp)
theorem IsS142.alloc {w0 W : World} {g : Nat} {f0 : ByteArray} {f1 : Int} {f2 : Int} {f3 : List (S42)} {f4 : List (S203)} (h : IsS142 w0 W g f0 f1 f2 f3 f4) (o : Obj) : IsS142 w0 (W.alloc o) g f0 f1 f2 f3 f4 := h.below (q9 (Below.refl _ _) o)
theorem IsS142.drewN {w0 W : World} {g : Nat} {f0 : ByteArray} {f1 : Int} {f2 : Int} {f3 : List (S42)} {f4 : List (S203)} (h : IsS142 w0 W g f0 f1 f2 f3 f4) (m : Nat) : IsS142 w0 (W.drewN m) g f0 f1 f2 f3 f4 := h
theorem IsS142.drew {w0 W : World} {g : Nat} {f0 : ByteArray} {f1 : Int} {f2 : Int} {f3 : List (S42)} {f4 : List (S203)} (h : IsS142 w0 W g f0 f1 f2 f3 f4) : IsS142 w0 W.drew g f0 f1 f2 f3 f4 := h
theorem IsS142.at_ {w0 W : World} {g : Nat} {f0 : ByteArray} {f1 : Int} {f2 : Int} {f3 : List (S42)} {f4 : List (S203)} {w' : World} {m : Nat} (hq : W.drewN m = w') (h : IsS142 w0 W g f0 f1 f2 f3 f4) : IsS142 w0 w' g f0 f1 f2 f3 f4 := by subst hq; exact IsS142.drewN h m
theorem IsS142.apart {w0 W : World} {g : Nat} {f0 : ByteArray} {f1 : Int} {f2 : Int} {f3 : List (S42)} {f4 : List (S203)} {α : Type} {d : Kd α} {e : Nat} {base : Nat} {ok : Nat → Prop} {v : Value} {xs : List α} (h : IsS142 w0 W g f0 f1 f2 f3 f4) (ho : d.R e W base ok v xs) (ht : ∀ q, q ∈ e :: d.E → q ≠ 142) : d.R e W base (fun k => ok k ∧ k ≠ g) v xs := by
  obtain ⟨A3, c3, A4, c4, hb, hg, hr3, hr4⟩ := h; exact Kd.R_types ho hb ht
theorem IsS142.own_ne {w0 W : World} {g : Nat} {f0 : ByteArray} {f1 : Int} {f2 : Int} {f3 : List (S42)} {f4 : List (S203)} {α : Type} {d : Kd α} {e : Nat} {base : Nat} {ok : Nat → Prop} {v : Value} {xs : List α} (h : IsS142 w0 W g f0 f1 f2 f3 f4) (ho : d.R e W base ok v xs) (ht : e ≠ 142) : some g ≠ v.ownBlock := by
  obtain ⟨A3, c3, A4, c4, hb, hg, hr3, hr4⟩ := h; exact Kd.R_ne ho hb ht
theorem IsS142.lt {w0 W : World} {g : Nat} {f0 : ByteArray} {f1 : Int} {f2 : Int} {f3 : List (S42)} {f4 : List (S203)} (h : IsS142 w0 W g f0 f1 f2 f3 f4) : g < W.heap.size := by
  obtain ⟨A3, c3, A4, c4, hb, hg, hr3, hr4⟩ := h; exact blk_lt hb
theorem IsS142.far {w0 W : World} {g : Nat} {f0 : ByteArray} {f1 : Int} {f2 : Int} {f3 : List (S42)} {f4 : List (S203)} {p : Addr} (h : IsS142 w0 W g f0 f1 f2 f3 f4) (hne : g ≠ p.block) (u : Value) : IsS142 w0 (W.setCell p u) g f0 f1 f2 f3 f4 := by
  obtain ⟨A3, c3, A4, c4, hb, hg, hr3, hr4⟩ := h; exact ⟨A3, c3, A4, c4, blk_far hb hne u, hg, hr3, hr4⟩
def term_Chars.l0 : Nat → ByteArray → List (S42) → Int → Int → Option ((List (S42)))
  | 0, _, _, _, _ => none
  | k + 1, x0, x3, x6, x7 => if x7 < x6 then (if 0 ≤ x7 then (if x7 ≤ (wrap64 (x7 + 1)) then (if (wrap64 (x7 + 1)) ≤ (x0.size : Int) then (if x3.length < 2932031007402 then (term_Chars.l0 k x0 (x3 ++ [(⟨1, x0.extract (x7 : Int).toNat ((wrap64 (x7 + 1)) : Int).toNat, ([] : List (S42))⟩ : S42)]) x6 (wrap64 (x7 + 1))) else (none)) else (none)) else (none)) else (none)) else (some x3)
def term_Chars.f (k : Nat) (a0 : ByteArray) : Option ((List (S42))) := term_Chars.l0 k a0 ([] : List (S42)) (a0.size : Int) 0
set_option maxHeartbeats 8000000 in
set_option maxRecDepth 100000 in
theorem term_Chars.calls (k : Nat) (a0 : ByteArray) (r : List (S42)) (w : World) (h : term_Chars.f k a0 = some r) :
    Calls Try.prog 68 #[.string a0] w fun e w' => ∃ v0_ : Value, e = .returned (v0_) ∧ Kd.R k42 42 w' w.heap.size (fun _ => True) v0_ r ∧ Below w.heap.size w w' := by
  have hu42 := Try.underlying42; have HB := Aside0.mk (Below.refl w.heap.size w); have H : (term_Chars.l0 k a0 ([] : List (S42)) (a0.size : Int) 0) = some r := h; clear h; have H' := Aside0.mk H; clear H
  go_enter Try.func68, Try.ntmps68
  go_wp2
  go_loopg [3, 7] k (fun kq v3 v7 w' => ∃ (x3_1 : List (S42)) (x7_1 : Int), v7 = .int .i64 x7_1 ∧ Aside0 (term_Chars.l0 kq a0 x3_1 (a0.size : Int) x7_1 = some r) ∧ Aside0 (kq ≤ k) ∧ Aside0 (Kd.R k42 42 w' w.heap.size (fun _ => True) v3 x3_1) ∧ Aside0 (Below w.heap.size w w'))
  case atStart => exact ⟨(([] : List (S42))), (0), (by first | rfl | (simp; done) | (simp [*]; done)), H', ⟨Nat.le_refl _⟩, ⟨by first | exact Kd.R_nil _ _ _ _ _ | exact Kd.N_nil _ _ _ _ _ | exact Kd.V_nil _ _ _ _ _ | exact Kd.Q_nil _ _ _ _ _ | exact Kd.S_nil _ _ _ _ _⟩, ⟨by repeat (first | (with_reducible first | exact HB.out | apply q9 | apply q5 | apply q10) | exact HB.out)⟩⟩
  case round =>
    clear H'; obtain ⟨x3_1, x7_1, rfl, HA, HK1, HO_3, HB⟩ := hrel
    cases gk with
    | zero => exact absurd HA.out (by simp [term_Chars.l0])
    | succ k1 =>
      have H := HA.out; clear HA; simp only [term_Chars.l0] at H
      by_cases c2 : x7_1 < (a0.size : Int)
      · rw [if_pos c2] at H; have c2b0 : decide (x7_1 < (a0.size : Int)) = true := decide_eq_true c2; clear c2
        by_cases c3 : 0 ≤ x7_1
        · rw [if_pos c3] at H; have c3b0 := eq_true c3; have c3b1 : decide (0 ≤ x7_1) = true := decide_eq_true c3; clear c3
          by_cases c4 : x7_1 ≤ (wrap64 (x7_1 + 1))
          · rw [if_pos c4] at H; have c4b0 := eq_true c4; have c4b1 : decide (x7_1 ≤ (wrap64 (x7_1 + 1))) = true := decide_eq_true c4
            by_cases c5 : (wrap64 (x7_1 + 1)) ≤ (a0.size : Int)
            · rw [if_pos c5] at H; have c5b0 := eq_true c5; have c5b1 : decide ((wrap64 (x7_1 + 1)) ≤ (a0.size : Int)) = true := decide_eq_true c5
              by_cases c6 : x3_1.length < 2932031007402
              · rw [if_pos c6] at H; have LMc6 := Aside0.mk c6; clear c6; obtain ⟨y129, hy129⟩ : ∃ y_ : List (S42), y_ = (x3_1 ++ [(⟨1, a0.extract (x7_1 : Int).toNat ((wrap64 (x7_1 + 1)) : Int).toNat, ([] : List (S42))⟩ : S42)]) := ⟨_, rfl⟩
                replace H : (term_Chars.l0 k1 a0 y129 (a0.size : Int) (wrap64 (x7_1 + 1))) = some r := by first | (rw [hy129]; with_reducible exact H) | (have H2_ := (Option.bind_some _ _).symm.trans H; rw [hy129]; with_reducible exact H2_) | (have H2_ := (Option.bind_some _ _).symm.trans H; with_reducible exact H2_) | with_reducible exact H | (rw [hy129]; exact H) | exact H
                have Ny129 := Aside0.mk hy129; clear hy129; have H' := Aside0.mk H; clear H
                go_wp2_with (first | ((with_reducible refine gate_builtin (b := .append) (xs := #[.tmp 10, .tmp 17]) rfl ?_); at_builtin; refine Kd.R_append k42 (w0 := w) w.heap.size rfl (.tmp 10) (.tmp 17) 22 42 (.agg #[(.int .i64 0), (.string ⟨#[]⟩), (.slice none 0 0)]) 48 rfl Try.underlying22 info42 rfl (by decide) (by omega) u3 x3_1 (⟨1, a0.extract (x7_1 : Int).toNat ((wrap64 (x7_1 + 1)) : Int).toNat, ([] : List (S42))⟩ : S42) [.int .i64 1, .string (a0.extract (x7_1 : Int).toNat ((wrap64 (x7_1 + 1)) : Int).toNat), .slice none 0 0] (fun _ => True) (fun k_ => ((fun _ => True)) k_ ∧ some k_ ≠ (u3 : Value).ownBlock) rfl rfl ?aP (fun _ hk => hk) ?aF ?aO ?aB ?aS ?aL ?_; (case aP => exact k42_mkM _ _ _ (⟨1, a0.extract (x7_1 : Int).toNat ((wrap64 (x7_1 + 1)) : Int).toNat, ([] : List (S42))⟩ : S42) (Kd.R_nil _ _ _ _ _)); (case aB => exact (by repeat (first | (with_reducible first | exact HB.out | apply q9 | apply q5 | apply q10) | exact HB.out))); (case aF => exact (fun _ _ => trivial)); (case aO => exact (by (with_reducible repeat (first | apply Kd.R_alloc | apply Kd.R_drewN | apply Kd.R_drew)); exact HO_3.out)); (case aS => exact (q14 (by repeat (first | (with_reducible first | exact HB.out | apply q9 | apply q5 | apply q10) | exact HB.out)))); (case aL => have := LMc6.out; omega); intro v130 w7 ho hb hg hat; rw [← Ny129.out] at ho; have n0_ := Aside0.mk (hb); have n1_ := Aside0.mk (ho); clear HB; clear HO_3; have HB := n0_; have HO131 := n1_; clear n0_ n1_; clear ho hb hg hat))
                go_roundg k1
                case measure => have := HK1.out; omega
                case rel => exact ⟨(y129), (wrap64 (x7_1 + 1)), (by first | rfl | (simp; done) | (simp [*]; done)), H', ⟨by have := HK1.out; omega⟩, ⟨by (with_reducible repeat (first | apply Kd.R_alloc | apply Kd.R_drewN | apply Kd.R_drew)); exact HO131.out⟩, ⟨by repeat (first | (with_reducible first | exact HB.out | apply q9 | apply q5 | apply q10) | exact HB.out)⟩⟩
              · rw [if_neg c6] at H; exact absurd H (by simp)
            · rw [if_neg c5] at H; exact absurd H (by simp)
          · rw [if_neg c4] at H; exact absurd H (by simp)
        · rw [if_neg c3] at H; exact absurd H (by simp)
      · rw [if_neg c2] at H; have c2b0 : decide (x7_1 < (a0.size : Int)) = false := decide_eq_false c2; clear c2; obtain rfl := Option.some.inj H
        go_wp2
        go_ret; exact ⟨_, by first | rfl | (simp [errW_none, errW_some] <;> rfl) | (simp [*, errW_none, errW_some] <;> rfl), by (with_reducible repeat (first | apply Kd.R_alloc | apply Kd.R_drewN | apply Kd.R_drew)); exact HO_3.out, by repeat (first | (with_reducible first | exact HB.out | apply q9 | apply q5 | apply q10) | exact HB.out)⟩
mutual
def term_hexadecimal.j0 : Nat → Int → Bool → Option (Int)
  | 0, _, _ => none
  | k + 1, x0, x3 => if x3 = true then (some ((x0 - 48) % 256)) else (if x0 ≥ 97 then (term_hexadecimal.j1 k x0 (decide (x0 ≤ 102))) else (term_hexadecimal.j1 k x0 false))
def term_hexadecimal.j1 : Nat → Int → Bool → Option (Int)
  | 0, _, _ => none
  | k + 1, x0, x13 => if x13 = true then (some (((x0 - 97) % 256) + 10)) else (if x0 ≥ 65 then (if x0 ≤ 70 then (some (((x0 - 65) % 256) + 10)) else (some (-1))) else (some (-1)))
end
def term_hexadecimal.f (k : Nat) (a0 : Int) : Option (Int) := if a0 ≥ 48 then (term_hexadecimal.j0 k a0 (decide (a0 ≤ 57))) else (term_hexadecimal.j0 k a0 false)
set_option maxHeartbeats 8000000 in
set_option maxRecDepth 100000 in
theorem term_hexadecimal.calls (k : Nat) (a0 : Int) (r : Int) (w : World) (h : term_hexadecimal.f k a0 = some r) :
    Calls Try.prog 187 #[.int .u8 a0] w fun e w' => e = .returned (.int .i64 r) ∧ Drawn0 w w' := by
  have H : (if a0 ≥ 48 then (term_hexadecimal.j0 k a0 (decide (a0 ≤ 57))) else (term_hexadecimal.j0 k a0 false)) = some r := h; clear h; have HC2 := Aside0.mk H; clear H
  go_enter Try.func187, Try.ntmps187
  go_upto_region 1 with (fail)
  go_cut [3] (fun v3 wc => ∃ (kq : Nat) (x3_1 : Bool), v3 = .bool x3_1 ∧ Aside0 (term_hexadecimal.j0 kq a0 x3_1 = some r) ∧ Aside0 (kq ≤ k) ∧ Drawn0 w wc)
  case first =>
    have H := HC2.out; clear HC2
    by_cases c3 : a0 ≥ 48
    · rw [if_pos c3] at H; have c3b0 : decide (48 ≤ a0) = true := decide_eq_true c3; clear c3
      (first | rw [c3b0] | (simp only [i64_w, i32_w]; rw [c3b0]) | skip)
      have H' := Aside0.mk H; clear H
      go_wp2
      go_meet
      case rel => exact ⟨_, (decide (a0 ≤ 57)), (by first | rfl | (simp; done) | (simp [*]; done)), H', ⟨by first | omega | exact Nat.le_refl _⟩, by repeat (first | exact Drawn0.refl _ | apply Drawn0.step)⟩
    · rw [if_neg c3] at H; have c3b0 : decide (48 ≤ a0) = false := decide_eq_false c3; clear c3
      (first | rw [c3b0] | (simp only [i64_w, i32_w]; rw [c3b0]) | skip)
      have H' := Aside0.mk H; clear H
      go_wp2
      go_meet
      case rel => exact ⟨_, (false), (by first | rfl | (simp; done) | (simp [*]; done)), H', ⟨by first | omega | exact Nat.le_refl _⟩, by repeat (first | exact Drawn0.refl _ | apply Drawn0.step)⟩
  case rest =>
    clear HC2
    try clear c1
    try clear p2
    try clear c3
    try clear c3b0
    obtain ⟨kq, x3_1, rfl, HA, HJ1, ⟨mc1, rfl⟩⟩ := hcut
    cases kq with
    | zero => exact absurd HA.out (by simp [term_hexadecimal.j0])
    | succ kj1 =>
      have H := HA.out; clear HA; simp only [term_hexadecimal.j0] at H
      by_cases c4 : x3_1 = true
      · subst c4
        have H1 : (some ((a0 - 48) % 256)) = some r := by rw [if_pos rfl] at H; exact H
        clear H; have H := H1; clear H1; obtain rfl := Option.some.inj H
        go_wp2
        go_ret; exact ⟨by first | rfl | (simp; done) | (simp [*]; done), by repeat (first | exact Drawn0.refl _ | apply Drawn0.step)⟩
      · replace c4 := Bool.eq_false_iff.mpr c4; subst c4
        have H1 : (if a0 ≥ 97 then (term_hexadecimal.j1 kj1 a0 (decide (a0 ≤ 102))) else (term_hexadecimal.j1 kj1 a0 false)) = some r := by rw [if_neg (show ¬ (false = true) by decide)] at H; exact H
        clear H; have H := H1; clear H1; have HC5 := Aside0.mk H; clear H
        go_upto_region 3 with (fail)
        go_cut [13] (fun v13 wc => ∃ (kq : Nat) (x13_4 : Bool), v13 = .bool x13_4 ∧ Aside0 (term_hexadecimal.j1 kq a0 x13_4 = some r) ∧ Aside0 (kq ≤ kj1) ∧ Drawn0 w wc)
        case first =>
          have H := HC5.out; clear HC5
          by_cases c6 : a0 ≥ 97
          · rw [if_pos c6] at H; have c6b0 : decide (97 ≤ a0) = true := decide_eq_true c6; clear c6
            (first | rw [c6b0] | (simp only [i64_w, i32_w]; rw [c6b0]) | skip)
            have H' := Aside0.mk H; clear H
            go_wp2
            go_meet
            case rel => exact ⟨_, (decide (a0 ≤ 102)), (by first | rfl | (simp; done) | (simp [*]; done)), H', ⟨by have := HJ1.out; first | omega | exact Nat.le_refl _⟩, by repeat (first | exact Drawn0.refl _ | apply Drawn0.step)⟩
          · rw [if_neg c6] at H; have c6b0 : decide (97 ≤ a0) = false := decide_eq_false c6; clear c6
            (first | rw [c6b0] | (simp only [i64_w, i32_w]; rw [c6b0]) | skip)
            have H' := Aside0.mk H; clear H
            go_wp2
            go_meet
            case rel => exact ⟨_, (false), (by first | rfl | (simp; done) | (simp [*]; done)), H', ⟨by have := HJ1.out; first | omega | exact Nat.le_refl _⟩, by repeat (first | exact Drawn0.refl _ | apply Drawn0.step)⟩
        case rest =>
          clear HC5
          try clear c1
          try clear p2
          try clear c3
          try clear c3b0
          try clear c4
          try clear c6
          try clear c6b0
          try clear p2
          obtain ⟨kq, x13_4, rfl, HA, HJ4, ⟨mc4, rfl⟩⟩ := hcut
          cases kq with
          | zero => exact absurd HA.out (by simp [term_hexadecimal.j1])
          | succ kj4 =>
            have H := HA.out; clear HA; simp only [term_hexadecimal.j1] at H
            by_cases c7 : x13_4 = true
            · subst c7
              have H1 : (some (((a0 - 97) % 256) + 10)) = some r := by rw [if_pos rfl] at H; exact H
              clear H; have H := H1; clear H1; obtain rfl := Option.some.inj H
              go_wp2
              go_ret; exact ⟨by first | rfl | (simp; done) | (simp [*]; done), by repeat (first | exact Drawn0.refl _ | apply Drawn0.step)⟩
            · replace c7 := Bool.eq_false_iff.mpr c7; subst c7
              have H1 : (if a0 ≥ 65 then (if a0 ≤ 70 then (some (((a0 - 65) % 256) + 10)) else (some (-1))) else (some (-1))) = some r := by rw [if_neg (show ¬ (false = true) by decide)] at H; exact H
              clear H; have H := H1; clear H1
              by_cases c8 : a0 ≥ 65
              · rw [if_pos c8] at H; have c8b0 : decide (65 ≤ a0) = true := decide_eq_true c8; clear c8
                by_cases c9 : a0 ≤ 70
                · rw [if_pos c9] at H; have c9b0 : decide (a0 ≤ 70) = true := decide_eq_true c9; clear c9; obtain rfl := Option.some.inj H
                  go_wp2
                  go_ret; exact ⟨by first | rfl | (simp; done) | (simp [*]; done), by repeat (first | exact Drawn0.refl _ | apply Drawn0.step)⟩
                · rw [if_neg c9] at H; have c9b0 : decide (a0 ≤ 70) = false := decide_eq_false c9; clear c9; obtain rfl := Option.some.inj H
                  go_wp2
                  go_ret; exact ⟨by first | rfl | (simp; done) | (simp [*]; done), by repeat (first | exact Drawn0.refl _ | apply Drawn0.step)⟩
              · rw [if_neg c8] at H; have c8b0 : decide (65 ≤ a0) = false := decide_eq_false c8; clear c8; obtain rfl := Option.some.inj H
                go_wp2
                go_ret; exact ⟨by first | rfl | (simp; done) | (simp [*]; done), by repeat (first | exact Drawn0.refl _ | apply Drawn0.step)⟩
end Go.Proofs.Ytjhjhhibbmligaa.TE
end
section
namespace Go.Proofs.Ytjhjhhibbmligaa.TE
open Go.RowKit Go.Proofs.YtjhjhhibbmligaaW.PrintWords Go.Proofs.YtjhjhhibbmligaaW.PrintLast Go.Proofs.YtjhjhhibbmligaaW.PrintMore
attribute [local go_sem] max2_int min2_int max_two min_two max_three min_three max_four min_four
set_option linter.unusedVariables false
set_option linter.unusedSimpArgs false
end Go.Proofs.Ytjhjhhibbmligaa.TE
end
section
namespace Go.Proofs.Ytjhjhhibbmligaa.TE
open Go.RowKit Go.Proofs.YtjhjhhibbmligaaW.PrintWords Go.Proofs.YtjhjhhibbmligaaW.PrintLast Go.Proofs.YtjhjhhibbmligaaW.PrintMore
attribute [local go_sem] max2_int min2_int max_two min_two max_three min_three max_four min_four
set_option linter.unusedVariables false
set_option linter.unusedSimpArgs false
end Go.Proofs.Ytjhjhhibbmligaa.TE
end
section
namespace Go.Proofs.Ytjhjhhibbmligaa.TE
open Go.RowKit Go.Proofs.YtjhjhhibbmligaaW.PrintWords Go.Proofs.YtjhjhhibbmligaaW.PrintLast Go.Proofs.YtjhjhhibbmligaaW.PrintMore
attribute [local go_sem] max2_int min2_int max_two min_two max_three min_three max_four min_four
set_option linter.unusedVariables false
set_option linter.unusedSimpArgs false
section
attribute [local go_sem] Oper.semAt_some
def term_Size.f (k : Nat) (l0 : List S42) : Option (Int × Int) := (term_depth.f k l0).map fun d => (wrap64 ((flat l0).length : Int), d)
set_option maxHeartbeats 4000000 in
theorem term_Size_1.calls (n : Nat) (B : Nat) (v : Int) (w : World) (hc : w.cell? ⟨B, 0, none⟩ = some (.int .i64 v)) (hf : w.frozen? ⟨B, 0, none⟩ = false) :
    CallsIn Fence.wide n Try.prog 107 #[.pointer (some ⟨B, 0, none⟩)] w fun e w' => e = .returned (.tuple #[]) ∧ w' = w.setCell ⟨B, 0, none⟩ (.int .i64 (wrap64 (v + 1))) := by
  refine callsIn_of_wp Try.func107 rfl trivial ?_ rfl; simp only [Try.ntmps107, List.size_toArray, List.length_cons, List.length_nil, Nat.reduceAdd, Nat.reduceSub, Array.replicate_succ, Array.replicate_zero, List.push_toArray, List.append_toArray, List.nil_append, List.cons_append]
  gi_wp2
  go_end0
  exact ⟨rfl, rfl⟩
set_option maxRecDepth 100000 in
set_option maxHeartbeats 4000000 in
theorem term_Size.calls (k : Nat) (A0 : Option Addr) (c0 : Nat) (l0 : List (S42)) (r1 : Int) (r2 : Int) (w : World) (hr0 : Kd.C k42 w A0 l0.length l0) (hc0 : l0.length ≤ c0) (h : term_Size.f k l0 = some (r1, r2)) :
    Calls Try.prog 35 #[.slice A0 l0.length c0] w fun e w' => e = .returned (.tuple #[.int .i64 r1, .int .i64 r2]) ∧ Below w.heap.size w w' := by
  obtain ⟨d, hd, he⟩ := Option.map_eq_some_iff.1 h; simp only [Prod.mk.injEq] at he; obtain ⟨rfl, rfl⟩ := he; have HD := Aside0.mk hd; clear hd h; refine calls_of_wp_marks Try.func35 rfl ?_; simp only [Try.ntmps35, List.size_toArray, List.length_cons, List.length_nil, Nat.reduceAdd, Nat.reduceSub, Array.replicate_succ, Array.replicate_zero, List.push_toArray, List.append_toArray, List.nil_append, List.cons_append]
  go_wp2_with (go_at_call 108; refine (callsIn_wide.1 (all_in 0 A0 l0.length c0 _)).mono ?_; rintro e w' ⟨rfl, rfl⟩)
  obtain ⟨Wl, hWl⟩ : ∃ Wl, ((w.alloc (.cells #[.int .i64 0] 3)).alloc (.cells #[.func (.func 107) #[] #[.pointer (some ⟨w.heap.size, 0, none⟩)]] 1)).alloc (.cells #[.slice A0 l0.length c0] 22) = Wl := ⟨_, rfl⟩
  have hbl : Below w.heap.size w Wl := by rw [← hWl]; exact (((Below.refl _ w).alloc (Nat.le_refl _) _).alloc (by simp) _).alloc (by simp; omega) _
  have hszl : Wl.heap.size = w.heap.size + 3 := by rw [← hWl]; simp
  have hn0 : Wl.heap[w.heap.size]? = some (.cells #[.int .i64 0] 3 (0, 0)) := by
    rw [← hWl]; exact (Below.heap_alloc _ _ _ (by simp; omega)).trans ((Below.heap_alloc _ _ _ (by simp)).trans (World.alloc_heap_new w _))
  have hc1 : Wl.heap[w.heap.size + 1]? = some (.cells #[.func (.func 107) #[] #[.pointer (some ⟨w.heap.size, 0, none⟩)]] 1 (0, 0)) := by
    rw [← hWl]; have := World.alloc_heap_new (w.alloc (.cells #[.int .i64 0] 3)) (.cells #[.func (.func 107) #[] #[.pointer (some ⟨w.heap.size, 0, none⟩)]] 1); rw [World.size_alloc] at this; exact (Below.heap_alloc _ _ _ (by simp)).trans this
  have hl2 : Wl.heap[w.heap.size + 2]? = some (.cells #[.slice A0 l0.length c0] 22 (0, 0)) := by
    rw [← hWl]; have := World.alloc_heap_new ((w.alloc (.cells #[.int .i64 0] 3)).alloc (.cells #[.func (.func 107) #[] #[.pointer (some ⟨w.heap.size, 0, none⟩)]] 1)) (.cells #[.slice A0 l0.length c0] 22); rw [World.size_alloc, World.size_alloc] at this; exact this
  rw [hWl]
  have hdd : ∀ k lp : Nat, ((Fence.wide.inRound lp).depth.isSome = true → 1 ≤ k) := fun k lp h => by simp [Fence.wide] at h
  refine range_all w hbl (w.heap.size + 2) A0 c0 l0 hr0 hc0 ((q4 hl2 0).trans rfl) rfl
    (fun pre W => (Below w.heap.size w W ∧ W.heap[w.heap.size]? = some (.cells #[.int .i64 (wrap64 (pre.length : Int))] 3 (0, 0))) ∧ W.heap[w.heap.size + 1]? = some (.cells #[.func (.func 107) #[] #[.pointer (some ⟨w.heap.size, 0, none⟩)]] 1 (0, 0)))
    (fun _ _ _ => False)
    (OwnFrom.and (OwnFrom.and (ownFrom_below (Nat.le_refl _) hbl.size) (ownFrom_blk _ _ _ _)) (ownFrom_blk _ _ _ _)) (fun _ _ _ _ _ hs _ _ => hs)
    ⟨⟨hbl, by rw [hn0]; simp [wrap64]⟩, hc1⟩
    (fun x => { tmps := #[.slice A0 l0.length c0, undef, .pointer (some ⟨w.heap.size, 0, none⟩), .int .i64 0, .pointer (some ⟨w.heap.size + 1, 0, none⟩), .func (.func 107) #[] #[.pointer (some ⟨w.heap.size, 0, none⟩)], .slice A0 l0.length c0, .func (.func 145) #[] #[.pointer (some ⟨w.heap.size + 2, 0, none⟩)], .agg #[.int .i64 x.x.f0, .string x.x.f1, .slice x.A x.x.f2.length x.c], undef, undef, undef, undef, undef], defers := [] }) ?assign ?body ?done ?stop
  case assign =>
    intro lp x W K hK
    gi_wp2
    exact hK
  case body =>
    rintro lp pre x W ⟨⟨hb, hn⟩, hc⟩ hlen; have hcn : W.cell? ⟨w.heap.size, 0, none⟩ = some (.int .i64 (wrap64 (pre.length : Int))) := (q4 hn 0).trans rfl; have hfn := q11 hn 0; have hcc : W.cell? ⟨w.heap.size + 1, 0, none⟩ = some (.func (.func 107) #[] #[.pointer (some ⟨w.heap.size, 0, none⟩)]) := (q4 hc 0).trans rfl; have HN := Aside0.mk hn; have HC := Aside0.mk hc; clear hn hc hn0 hc1 hl2 hWl
    gi_wp2_with (fail)
    refine ⟨trivial, (CallsIn.inRound lp (term_Size_1.calls _ _ _ W hcn hfn)).mono ?_⟩; rintro e w' ⟨rfl, rfl⟩; clear hcn hcc hfn
    gi_wp2
    refine ⟨KeepsOthers.setCell _ _ _, KeepC.setCell _ _ _ _ (Nat.le_refl _) (by omega), ⟨hb.setCell (p := ⟨w.heap.size, 0, none⟩) (Nat.le_refl _) _, ?_⟩, (Below.heap_setCell W ⟨w.heap.size, 0, none⟩ _ (w.heap.size + 1) (by simp)).trans HC.out⟩; have hs := setCell_blk (u := .int .i64 (wrap64 (wrap64 (pre.length : Int) + 1))) HN.out; rw [hs]; simp only [List.length_append, List.length_cons, List.length_nil]
    congr 5
    unfold wrap64
    omega
  case done =>
    rintro D ys W hD hys ⟨⟨hb, hn⟩, hc⟩ hk
    have hlen : ys.length = (flat l0).length := by have := congrArg List.length hys; simpa using this
    rw [hlen] at hn; have hCd : Kd.C k42 W.drew A0 l0.length l0 := Kd.C_below hr0 (below_drew hb); clear hc hn0 hc1 hl2 hWl hys hlen
    go_wp2_with (fail)
    refine start_ (n := 5) (S := fun w' => w'.cell? ⟨w.heap.size, 0, none⟩ = some (.int .i64 (wrap64 ((flat l0).length : Int))) ∧ w'.frozen? ⟨w.heap.size, 0, none⟩ = false) (ds := [3]) #[false, false, false, false, false] (by kernel_rfl) rfl rfl ⟨(q4 hn 0).trans rfl, q11 hn 0⟩ (fun hHeld => ?_); refine pure_ (i := 1) (N := some 12) (v := ?_) (a' := ?_) #[false, true, false, false, false] rfl rfl (by kernel_rfl) (fun _ _ _ h => h) (Or.inl ⟨by rfl, ?_⟩) ?_ ?_; rotate_left
    · intro w'; go_simp; with_reducible rfl
    rotate_left
    · simp only [Act.put, List.setIfInBounds_toArray, List.set_cons_zero, List.set_cons_succ, i64_w, i32_w]; rfl
    refine take_ (i := 0) (N := some 11) (v := ?_) (a' := ?_) #[true, true, false, false, false] rfl rfl (by kernel_rfl) (fun _ _ _ h => h) (Or.inl ⟨by rfl, ?_⟩) hHeld ?_ ?_; rotate_left
    · rintro w' ⟨s0, s1⟩; go_simp; with_reducible rfl
    rotate_left
    · simp only [Act.put, List.setIfInBounds_toArray, List.set_cons_zero, List.set_cons_succ, i64_w, i32_w]; rfl
    refine one_ (i := 2) (N := some 13) #[true, true, true, false, false] rfl rfl (by kernel_rfl) (by decide) (fun K hK => ?_); refine goes_ Try.func109 (by kernel_rfl) rfl #[.slice A0 l0.length c0] (by rfl) rfl rfl (by simp only [List.map_toArray, List.map_cons, List.map_nil]; rfl) ?_; with_reducible refine (term_depth.calls k A0 c0 l0 d _ hCd hc0 HD.out).mono ?_
    rintro e w3 ⟨rfl, hb3⟩; refine ⟨_, rfl, ?_⟩; have hn3 := q13 (w := W.drew) (g := w.heap.size) (o := .cells #[.int .i64 (wrap64 ((flat l0).length : Int))] 3 (0, 0)) hn hb3; refine hK.out _ _ ⟨(q4 hn3 0).trans rfl, q11 hn3 0⟩ (fun hHeld => ?_); clear hK K; refine norm_ (a' := ?_) ?_ ?_; rotate_left
    · show Act.put _ (some 13) _ = _; simp only [Act.put, List.setIfInBounds_toArray, List.set_cons_zero, List.set_cons_succ, i64_w, i32_w]; rfl
    refine last_ (i := 3) (N := none) #[true, true, true, true, false] rfl rfl (by kernel_rfl) (by decide) (fun K hK => ?_); refine skip_ (w1 := ?_) (by rfl) rfl ?_ ?_; rotate_left
    · go_simp; rfl
    refine hK.out _ _ ?_; clear hK K; refine pure_ (i := 4) (N := some 3) (v := ?_) (a' := ?_) #[true, true, true, true, true] rfl rfl (by kernel_rfl) (fun _ _ _ h => h) (Or.inl ⟨by rfl, ?_⟩) ?_ ?_; rotate_left
    · intro w'; go_simp; with_reducible rfl
    rotate_left
    · simp only [Act.put, List.setIfInBounds_toArray, List.set_cons_zero, List.set_cons_succ, i64_w, i32_w]; rfl
    refine done_ (by kernel_rfl) ?_
    go_wp2_with (fail)
    have hk3 : w3.heap[D]? = some (.deferred (some [])) := (hb3.block D (Array.getElem?_eq_some_iff.1 hk).1).trans hk; have hs3 := setCell_blk (u := .int .i64 (wrap64 ((flat l0).length : Int))) hn3
    have hne : w.heap.size ≠ D := by omega
    have hk4 : (w3.setCell ⟨w.heap.size, 0, none⟩ (.int .i64 (wrap64 ((flat l0).length : Int)))).heap[D]? = some (.deferred (some [])) := (Below.heap_setCell w3 ⟨w.heap.size, 0, none⟩ _ D (by simp; omega)).trans hk3; have hb4 : Below w.heap.size w ((w3.setCell ⟨w.heap.size, 0, none⟩ (.int .i64 (wrap64 ((flat l0).length : Int)))).putObj D (.deferred none)) :=
      (((below_drew hb).trans (hb3.mono (below_drew hb).size)).setCell (p := ⟨w.heap.size, 0, none⟩) (Nat.le_refl _) _).grown (grownBy_putObj' _ D _) (by have := (Array.getElem?_eq_some_iff.1 hk4).1; omega) (fun k e => by cases e; omega)
    have hc5 : ((w3.setCell ⟨w.heap.size, 0, none⟩ (.int .i64 (wrap64 ((flat l0).length : Int)))).putObj D (.deferred none)).cell? ⟨w.heap.size, 0, none⟩ = some (.int .i64 (wrap64 ((flat l0).length : Int))) :=
      (q4 ((World.putObj_heap_other hne).trans hs3) 0).trans rfl
    refine ⟨by simp, .inl ⟨_, _, rfl, run_takeDeferred hk4, ?_⟩⟩; refine ⟨.tuple #[.int .i64 (wrap64 ((flat l0).length : Int)), .int .i64 d], ?_, rfl, hb4⟩; simp [results, Try.results35, go_sem, hc5]
  case stop =>
    rintro D c pre W _ _ h _; exact h.elim
end
def term_IsVariable.f (a0_0 : Int) (a0_1 : ByteArray) (l0_2 : List (S42)) : Option (Bool) := if a0_0 ≥ 5 then (some (decide (a0_0 ≤ 7))) else (some false)
set_option maxHeartbeats 8000000 in
set_option maxRecDepth 100000 in
theorem term_IsVariable.calls (a0_0 : Int) (a0_1 : ByteArray) (A0_2 : Option Addr) (c0_2 : Nat) (l0_2 : List (S42)) (r : Bool) (w : World) (hr0_2 : Kd.C k42 w A0_2 l0_2.length l0_2) (hc0_2 : l0_2.length ≤ c0_2) (h : term_IsVariable.f a0_0 a0_1 l0_2 = some r) :
    Calls Try.prog 57 #[.agg #[.int .i64 a0_0, .string a0_1, .slice A0_2 l0_2.length c0_2]] w fun e w' => e = .returned (.bool r) ∧ Below w.heap.size w w' := by
  have hu42 := Try.underlying42; have HR0_2 := Aside0.mk hr0_2; have HC0_2 := Aside0.mk hc0_2; clear hr0_2 hc0_2; have HB := Aside0.mk (Below.refl w.heap.size w); have H : (if a0_0 ≥ 5 then (some (decide (a0_0 ≤ 7))) else (some false)) = some r := h; clear h
  by_cases c2 : a0_0 ≥ 5
  · rw [if_pos c2] at H; have c2b0 : decide (5 ≤ a0_0) = true := decide_eq_true c2; clear c2; obtain rfl := Option.some.inj H
    go_enter Try.func57, Try.ntmps57
    go_wp2_with (first | ((with_reducible refine q20 (N := 1) rfl ?_); refine q16 ?hg (N := 1) ?hd (cs := #[.int .i64 a0_0, .string a0_1, .slice A0_2 l0_2.length c0_2]) (t := 42) ?hr ?_; (case hd => rfl); (case hg => rfl); (case hr => first | (go_simp; done) | (go_simp; rfl)); intro gb344 hg w3 hbox hb; have n0_ := Aside0.mk (q12 (by repeat (first | (with_reducible first | exact HB.out | apply q9 | apply q5 | apply q10) | exact HB.out)) hb); have n1_ := Aside0.mk (hbox); have n2_ := Aside0.mk ((by rw [hg]; exact (q14 (by repeat (first | (with_reducible first | exact HB.out | apply q9 | apply q5 | apply q10) | exact HB.out))) : w.heap.size ≤ gb344)); have n3_ := Aside0.mk ((by rw [hg]; exact (q14 (by repeat (first | (with_reducible first | exact HB.out | apply q9 | apply q5 | apply q10) | exact HB.out))) : w.heap.size ≤ gb344)); clear HB; have HB := n0_; have BK344 := n1_; have GW344 := n2_; have GE344 := n3_; clear n0_ n1_ n2_ n3_; clear hb hbox hg; have hcz4_0 : w3.cell? ⟨gb344, 0, none⟩ = some (.int .i64 a0_0) := (q4 BK344.out 0).trans rfl; have hcz4_1 : w3.cell? ⟨gb344, 1, none⟩ = some (.string a0_1) := (q4 BK344.out 1).trans rfl; have hcz4_2 : w3.cell? ⟨gb344, 2, none⟩ = some (.slice A0_2 l0_2.length c0_2) := (q4 BK344.out 2).trans rfl; have hfz4_0 := q11 BK344.out 0; have hfz4_1 := q11 BK344.out 1; have hfz4_2 := q11 BK344.out 2))
    go_ret; exact ⟨by first | rfl | (simp [errW_none, errW_some] <;> rfl) | (simp [*, errW_none, errW_some] <;> rfl), by repeat (first | (with_reducible first | exact HB.out | apply q9 | apply q5 | apply q10 | refine q15 ?_ GE344.out) | exact HB.out)⟩
  · rw [if_neg c2] at H; have c2b0 : decide (5 ≤ a0_0) = false := decide_eq_false c2; clear c2; obtain rfl := Option.some.inj H
    go_enter Try.func57, Try.ntmps57
    go_wp2_with (first | ((with_reducible refine q20 (N := 1) rfl ?_); refine q16 ?hg (N := 1) ?hd (cs := #[.int .i64 a0_0, .string a0_1, .slice A0_2 l0_2.length c0_2]) (t := 42) ?hr ?_; (case hd => rfl); (case hg => rfl); (case hr => first | (go_simp; done) | (go_simp; rfl)); intro gb344 hg w5 hbox hb; have n0_ := Aside0.mk (q12 (by repeat (first | (with_reducible first | exact HB.out | apply q9 | apply q5 | apply q10) | exact HB.out)) hb); have n1_ := Aside0.mk (hbox); have n2_ := Aside0.mk ((by rw [hg]; exact (q14 (by repeat (first | (with_reducible first | exact HB.out | apply q9 | apply q5 | apply q10) | exact HB.out))) : w.heap.size ≤ gb344)); have n3_ := Aside0.mk ((by rw [hg]; exact (q14 (by repeat (first | (with_reducible first | exact HB.out | apply q9 | apply q5 | apply q10) | exact HB.out))) : w.heap.size ≤ gb344)); clear HB; have HB := n0_; have BK344 := n1_; have GW344 := n2_; have GE344 := n3_; clear n0_ n1_ n2_ n3_; clear hb hbox hg; have hcz6_0 : w5.cell? ⟨gb344, 0, none⟩ = some (.int .i64 a0_0) := (q4 BK344.out 0).trans rfl; have hcz6_1 : w5.cell? ⟨gb344, 1, none⟩ = some (.string a0_1) := (q4 BK344.out 1).trans rfl; have hcz6_2 : w5.cell? ⟨gb344, 2, none⟩ = some (.slice A0_2 l0_2.length c0_2) := (q4 BK344.out 2).trans rfl; have hfz6_0 := q11 BK344.out 0; have hfz6_1 := q11 BK344.out 1; have hfz6_2 := q11 BK344.out 2))
    go_ret; exact ⟨by first | rfl | (simp [errW_none, errW_some] <;> rfl) | (simp [*, errW_none, errW_some] <;> rfl), by repeat (first | (with_reducible first | exact HB.out | apply q9 | apply q5 | apply q10 | refine q15 ?_ GE344.out) | exact HB.out)⟩
end Go.Proofs.Ytjhjhhibbmligaa.TE
end
section
namespace Go.Proofs.Ytjhjhhibbmligaa.TE
open Go.RowKit Go.Proofs.YtjhjhhibbmligaaW.PrintWords Go.Proofs.YtjhjhhibbmligaaW.PrintLast Go.Proofs.YtjhjhhibbmligaaW.PrintMore
attribute [local go_sem] max2_int min2_int max_two min_two max_three min_three max_four min_four
set_option linter.unusedVariables false
set_option linter.unusedSimpArgs false
end Go.Proofs.Ytjhjhhibbmligaa.TE
end
section
namespace Go.Proofs.Ytjhjhhibbmligaa.TE
open Go.RowKit Go.Proofs.YtjhjhhibbmligaaW.PrintWords Go.Proofs.YtjhjhhibbmligaaW.PrintLast Go.Proofs.YtjhjhhibbmligaaW.PrintMore
attribute [local go_sem] max2_int min2_int max_two min_two max_three min_three max_four min_four
set_option linter.unusedVariables false
set_option linter.unusedSimpArgs false
end Go.Proofs.Ytjhjhhibbmligaa.TE
end
section
namespace Go.Proofs.Ytjhjhhibbmligaa.TE
open Go.RowKit Go.Proofs.YtjhjhhibbmligaaW.PrintWords Go.Proofs.YtjhjhhibbmligaaW.PrintLast Go.Proofs.YtjhjhhibbmligaaW.PrintMore
attribute [local go_sem] max2_int min2_int max_two min_two max_three min_three max_four min_four
set_option linter.unusedVariables false
set_option linter.unusedSimpArgs false
end Go.Proofs.Ytjhjhhibbmligaa.TE
end
