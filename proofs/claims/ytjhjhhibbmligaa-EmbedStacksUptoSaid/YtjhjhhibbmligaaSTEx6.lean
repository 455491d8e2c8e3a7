/- Part of the walk: lemmas and printed functions that the claim uses (wip/tools/trim.py). -/
import Derived.Test.YtjhjhhibbmligaaSTEx0
import Derived.Test.YtjhjhhibbmligaaSTEx2
section
namespace Go.Proofs.Ytjhjhhibbmligaa.TE
open Go.RowKit Go.Proofs.YtjhjhhibbmligaaW.PrintWords Go.Proofs.YtjhjhhibbmligaaW.PrintLast Go.Proofs.YtjhjhhibbmligaaW.PrintMore
attribute [local go_sem] max2_int min2_int max_two min_two max_three min_three max_four min_four
set_option linter.unusedVariables false
set_option linter.unusedSimpArgs false
def IsS142 (w0 W : World) (g : Nat) (f0 : ByteArray) (f1 : Int) (f2 : Int) (f3 : List (S42)) (f4 : List (S203)) : Prop := ∃ A3 c3, ∃ A4 c4, W.heap[g]? = some (.cells #[.string f0, .int .i64 f1, .int .i64 f2, .slice A3 f3.length c3, .slice A4 f4.length c4] 142 (0, 0)) ∧ w0.heap.size ≤ g ∧ Kd.C k42 w0 A3 f3.length f3 ∧ Kd.C k203 w0 A4 f4.length f4
theorem IsS142.grown {w0 W : World} {g : Nat} {f0 : ByteArray} {f1 : Int} {f2 : Int} {f3 : List (S42)} {f4 : List (S203)} {W1 : World} {row : Option Nat} (h : IsS142 w0 W g f0 f1 f2 f3 f4) (hw : W.grownBy W1 row) (hne : some g ≠ row) : IsS142 w0 W1 g f0 f1 f2 f3 f4 := by
  obtain ⟨A3, c3, A4, c4, hb, hg, hr3, hr4⟩ := h; exact ⟨A3, c3, A4, c4, blk_grown hb hw hne, hg, hr3, hr4⟩
theorem IsS142.kept {w0 W : World} {g : Nat} {f0 : ByteArray} {f1 : Int} {f2 : Int} {f3 : List (S42)} {f4 : List (S203)} {W1 : World} {S : Nat → Prop} (h : IsS142 w0 W g f0 f1 f2 f3 f4) (hk : Kept W W1 S) (hne : ¬ S g) : IsS142 w0 W1 g f0 f1 f2 f3 f4 := by
  obtain ⟨A3, c3, A4, c4, hb, hg, hr3, hr4⟩ := h; exact ⟨A3, c3, A4, c4, blk_kept hb hk hne, hg, hr3, hr4⟩
theorem IsS142.below {w0 W : World} {g : Nat} {f0 : ByteArray} {f1 : Int} {f2 : Int} {f3 : List (S42)} {f4 : List (S203)} {W1 : World} (h : IsS142 w0 W g f0 f1 f2 f3 f4) (hw : Below W.heap.size W W1) : IsS142 w0 W1 g f0 f1 f2 f3 f4 := h.grown (grown_of_below hw none) (by simp)
theorem IsS142.alloc {w0 W : World} {g : Nat} {f0 : ByteArray} {f1 : Int} {f2 : Int} {f3 : List (S42)} {f4 : List (S203)} (h : IsS142 w0 W g f0 f1 f2 f3 f4) (o : Obj) : IsS142 w0 (W.alloc o) g f0 f1 f2 f3 f4 := h.below (q9 (Below.refl _ _) o)
theorem IsS142.drewN {w0 W : World} {g : Nat} {f0 : ByteArray} {f1 : Int} {f2 : Int} {f3 : List (S42)} {f4 : List (S203)} (h : IsS142 w0 W g f0 f1 f2 f3 f4) (m : Nat) : IsS142 w0 (W.drewN m) g f0 f1 f2 f3 f4 := h
theorem IsS142.drew {w0 W : World} {g : Nat} {f0 : ByteArray} {f1 : Int} {f2 : Int} {f3 : List (S42)} {f4 : List (S203)} (h : IsS142 w0 W g f0 f1 f2 f3 f4) : IsS142 w0 W.drew g f0 f1 f2 f3 f4 := h
theorem IsS142.at_ {w0 W : World} {g : Nat} {f0 : ByteArray} {f1 : Int} {f2 : Int} {f3 : List (S42)} {f4 : List (S203)} {w' : World} {m : Nat} (hq : W.drewN m = w') (h : IsS142 w0 W g f0 f1 f2 f3 f4) : IsS142 w0 w' g f0 f1 f2 f3 f4 := by subst hq; exact IsS142.drewN h m
theorem IsS142.apart {w0 W : World} {g : Nat} {f0 : ByteArray} {f1 : Int} {f2 : Int} {f3 : List (S42)} {f4 : List (S203)} {α : Type} {d : Kd α} {e : Nat} {base : Nat} {ok : Nat → Prop} {v : Value} {xs : List α} (h : IsS142 w0 W g f0 f1 f2 f3 f4) (ho : d.R e W base ok v xs) (ht : ∀ q, q ∈ e :: d.E → q ≠ 142) : d.R e W base (fun k => ok k ∧ k ≠ g) v xs := by
  obtain ⟨A3, c3, A4, c4, hb, hg, hr3, hr4⟩ := h; exact Kd.R_types ho hb ht
theorem IsS142.own_ne {w0 W : World} {g : Nat} {f0 : ByteArray} {f1 : Int} {f2 : Int} {f3 : List (S42)} {f4 : List (S203)} {α : Type} {d : Kd α} {e : Nat} {base : Nat} {ok : Nat → Prop} {v : Value} {xs : List α} (h : IsS142 w0 W g f0 f1 f2 f3 f4) (ho : d.R e W base ok v xs) (ht : e ≠ 142) : some g ≠ v.ownBlock := by
  obtain ⟨A3, c3, A4, c4, hb, hg, hr3, hr4⟩ := h; exact Kd.R_ne ho hb ht
theorem IsS142.own_neS {w0 W : World} {g : Nat} {f0 : ByteArray} {f1 : Int} {f2 : Int} {f3 : List (S42)} {f4 : List (S203)} {α : Type} {d : Kd α} {e : Nat} {base : Nat} {ok : Nat → Prop} {v : Value} {xs : List α} (h : IsS142 w0 W g f0 f1 f2 f3 f4) (ho : d.S e W base ok v xs) (ht : e ≠ 142) : some g ≠ v.ownBlock := by
  obtain ⟨A3, c3, A4, c4, hb, hg, hr3, hr4⟩ := h; exact Kd.S_ne ho hb ht
theorem IsS142.lt {w0 W : World} {g : Nat} {f0 : ByteArray} {f1 : Int} {f2 : Int} {f3 : List (S42)} {f4 : List (S203)} (h : IsS142 w0 W g f0 f1 f2 f3 f4) : g < W.heap.size := by
  obtain ⟨A3, c3, A4, c4, hb, hg, hr3, hr4⟩ := h; exact blk_lt hb
theorem IsS142.far {w0 W : World} {g : Nat} {f0 : ByteArray} {f1 : Int} {f2 : Int} {f3 : List (S42)} {f4 : List (S203)} {p : Addr} (h : IsS142 w0 W g f0 f1 f2 f3 f4) (hne : g ≠ p.block) (u : Value) : IsS142 w0 (W.setCell p u) g f0 f1 f2 f3 f4 := by
  obtain ⟨A3, c3, A4, c4, hb, hg, hr3, hr4⟩ := h; exact ⟨A3, c3, A4, c4, blk_far hb hne u, hg, hr3, hr4⟩
def term_Chars.l0 : Nat → ByteArray → List (S42) → Int → Int → Option ((List (S42)))
  | 0, _, _, _, _ => none
  | k + 1, x0, x3, x6, x7 => if x7 < x6 then (if 0 ≤ x7 then (if x7 ≤ (wrap64 (x7 + 1)) then (if (wrap64 (x7 + 1)) ≤ (x0.size : Int) then (if x3.length < 2932031007402 then (term_Chars.l0 k x0 (x3 ++ [(⟨1, x0.extract (x7 : Int).toNat ((wrap64 (x7 + 1)) : Int).toNat, ([] : List (S42))⟩ : S42)]) x6 (wrap64 (x7 + 1))) else (none)) else (none)) else (none)) else (none)) else (some x3)
def term_Chars.f (k : Nat) (a0 : ByteArray) : Option ((List (S42))) := term_Chars.l0 k a0 ([] : List (S42)) (a0.size : Int) 0
set_option maxHeartbeats 8000000 in
set_option maxRecDepth 100000 in
theorem term_Chars.calls (k : Nat) (a0 : ByteArray) (r : List (S42)) (w : World) (h : term_Chars.f k a0 = some r) :
    Calls Try.prog 68 #[.string a0] w fun e w' => ∃ v0_ : Value, e = .returned (v0_) ∧ Kd.R k42 42 w' w.heap.size (fun _ => True) v0_ r ∧ Below w.heap.size w w' := by
  have hu42 := Try.underlying42; have HB := Aside0.mk (Below.refl w.heap.size w); have H : (term_Chars.l0 k a0 ([] : List (S42)) (a0.size : Int) 0) = some r := h; clear h; have H' := Aside0.mk H; clear H
  go_enter Try.func68, Try.ntmps68
  go_wp2
  go_loopg [3, 7] k (fun kq v3 v7 w' => ∃ (x3_1 : List (S42)) (x7_1 : Int), v7 = .int .i64 x7_1 ∧ Aside0 (term_Chars.l0 kq a0 x3_1 (a0.size : Int) x7_1 = some r) ∧ Aside0 (kq ≤ k) ∧ Aside0 (Kd.R k42 42 w' w.heap.size (fun _ => True) v3 x3_1) ∧ Aside0 (Below w.heap.size w w'))
  case atStart => exact ⟨(([] : List (S42))), (0), (by first | rfl | (simp; done) | (simp [*]; done)), H', ⟨Nat.le_refl _⟩, ⟨by first | exact Kd.R_nil _ _ _ _ _ | exact Kd.N_nil _ _ _ _ _ | exact Kd.V_nil _ _ _ _ _ | exact Kd.Q_nil _ _ _ _ _ | exact Kd.S_nil _ _ _ _ _⟩, ⟨by repeat (first | (with_reducible first | exact HB.out | apply q9 | apply q5 | apply q10) | exact HB.out)⟩⟩
  case round =>
    clear H'; obtain ⟨x3_1, x7_1, rfl, HA, HK1, HO_3, HB⟩ := hrel
    cases gk with
    | zero => exact absurd HA.out (by simp [term_Chars.l0])
    | succ k1 =>
      have H := HA.out; clear HA; simp only [term_Chars.l0] at H
      by_cases c2 : x7_1 < (a0.size : Int)
      · rw [if_pos c2] at H; have c2b0 : decide (x7_1 < (a0.size : Int)) = true := decide_eq_true c2; clear c2
        by_cases c3 : 0 ≤ x7_1
        · rw [if_pos c3] at H; have c3b0 := eq_true c3; have c3b1 : decide (0 ≤ x7_1) = true := decide_eq_true c3; clear c3
          by_cases c4 : x7_1 ≤ (wrap64 (x7_1 + 1))
          · rw [if_pos c4] at H; have c4b0 := eq_true c4; have c4b1 : decide (x7_1 ≤ (wrap64 (x7_1 + 1))) = true := decide_eq_true c4
            by_cases c5 : (wrap64 (x7_1 + 1)) ≤ (a0.size : Int)
            · rw [if_pos c5] at H; have c5b0 := eq_true c5; have c5b1 : decide ((wrap64 (x7_1 + 1)) ≤ (a0.size : Int)) = true := decide_eq_true c5
              by_cases c6 : x3_1.length < 2932031007402
              · rw [if_pos c6] at H; have LMc6 := Aside0.mk c6; clear c6; obtain ⟨y129, hy129⟩ : ∃ y_ : List (S42), y_ = (x3_1 ++ [(⟨1, a0.extract (x7_1 : Int).toNat ((wrap64 (x7_1 + 1)) : Int).toNat, ([] : List (S42))⟩ : S42)]) := ⟨_, rfl⟩
                replace H : (term_Chars.l0 k1 a0 y129 (a0.size : Int) (wrap64 (x7_1 + 1))) = some r := by first | (rw [hy129]; with_reducible exact H) | (have H2_ := (Option.bind_some _ _).symm.trans H; rw [hy129]; with_reducible exact H2_) | (have H2_ := (Option.bind_some _ _).symm.trans H; with_reducible exact H2_) | with_reducible exact H | (rw [hy129]; exact H) | exact H
                have Ny129 := Aside0.mk hy129; clear hy129; have H' := Aside0.mk H; clear H
                go_wp2_with (first | ((with_reducible refine gate_builtin (b := .append) (xs := #[.tmp 10, .tmp 17]) rfl ?_); at_builtin; refine Kd.R_append k42 (w0 := w) w.heap.size rfl (.tmp 10) (.tmp 17) 22 42 (.agg #[(.int .i64 0), (.string ⟨#[]⟩), (.slice none 0 0)]) 48 rfl Try.underlying22 info42 rfl (by decide) (by omega) u3 x3_1 (⟨1, a0.extract (x7_1 : Int).toNat ((wrap64 (x7_1 + 1)) : Int).toNat, ([] : List (S42))⟩ : S42) [.int .i64 1, .string (a0.extract (x7_1 : Int).toNat ((wrap64 (x7_1 + 1)) : Int).toNat), .slice none 0 0] (fun _ => True) (fun k_ => ((fun _ => True)) k_ ∧ some k_ ≠ (u3 : Value).ownBlock) rfl rfl ?aP (fun _ hk => hk) ?aF ?aO ?aB ?aS ?aL ?_; (case aP => exact k42_mkM _ _ _ (⟨1, a0.extract (x7_1 : Int).toNat ((wrap64 (x7_1 + 1)) : Int).toNat, ([] : List (S42))⟩ : S42) (Kd.R_nil _ _ _ _ _)); (case aB => exact (by repeat (first | (with_reducible first | exact HB.out | apply q9 | apply q5 | apply q10) | exact HB.out))); (case aF => exact (fun _ _ => trivial)); (case aO => exact (by (with_reducible repeat (first | apply Kd.R_alloc | apply Kd.R_drewN | apply Kd.R_drew)); exact HO_3.out)); (case aS => exact (q13 (by repeat (first | (with_reducible first | exact HB.out | apply q9 | apply q5 | apply q10) | exact HB.out)))); (case aL => have := LMc6.out; omega); intro v130 w7 ho hb hg hat; rw [← Ny129.out] at ho; have n0_ := Aside0.mk (hb); have n1_ := Aside0.mk (ho); clear HB; clear HO_3; have HB := n0_; have HO131 := n1_; clear n0_ n1_; clear ho hb hg hat))
                go_roundg k1
                case measure => have := HK1.out; omega
                case rel => exact ⟨(y129), (wrap64 (x7_1 + 1)), (by first | rfl | (simp; done) | (simp [*]; done)), H', ⟨by have := HK1.out; omega⟩, ⟨by (with_reducible repeat (first | apply Kd.R_alloc | apply Kd.R_drewN | apply Kd.R_drew)); exact HO131.out⟩, ⟨by repeat (first | (with_reducible first | exact HB.out | apply q9 | apply q5 | apply q10) | exact HB.out)⟩⟩
              · rw [if_neg c6] at H; exact absurd H (by simp)
            · rw [if_neg c5] at H; exact absurd H (by simp)
          · rw [if_neg c4] at H; exact absurd H (by simp)
        · rw [if_neg c3] at H; exact absurd H (by simp)
      · rw [if_neg c2] at H; have c2b0 : decide (x7_1 < (a0.size : Int)) = false := decide_eq_false c2; clear c2; obtain rfl := Option.some.inj H
        go_wp2
        go_ret; exact ⟨_, by first | rfl | (simp [errW_none, errW_some] <;> rfl) | (simp [*, errW_none, errW_some] <;> rfl), by (with_reducible repeat (first | apply Kd.R_alloc | apply Kd.R_drewN | apply Kd.R_drew)); exact HO_3.out, by repeat (first | (with_reducible first | exact HB.out | apply q9 | apply q5 | apply q10) | exact HB.out)⟩
mutual
def term_hexadecimal.j0 : Nat → Int → Bool → Option (Int)
  | 0, _, _ => none
  | k + 1, x0, x3 => if x3 = true then (some ((x0 - 48) % 256)) else (if x0 ≥ 97 then (term_hexadecimal.j1 k x0 (decide (x0 ≤ 102))) else (term_hexadecimal.j1 k x0 false))
def term_hexadecimal.j1 : Nat → Int → Bool → Option (Int)
  | 0, _, _ => none
  | k + 1, x0, x13 => if x13 = true then (some (((x0 - 97) % 256) + 10)) else (if x0 ≥ 65 then (if x0 ≤ 70 then (some (((x0 - 65) % 256) + 10)) else (some (-1))) else (some (-1)))
end
def term_hexadecimal.f (k : Nat) (a0 : Int) : Option (Int) := if a0 ≥ 48 then (term_hexadecimal.j0 k a0 (decide (a0 ≤ 57))) else (term_hexadecimal.j0 k a0 false)
set_option maxHeartbeats 8000000 in
set_option maxRecDepth 100000 in
theorem term_hexadecimal.calls (k : Nat) (a0 : Int) (r : Int) (w : World) (h : term_hexadecimal.f k a0 = some r) :
    Calls Try.prog 187 #[.int .u8 a0] w fun e w' => e = .returned (.int .i64 r) ∧ Drawn0 w w' := by
  have H : (if a0 ≥ 48 then (term_hexadecimal.j0 k a0 (decide (a0 ≤ 57))) else (term_hexadecimal.j0 k a0 false)) = some r := h; clear h; have HC2 := Aside0.mk H; clear H
  go_enter Try.func187, Try.ntmps187
  go_upto_region 1 with (fail)
  go_cut [3] (fun v3 wc => ∃ (kq : Nat) (x3_1 : Bool), v3 = .bool x3_1 ∧ Aside0 (term_hexadecimal.j0 kq a0 x3_1 = some r) ∧ Aside0 (kq ≤ k) ∧ Drawn0 w wc)
  case first =>
    have H := HC2.out; clear HC2
    by_cases c3 : a0 ≥ 48
    · rw [if_pos c3] at H; have c3b0 : decide (48 ≤ a0) = true := decide_eq_true c3; clear c3
      (first | rw [c3b0] | (simp only [i64_w, i32_w]; rw [c3b0]) | skip)
      have H' := Aside0.mk H; clear H
      go_wp2
      go_meet
      case rel => exact ⟨_, (decide (a0 ≤ 57)), (by first | rfl | (simp; done) | (simp [*]; done)), H', ⟨by first | omega | exact Nat.le_refl _⟩, by repeat (first | exact Drawn0.refl _ | apply Drawn0.step)⟩
    · rw [if_neg c3] at H; have c3b0 : decide (48 ≤ a0) = false := decide_eq_false c3; clear c3
      (first | rw [c3b0] | (simp only [i64_w, i32_w]; rw [c3b0]) | skip)
      have H' := Aside0.mk H; clear H
      go_wp2
      go_meet
      case rel => exact ⟨_, (false), (by first | rfl | (simp; done) | (simp [*]; done)), H', ⟨by first | omega | exact Nat.le_refl _⟩, by repeat (first | exact Drawn0.refl _ | apply Drawn0.step)⟩
  case rest =>
    clear HC2
    try clear c1
    try clear p2
    try clear c3
    try clear c3b0
    obtain ⟨kq, x3_1, rfl, HA, HJ1, ⟨mc1, rfl⟩⟩ := hcut
    cases kq with
    | zero => exact absurd HA.out (by simp [term_hexadecimal.j0])
    | succ kj1 =>
      have H := HA.out; clear HA; simp only [term_hexadecimal.j0] at H
      by_cases c4 : x3_1 = true
      · subst c4
        have H1 : (some ((a0 - 48) % 256)) = some r := by rw [if_pos rfl] at H; exact H
        clear H; have H := H1; clear H1; obtain rfl := Option.some.inj H
        go_wp2
        go_ret; exact ⟨by first | rfl | (simp; done) | (simp [*]; done), by repeat (first | exact Drawn0.refl _ | apply Drawn0.step)⟩
      · replace c4 := Bool.eq_false_iff.mpr c4; subst c4
        have H1 : (if a0 ≥ 97 then (term_hexadecimal.j1 kj1 a0 (decide (a0 ≤ 102))) else (term_hexadecimal.j1 kj1 a0 false)) = some r := by rw [if_neg (show ¬ (false = true) by decide)] at H; exact H
        clear H; have H := H1; clear H1; have HC5 := Aside0.mk H; clear H
        go_upto_region 3 with (fail)
        go_cut [13] (fun v13 wc => ∃ (kq : Nat) (x13_4 : Bool), v13 = .bool x13_4 ∧ Aside0 (term_hexadecimal.j1 kq a0 x13_4 = some r) ∧ Aside0 (kq ≤ kj1) ∧ Drawn0 w wc)
        case first =>
          have H := HC5.out; clear HC5
          by_cases c6 : a0 ≥ 97
          · rw [if_pos c6] at H; have c6b0 : decide (97 ≤ a0) = true := decide_eq_true c6; clear c6
            (first | rw [c6b0] | (simp only [i64_w, i32_w]; rw [c6b0]) | skip)
            have H' := Aside0.mk H; clear H
            go_wp2
            go_meet
            case rel => exact ⟨_, (decide (a0 ≤ 102)), (by first | rfl | (simp; done) | (simp [*]; done)), H', ⟨by have := HJ1.out; first | omega | exact Nat.le_refl _⟩, by repeat (first | exact Drawn0.refl _ | apply Drawn0.step)⟩
          · rw [if_neg c6] at H; have c6b0 : decide (97 ≤ a0) = false := decide_eq_false c6; clear c6
            (first | rw [c6b0] | (simp only [i64_w, i32_w]; rw [c6b0]) | skip)
            have H' := Aside0.mk H; clear H
            go_wp2
            go_meet
            case rel => exact ⟨_, (false), (by first | rfl | (simp; done) | (simp [*]; done)), H', ⟨by have := HJ1.out; first | omega | exact Nat.le_refl _⟩, by repeat (first | exact Drawn0.refl _ | apply Drawn0.step)⟩
        case rest =>
          clear HC5
          try clear c1
          try clear p2
          try clear c3
          try clear c3b0
          try clear c4
          try clear c6
          try clear c6b0
          try clear p2
          obtain ⟨kq, x13_4, rfl, HA, HJ4, ⟨mc4, rfl⟩⟩ := hcut
          cases kq with
          | zero => exact absurd HA.out (by simp [term_hexadecimal.j1])
          | succ kj4 =>
            have H := HA.out; clear HA; simp only [term_hexadecimal.j1] at H
            by_cases c7 : x13_4 = true
            · subst c7
              have H1 : (some (((a0 - 97) % 256) + 10)) = some r := by rw [if_pos rfl] at H; exact H
              clear H; have H := H1; clear H1; obtain rfl := Option.some.inj H
              go_wp2
              go_ret; exact ⟨by first | rfl | (simp; done) | (simp [*]; done), by repeat (first | exact Drawn0.refl _ | apply Drawn0.step)⟩
            · replace c7 := Bool.eq_false_iff.mpr c7; subst c7
              have H1 : (if a0 ≥ 65 then (if a0 ≤ 70 then (some (((a0 - 65) % 256) + 10)) else (some (-1))) else (some (-1))) = some r := by rw [if_neg (show ¬ (false = true) by decide)] at H; exact H
              clear H; have H := H1; clear H1
              by_cases c8 : a0 ≥ 65
              · rw [if_pos c8] at H; have c8b0 : decide (65 ≤ a0) = true := decide_eq_true c8; clear c8
                by_cases c9 : a0 ≤ 70
                · rw [if_pos c9] at H; have c9b0 : decide (a0 ≤ 70) = true := decide_eq_true c9; clear c9; obtain rfl := Option.some.inj H
                  go_wp2
                  go_ret; exact ⟨by first | rfl | (simp; done) | (simp [*]; done), by repeat (first | exact Drawn0.refl _ | apply Drawn0.step)⟩
                · rw [if_neg c9] at H; have c9b0 : decide (a0 ≤ 70) = false := decide_eq_false c9; clear c9; obtain rfl := Option.some.inj H
                  go_wp2
                  go_ret; exact ⟨by first | rfl | (simp; done) | (simp [*]; done), by repeat (first | exact Drawn0.refl _ | apply Drawn0.step)⟩
              · rw [if_neg c8] at H; have c8b0 : decide (65 ≤ a0) = false := decide_eq_false c8; clear c8; obtain rfl := Option.some.inj H
                go_wp2
                go_ret; exact ⟨by first | rfl | (simp; done) | (simp [*]; done), by repeat (first | exact Drawn0.refl _ | apply Drawn0.step)⟩
end Go.Proofs.Ytjhjhhibbmligaa.TE
end
section
namespace Go.Proofs.Ytjhjhhibbmligaa.TE
open Go.RowKit Go.Proofs.YtjhjhhibbmligaaW.PrintWords Go.Proofs.YtjhjhhibbmligaaW.PrintLast Go.Proofs.YtjhjhhibbmligaaW.PrintMore
attribute [local go_sem] max2_int min2_int max_two min_two max_three min_three max_four min_four
set_option linter.unusedVariables false
set_option linter.unusedSimpArgs false
mutual
def chiasmusref27_Prefix.l0 : Nat → List ByteArray → List ByteArray → Int → Option (Int × Bool)
  | 0, _, _, _ => none
  | k + 1, x0, x1, x6 => if x6 ≥ 0 then (chiasmusref27_Prefix.l1 k x0 x1 x6 (decide ((x1.length : Int) ≥ (x0.length : Int))) 0) else (some (0, false))
def chiasmusref27_Prefix.l1 : Nat → List ByteArray → List ByteArray → Int → Bool → Int → Option (Int × Bool)
  | 0, _, _, _, _, _ => none
  | k + 1, x0, x1, x6, x7, x8 => if x7 = true then (chiasmusref27_Prefix.j2 k x0 x1 x6 x7 x8 (decide (x8 < (x0.length : Int)))) else (chiasmusref27_Prefix.j2 k x0 x1 x6 x7 x8 false)
def chiasmusref27_Prefix.j2 : Nat → List ByteArray → List ByteArray → Int → Bool → Int → Bool → Option (Int × Bool)
  | 0, _, _, _, _, _, _ => none
  | k + 1, x0, x1, x6, x7, x8, x27 => if x27 = true then (if x8 < x6 then (if 0 ≤ x8 then (if x8 < (x0.length : Int) then (if x8 < (x1.length : Int) then (chiasmusref27_Prefix.l1 k x0 x1 x6 ((rdOf ByteArray.empty x0 x8).toList == (rdOf ByteArray.empty x1 x8).toList) (wrap64 (x8 + 1))) else (none)) else (none)) else (none)) else (if 0 ≤ x8 then (if x8 < (x0.length : Int) then (if 0 ≤ (wrap64 ((wrap64 ((x1.length : Int) - (x0.length : Int))) + x8)) then (if (wrap64 ((wrap64 ((x1.length : Int) - (x0.length : Int))) + x8)) < (x1.length : Int) then (chiasmusref27_Prefix.l1 k x0 x1 x6 ((rdOf ByteArray.empty x0 x8).toList == (rdOf ByteArray.empty x1 (wrap64 ((wrap64 ((x1.length : Int) - (x0.length : Int))) + x8))).toList) (wrap64 (x8 + 1))) else (none)) else (none)) else (none)) else (none))) else (if x7 = true then (some (x6, true)) else (chiasmusref27_Prefix.l0 k x0 x1 (wrap64 (x6 - 1))))
end
def chiasmusref27_Prefix.f (k : Nat) (l0 : List ByteArray) (l1 : List ByteArray) : Option (Int × Bool) := chiasmusref27_Prefix.l0 k l0 l1 (wrap64 ((l0.length : Int) - 1))
set_option maxHeartbeats 8000000 in
set_option maxRecDepth 100000 in
theorem chiasmusref27_Prefix.calls (k : Nat) (A0 : Option Addr) (c0 : Nat) (l0 : List ByteArray) (A1 : Option Addr) (c1 : Nat) (l1 : List ByteArray) (r1 : Int) (r2 : Bool) (w : World) (hr0 : Kd.C Kd.string w A0 l0.length l0) (hc0 : l0.length ≤ c0) (hr1 : Kd.C Kd.string w A1 l1.length l1) (hc1 : l1.length ≤ c1) (h : chiasmusref27_Prefix.f k l0 l1 = some (r1, r2)) :
    Calls Try.prog 18 #[.slice A0 l0.length c0, .slice A1 l1.length c1] w fun e w' => e = .returned (.tuple #[.int .i64 r1, .bool r2]) ∧ Drawn0 w w' := by
  have HR0 := Aside0.mk hr0; have HC0 := Aside0.mk hc0; clear hr0 hc0; have HR1 := Aside0.mk hr1; have HC1 := Aside0.mk hc1; clear hr1 hc1; have H : (chiasmusref27_Prefix.l0 k l0 l1 (wrap64 ((l0.length : Int) - 1))) = some (r1, r2) := h; clear h; have H' := Aside0.mk H; clear H
  go_enter Try.func18, Try.ntmps18
  go_wp2
  repeat (go_quiet (fail); try go_wp2)
  go_loopg [6] k (fun kq v6 w' => ∃ (x6_1 : Int), v6 = .int .i64 x6_1 ∧ Aside0 (chiasmusref27_Prefix.l0 kq l0 l1 x6_1 = some (r1, r2)) ∧ Aside0 (kq ≤ k) ∧ Drawn0 w w')
  case atStart => exact ⟨(wrap64 ((l0.length : Int) - 1)), (by first | rfl | (simp; done) | (simp [*]; done)), H', ⟨Nat.le_refl _⟩, by repeat (first | exact Drawn0.refl _ | apply Drawn0.step)⟩
  case round =>
    clear H'
    try clear c1
    try clear p2
    obtain ⟨x6_1, rfl, HA, HK1, ⟨m1, rfl⟩⟩ := hrel
    cases gk with
    | zero => exact absurd HA.out (by simp [chiasmusref27_Prefix.l0])
    | succ k1 =>
      have H := HA.out; clear HA; simp only [chiasmusref27_Prefix.l0] at H
      by_cases c3 : x6_1 ≥ 0
      · rw [if_pos c3] at H; have c3b0 : decide (0 ≤ x6_1) = true := decide_eq_true c3; clear c3; have H' := Aside0.mk H; clear H
        go_wp2
        repeat (go_quiet (fail); try go_wp2)
        go_loopg [7, 8] k1 (fun kq v7 v8 w' => ∃ (x7_2 : Bool) (x8_2 : Int), v7 = .bool x7_2 ∧ v8 = .int .i64 x8_2 ∧ Aside0 (chiasmusref27_Prefix.l1 kq l0 l1 x6_1 x7_2 x8_2 = some (r1, r2)) ∧ Aside0 (kq ≤ k1) ∧ Drawn0 w w')
        case atStart => exact ⟨(decide ((l1.length : Int) ≥ (l0.length : Int))), (0), (by first | rfl | (simp; done) | (simp [*]; done)), (by first | rfl | (simp; done) | (simp [*]; done)), H', ⟨Nat.le_refl _⟩, by repeat (first | exact Drawn0.refl _ | apply Drawn0.step)⟩
        case round =>
          clear H'
          try clear c1
          try clear p2
          try clear c3
          try clear c3b0
          try clear p2
          obtain ⟨x7_2, x8_2, rfl, rfl, HA, HK2, ⟨m2, rfl⟩⟩ := hrel
          cases gk with
          | zero => exact absurd HA.out (by simp [chiasmusref27_Prefix.l1])
          | succ k2 =>
            have H := HA.out; clear HA; simp only [chiasmusref27_Prefix.l1] at H; have HC4 := Aside0.mk H; clear H
            go_upto_region 6 with (fail)
            repeat (go_quiet (fail); go_upto_region 6 with (fail))
            go_cut [27] (fun v27 wc => ∃ (kq : Nat) (x27_3 : Bool), v27 = .bool x27_3 ∧ Aside0 (chiasmusref27_Prefix.j2 kq l0 l1 x6_1 x7_2 x8_2 x27_3 = some (r1, r2)) ∧ Aside0 (kq ≤ k2) ∧ Drawn0 w wc)
            case first =>
              have H := HC4.out; clear HC4
              by_cases c5 : x7_2 = true
              · subst c5
                have H1 : (chiasmusref27_Prefix.j2 k2 l0 l1 x6_1 true x8_2 (decide (x8_2 < (l0.length : Int)))) = some (r1, r2) := by rw [if_pos rfl] at H; exact H
                clear H; have H := H1; clear H1; have H' := Aside0.mk H; clear H
                go_wp2
                repeat (go_quiet (fail); try go_wp2)
                go_meet
                case rel => exact ⟨_, (decide (x8_2 < (l0.length : Int))), (by first | rfl | (simp; done) | (simp [*]; done)), H', ⟨by have := HK1.out; have := HK2.out; first | omega | exact Nat.le_refl _⟩, by repeat (first | exact Drawn0.refl _ | apply Drawn0.step)⟩
              · replace c5 := Bool.eq_false_iff.mpr c5; subst c5
                have H1 : (chiasmusref27_Prefix.j2 k2 l0 l1 x6_1 false x8_2 false) = some (r1, r2) := by rw [if_neg (show ¬ (false = true) by decide)] at H; exact H
                clear H; have H := H1; clear H1; have H' := Aside0.mk H; clear H
                go_wp2
                repeat (go_quiet (fail); try go_wp2)
                go_meet
                case rel => exact ⟨_, (false), (by first | rfl | (simp; done) | (simp [*]; done)), H', ⟨by have := HK1.out; have := HK2.out; first | omega | exact Nat.le_refl _⟩, by repeat (first | exact Drawn0.refl _ | apply Drawn0.step)⟩
            case rest =>
              clear HC4
              try clear c1
              try clear p2
              try clear c3
              try clear c3b0
              try clear c5
              try clear p2
              obtain ⟨kq, x27_3, rfl, HA, HJ3, ⟨mc3, rfl⟩⟩ := hcut
              cases kq with
              | zero => exact absurd HA.out (by simp [chiasmusref27_Prefix.j2])
              | succ kj3 =>
                have H := HA.out; clear HA; simp only [chiasmusref27_Prefix.j2] at H
                by_cases c6 : x27_3 = true
                · subst c6
                  have H1 : (if x8_2 < x6_1 then (if 0 ≤ x8_2 then (if x8_2 < (l0.length : Int) then (if x8_2 < (l1.length : Int) then (chiasmusref27_Prefix.l1 kj3 l0 l1 x6_1 ((rdOf ByteArray.empty l0 x8_2).toList == (rdOf ByteArray.empty l1 x8_2).toList) (wrap64 (x8_2 + 1))) else (none)) else (none)) else (none)) else (if 0 ≤ x8_2 then (if x8_2 < (l0.length : Int) then (if 0 ≤ (wrap64 ((wrap64 ((l1.length : Int) - (l0.length : Int))) + x8_2)) then (if (wrap64 ((wrap64 ((l1.length : Int) - (l0.length : Int))) + x8_2)) < (l1.length : Int) then (chiasmusref27_Prefix.l1 kj3 l0 l1 x6_1 ((rdOf ByteArray.empty l0 x8_2).toList == (rdOf ByteArray.empty l1 (wrap64 ((wrap64 ((l1.length : Int) - (l0.length : Int))) + x8_2))).toList) (wrap64 (x8_2 + 1))) else (none)) else (none)) else (none)) else (none))) = some (r1, r2) := by rw [if_pos rfl] at H; exact H
                  clear H; have H := H1; clear H1
                  by_cases c7 : x8_2 < x6_1
                  · rw [if_pos c7] at H; have c7b0 : decide (x8_2 < x6_1) = true := decide_eq_true c7; clear c7
                    by_cases c8 : 0 ≤ x8_2
                    · rw [if_pos c8] at H; have c8b0 : decide (0 ≤ x8_2) = true := decide_eq_true c8; clear c8
                      by_cases c9 : x8_2 < (l0.length : Int)
                      · rw [if_pos c9] at H; have c9b0 : decide (x8_2 < (l0.length : Int)) = true := decide_eq_true c9; clear c9
                        by_cases c10 : x8_2 < (l1.length : Int)
                        · rw [if_pos c10] at H; have c10b0 : decide (x8_2 < (l1.length : Int)) = true := decide_eq_true c10; clear c10; have H' := Aside0.mk H; clear H; have p212 : 0 ≤ (x8_2 : Int) := of_decide_eq_true (by first | (with_reducible assumption) | assumption); have q212 : x8_2 < (l0.length : Int) := of_decide_eq_true (by first | (with_reducible assumption) | assumption); obtain ⟨ad212, e212, hx212_0⟩ := Kd.at_string HR0.out x8_2 p212 q212; cases e212; replace p212 := eq_true p212; replace q212 := eq_true q212; have p213 : 0 ≤ (x8_2 : Int) := of_decide_eq_true (by first | (with_reducible assumption) | assumption); have q213 : x8_2 < (l1.length : Int) := of_decide_eq_true (by first | (with_reducible assumption) | assumption); obtain ⟨ad213, e213, hx213_0⟩ := Kd.at_string HR1.out x8_2 p213 q213; cases e213; replace p213 := eq_true p213; replace q213 := eq_true q213
                          go_wp2
                          repeat (go_quiet (fail); try go_wp2)
                          go_roundg kj3
                          case measure => have := HK1.out; have := HK2.out; have := HJ3.out; omega
                          case rel => exact ⟨(((rdOf ByteArray.empty l0 x8_2).toList == (rdOf ByteArray.empty l1 x8_2).toList)), (wrap64 (x8_2 + 1)), (by first | rfl | (simp; done) | (simp [*]; done)), (by first | rfl | (simp; done) | (simp [*]; done)), H', ⟨by have := HK1.out; have := HK2.out; have := HJ3.out; omega⟩, by repeat (first | exact Drawn0.refl _ | apply Drawn0.step)⟩
                        · rw [if_neg c10] at H; exact absurd H (by simp)
                      · rw [if_neg c9] at H; exact absurd H (by simp)
                    · rw [if_neg c8] at H; exact absurd H (by simp)
                  · rw [if_neg c7] at H; have c7b0 : decide (x8_2 < x6_1) = false := decide_eq_false c7; clear c7
                    by_cases c11 : 0 ≤ x8_2
                    · rw [if_pos c11] at H; have c11b0 : decide (0 ≤ x8_2) = true := decide_eq_true c11; clear c11
                      by_cases c12 : x8_2 < (l0.length : Int)
                      · rw [if_pos c12] at H; have c12b0 : decide (x8_2 < (l0.length : Int)) = true := decide_eq_true c12; clear c12; obtain ⟨ji13, hji13⟩ : ∃ j_ : Int, (wrap64 ((wrap64 ((l1.length : Int) - (l0.length : Int))) + x8_2)) = j_ := ⟨_, rfl⟩
                        replace H : (if 0 ≤ (ji13) then (if (ji13) < (l1.length : Int) then (chiasmusref27_Prefix.l1 kj3 l0 l1 x6_1 ((rdOf ByteArray.empty l0 x8_2).toList == (rdOf ByteArray.empty l1 (ji13)).toList) (wrap64 (x8_2 + 1))) else (none)) else (none)) = some (r1, r2) := by first | (rw [hji13] at H; exact H) | (simp only [hji13] at H ⊢; exact H)
                        have hji13w : (IntKind.i64.wrap ((wrap64 ((l1.length : Int) - (l0.length : Int))) + x8_2)) = ji13 := (i64_w _).trans hji13
                        by_cases c14 : 0 ≤ (ji13)
                        · rw [if_pos c14] at H; have c14b0 : decide (0 ≤ (ji13)) = true := decide_eq_true c14; clear c14
                          by_cases c15 : (ji13) < (l1.length : Int)
                          · rw [if_pos c15] at H; have c15b0 : decide ((ji13) < (l1.length : Int)) = true := decide_eq_true c15; clear c15; have H' := Aside0.mk H; clear H; have p214 : 0 ≤ (x8_2 : Int) := of_decide_eq_true (by first | (with_reducible assumption) | assumption); have q214 : x8_2 < (l0.length : Int) := of_decide_eq_true (by first | (with_reducible assumption) | assumption); obtain ⟨ad214, e214, hx214_0⟩ := Kd.at_string HR0.out x8_2 p214 q214; cases e214; replace p214 := eq_true p214; replace q214 := eq_true q214; have p215 : 0 ≤ ((ji13) : Int) := of_decide_eq_true (by first | (with_reducible assumption) | assumption); have q215 : (ji13) < (l1.length : Int) := of_decide_eq_true (by first | (with_reducible assumption) | assumption); obtain ⟨ad215, e215, hx215_0⟩ := Kd.at_string HR1.out (ji13) p215 q215; cases e215; replace p215 := eq_true p215; replace q215 := eq_true q215
                            go_wp2
                            repeat (go_quiet (fail); try go_wp2)
                            go_roundg kj3
                            case measure => have := HK1.out; have := HK2.out; have := HJ3.out; omega
                            case rel => exact ⟨(((rdOf ByteArray.empty l0 x8_2).toList == (rdOf ByteArray.empty l1 (ji13)).toList)), (wrap64 (x8_2 + 1)), (by first | rfl | (simp; done) | (simp only [← hji13] <;> (first | rfl | simp)) | (simp [*]; done)), (by first | rfl | (simp; done) | (simp [*]; done)), H', ⟨by have := HK1.out; have := HK2.out; have := HJ3.out; omega⟩, by repeat (first | exact Drawn0.refl _ | apply Drawn0.step)⟩
                          · rw [if_neg c15] at H; exact absurd H (by simp)
                        · rw [if_neg c14] at H; exact absurd H (by simp)
                      · rw [if_neg c12] at H; exact absurd H (by simp)
                    · rw [if_neg c11] at H; exact absurd H (by simp)
                · replace c6 := Bool.eq_false_iff.mpr c6; subst c6
                  have H1 : (if x7_2 = true then (some (x6_1, true)) else (chiasmusref27_Prefix.l0 kj3 l0 l1 (wrap64 (x6_1 - 1)))) = some (r1, r2) := by rw [if_neg (show ¬ (false = true) by decide)] at H; exact H
                  clear H; have H := H1; clear H1
                  by_cases c16 : x7_2 = true
                  · subst c16
                    have H1 : (some (x6_1, true)) = some (r1, r2) := by rw [if_pos rfl] at H; exact H
                    clear H; have H := H1; clear H1; simp only [Option.some.injEq, Prod.mk.injEq] at H; obtain ⟨rfl, rfl⟩ := H
                    go_wp2
                    repeat (go_quiet (fail); try go_wp2)
                    go_ret2
                    exact ⟨by first | rfl | (simp; done) | (simp [*]; done), by repeat (first | exact Drawn0.refl _ | apply Drawn0.step)⟩
                  · replace c16 := Bool.eq_false_iff.mpr c16; subst c16
                    have H1 : (chiasmusref27_Prefix.l0 kj3 l0 l1 (wrap64 (x6_1 - 1))) = some (r1, r2) := by rw [if_neg (show ¬ (false = true) by decide)] at H; exact H
                    clear H; have H := H1; clear H1; have H' := Aside0.mk H; clear H
                    go_wp2
                    repeat (go_quiet (fail); try go_wp2)
                    go_roundg kj3
                    case measure => have := HK1.out; have := HK2.out; have := HJ3.out; omega
                    case rel => exact ⟨(wrap64 (x6_1 - 1)), (by first | rfl | (simp; done) | (simp [*]; done)), H', ⟨by have := HK1.out; have := HK2.out; have := HJ3.out; omega⟩, by repeat (first | exact Drawn0.refl _ | apply Drawn0.step)⟩
      · rw [if_neg c3] at H; have c3b0 : decide (0 ≤ x6_1) = false := decide_eq_false c3; clear c3; simp only [Option.some.injEq, Prod.mk.injEq] at H; obtain ⟨rfl, rfl⟩ := H
        go_wp2
        repeat (go_quiet (fail); try go_wp2)
        go_ret2
        exact ⟨by first | rfl | (simp; done) | (simp [*]; done), by repeat (first | exact Drawn0.refl _ | apply Drawn0.step)⟩
mutual
def chiasmusref11_Active.l0 : Nat → List (S42) → Int → Option (List Int × Bool)
  | 0, _, _ => none
  | k + 1, x0, x4 => if x4 < (x0.length : Int) then (if 0 ≤ x4 then ((chiasmusref11_Active.f k ((rd_T42 x0 x4).f2)).bind fun bt217 => (if bt217.2 = true then ((some (([x4] : List Int) : List Int)).bind fun y221 => (if y221.length + bt217.1.length < 17592186044416 then (some ((y221 ++ bt217.1), true)) else (none))) else (if ((rd_T42 x0 x4).f0) = 8 then (some ((([x4] : List Int)), true)) else (chiasmusref11_Active.l0 k x0 (wrap64 (x4 + 1)))))) else (none)) else (some (([] : List Int), false))
def chiasmusref11_Active.f : Nat → List (S42) → Option (List Int × Bool)
  | 0, _ => none
  | k + 1, l0 => chiasmusref11_Active.l0 k l0 0
end
set_option maxHeartbeats 8000000 in
set_option maxRecDepth 100000 in
theorem chiasmusref11_Active.calls (k : Nat) : ∀ (A0 : Option Addr) (c0 : Nat) (l0 : List (S42)) (r1 : List Int) (r2 : Bool) (w : World) (hr0 : Kd.C k42 w A0 l0.length l0) (hc0 : l0.length ≤ c0) (h : chiasmusref11_Active.f k l0 = some (r1, r2)),
    Calls Try.prog 86 #[.slice A0 l0.length c0] w fun e w' => ∃ v0_ : Value, e = .returned (.tuple #[v0_, .bool r2]) ∧ Kd.R (Kd.int .i64) 3 w' w.heap.size (fun _ => True) v0_ r1 ∧ Below w.heap.size w w' := by
  induction k using Nat.strongRecOn with
  | _ k ih =>
  intro A0 c0 l0 r1 r2 w hr0 hc0 h
  cases k with
  | zero => exact absurd h (by simp [chiasmusref11_Active.f])
  | succ k =>
  simp only [chiasmusref11_Active.f] at h; have HR0 := Aside0.mk hr0; have HC0 := Aside0.mk hc0; clear hr0 hc0; have HB := Aside0.mk (Below.refl w.heap.size w); have H : (chiasmusref11_Active.l0 k l0 0) = some (r1, r2) := h; clear h; have H' := Aside0.mk H; clear H
  go_enter Try.func86, Try.ntmps86
  go_wp2
  go_loopg [4] k (fun kq v4 w' => ∃ (x4_1 : Int), v4 = .int .i64 x4_1 ∧ Aside0 (chiasmusref11_Active.l0 kq l0 x4_1 = some (r1, r2)) ∧ Aside0 (kq ≤ k) ∧ Aside0 (Below w.heap.size w w'))
  case atStart => exact ⟨(0), (by first | rfl | (simp; done) | (simp [*]; done)), H', ⟨Nat.le_refl _⟩, ⟨by repeat (first | (with_reducible first | exact HB.out | apply q9 | apply q5 | apply q10) | exact HB.out)⟩⟩
  case round =>
    clear H'; obtain ⟨x4_1, rfl, HA, HK1, HB⟩ := hrel
    cases gk with
    | zero => exact absurd HA.out (by simp [chiasmusref11_Active.l0])
    | succ k1 =>
      have H := HA.out; clear HA; simp only [chiasmusref11_Active.l0] at H
      by_cases c2 : x4_1 < (l0.length : Int)
      · rw [if_pos c2] at H; have c2b0 : decide (x4_1 < (l0.length : Int)) = true := decide_eq_true c2; clear c2
        by_cases c3 : 0 ≤ x4_1
        · rw [if_pos c3] at H; have c3b0 : decide (0 ≤ x4_1) = true := decide_eq_true c3; clear c3; replace H := Option.bind_eq_some_iff.mp H; obtain ⟨⟨t217, t218⟩, A40, H⟩ := H; replace H : (if t218 = true then ((some (([x4_1] : List Int) : List Int)).bind fun y221 => (if y221.length + t217.length < 17592186044416 then (some ((y221 ++ t217), true)) else (none))) else (if ((rd_T42 l0 x4_1).f0) = 8 then (some ((([x4_1] : List Int)), true)) else (chiasmusref11_Active.l0 k1 l0 (wrap64 (x4_1 + 1))))) = some (r1, r2) := H; have A4 := Aside0.mk A40; clear A40
          by_cases c5 : t218 = true
          · subst c5
            have H1 : ((some (([x4_1] : List Int) : List Int)).bind fun y221 => (if y221.length + t217.length < 17592186044416 then (some ((y221 ++ t217), true)) else (none))) = some (r1, r2) := by rw [if_pos rfl] at H; exact H
            clear H; have H := H1; clear H1; obtain ⟨y221, hy221⟩ : ∃ y_ : List Int, y_ = (([x4_1] : List Int)) := ⟨_, rfl⟩
            replace H : (if y221.length + t217.length < 17592186044416 then (some ((y221 ++ t217), true)) else (none)) = some (r1, r2) := by first | (rw [hy221]; with_reducible exact H) | (have H2_ := (Option.bind_some _ _).symm.trans H; rw [hy221]; with_reducible exact H2_) | (have H2_ := (Option.bind_some _ _).symm.trans H; with_reducible exact H2_) | with_reducible exact H | (rw [hy221]; exact H) | exact H
            have Ny221 := Aside0.mk hy221; clear hy221
            by_cases c6 : y221.length + t217.length < 17592186044416
            · rw [if_pos c6] at H; have LMc6 := Aside0.mk c6; clear c6; obtain ⟨y224, hy224⟩ : ∃ y_ : List Int, y_ = (y221 ++ t217) := ⟨_, rfl⟩
              replace H : (some (y224, true)) = some (r1, r2) := by first | (rw [hy224]; with_reducible exact H) | (have H2_ := (Option.bind_some _ _).symm.trans H; rw [hy224]; with_reducible exact H2_) | (have H2_ := (Option.bind_some _ _).symm.trans H; with_reducible exact H2_) | with_reducible exact H | (rw [hy224]; exact H) | exact H
              have Ny224 := Aside0.mk hy224; clear hy224; simp only [Option.some.injEq, Prod.mk.injEq] at H; obtain ⟨rfl, rfl⟩ := H; have p216 : 0 ≤ (x4_1 : Int) := of_decide_eq_true (by first | (with_reducible assumption) | assumption); have q216 : x4_1 < (l0.length : Int) := of_decide_eq_true (by first | (with_reducible assumption) | assumption); obtain ⟨ad216, A216_2, c216_2, e216, hx216_0, hx216_1, hx216_2, hl216_2, hi216_2⟩ := at_T42 HR0.out x4_1 p216 q216; cases e216; replace hx216_0 := (HB.out.cell (World.block_lt_of_cell? w _ hx216_0)).trans hx216_0; replace hx216_1 := (HB.out.cell (World.block_lt_of_cell? w _ hx216_1)).trans hx216_1; replace hx216_2 := (HB.out.cell (World.block_lt_of_cell? w _ hx216_2)).trans hx216_2; have HR216_2 := Aside0.mk hi216_2; have HC216_2 := Aside0.mk hl216_2; clear hi216_2 hl216_2; replace p216 := eq_true p216; replace q216 := eq_true q216
              go_wp2_with (first | ((with_reducible refine gate_callee (f := 86) rfl ?_); refine goesL_ (some 19) rfl rfl Try.func86 (by kernel_rfl) rfl #[.slice A216_2 ((rd_T42 l0 x4_1).f2).length c216_2] rfl (by (try simp only [List.map_toArray, List.map_cons, List.map_nil]); first | done | rfl | (simp only [List.length_drop, List.length_take]; rfl)) ?_; (with_reducible refine (ih k1 (by have := HK1.out; omega) _ _ ((rd_T42 l0 x4_1).f2) t217 true _ ?side1 ?side2 A4.out).mono ?_); (case side1 => repeat (first | exact (Kd.C_below HR216_2.out HB.out) | (with_reducible refine Kd.C_alloc ?_ _) | (with_reducible refine Kd.C_drewN ?_ _) | (with_reducible refine Kd.C_drew ?_))); (case side2 => exact HC216_2.out); rintro e w7 ⟨v219, rfl, ho0, hb⟩; refine ⟨_, rfl, ?_⟩; have n0_ := Aside0.mk (Kd.R_lower ho0 (q13 (by repeat (first | (with_reducible first | exact HB.out | apply q9 | apply q5 | apply q10) | exact HB.out)))); have n1_ := Aside0.mk (q12 (by repeat (first | (with_reducible first | exact HB.out | apply q9 | apply q5 | apply q10) | exact HB.out)) hb); clear HB; have HO220 := n0_; have HB := n1_; clear n0_ n1_; (try clear hb); (try clear hb2); (try clear hk); (try clear hi); (try clear ho0)) | ((with_reducible refine q22 (N := 24) rfl ?_); refine Kd.R_lit (Kd.int .i64) _ 3 ?hg (N := 24) ?hd (xs := ([x4_1] : List Int)) (inner := [.int .i64 x4_1]) (ok := fun _ => True) (okp := fun _ => True) ?hr ?hp (fun _ hk => hk) trivial (Below.refl _ _) (Nat.le_refl _) (by simp) ?_; (case hd => rfl); (case hg => rfl); (case hr => first | (go_simp; done) | (go_simp; rfl)); (case hp => exact (Reps.one (show Kd.M (Kd.int .i64) _ _ _ x4_1 [.int .i64 x4_1] from rfl) (Reps.none _ _))); intro v222 w8 ho9 hb hg_ hnew_; clear hg_ hnew_; (first | rw [← Ny221.out] at ho9 | (simp only [Int.reduceToNat] at ho9; rw [← Ny221.out] at ho9)); have n0_ := Aside0.mk (Kd.R_elder' (by (with_reducible repeat (first | apply Kd.R_alloc | apply Kd.R_drewN | apply Kd.R_drew)); exact HO220.out) (Kd.R_base ho9) hb); have n1_ := Aside0.mk (Kd.R_lower (Kd.R_new' ho9 (Kd.R_lt (by (with_reducible repeat (first | apply Kd.R_alloc | apply Kd.R_drewN | apply Kd.R_drew)); exact HO220.out))) (q13 (by repeat (first | (with_reducible first | exact HB.out | apply q9 | apply q5 | apply q10) | exact HB.out)))); have n2_ := Aside0.mk (q12 (by repeat (first | (with_reducible first | exact HB.out | apply q9 | apply q5 | apply q10) | exact HB.out)) hb); clear HO220; clear HB; have HO220 := n0_; have HO223 := n1_; have HB := n2_; clear n0_ n1_ n2_; clear hb ho9; obtain ⟨Ao11, co11, eo11⟩ := Kd.R_slice HO220.out; subst eo11) | ((with_reducible refine gate_builtin (b := .append) (xs := #[.tmp 24, .tmp 25]) rfl ?_); at_builtin; refine Kd.R_append_rows (Kd.int .i64) (w0 := w) w.heap.size rfl (.tmp 24) (.tmp 25) 43 3 (.int .i64 0) 8 rfl Try.underlying43 info3 rfl (by decide) (by omega) v222 y221 t217 _ _ _ (fun k_ => some k_ ≠ (.slice Ao11 t217.length co11 : Value).ownBlock) (fun _ => False) rfl rfl ?aO ?aR (fun _ _ h => h) (fun _ h => h.elim) ?aF ?aB ?aS ?aL ?_; (case aR => repeat (first | exact (Kd.R_reads' HO220.out).2.2 | (with_reducible refine Kd.C_alloc ?_ _) | (with_reducible refine Kd.C_drewN ?_ _) | (with_reducible refine Kd.C_drew ?_))); (case aB => exact (by repeat (first | (with_reducible first | exact HB.out | apply q9 | apply q5 | apply q10) | exact HB.out))); (case aF => exact (fun k_ hk => Kd.fresh' (Kd.R_lt (by (with_reducible repeat (first | apply Kd.R_alloc | apply Kd.R_drewN | apply Kd.R_drew)); exact HO220.out)) k_ hk)); (case aO => exact (by (with_reducible repeat (first | apply Kd.R_alloc | apply Kd.R_drewN | apply Kd.R_drew)); exact Kd.R_mono HO223.out (fun _ hk => hk.2))); (case aS => exact (q13 (by repeat (first | (with_reducible first | exact HB.out | apply q9 | apply q5 | apply q10) | exact HB.out)))); (case aL => have := LMc6.out; omega); intro v225 w10 ho hb hg hat; rw [← Ny224.out] at ho; have n0_ := Aside0.mk (Kd.R_after (ok := (fun _ => True)) (by (with_reducible repeat (first | apply Kd.R_alloc | apply Kd.R_drewN | apply Kd.R_drew)); exact HO220.out) hg hat); have n1_ := Aside0.mk (hb); have n2_ := Aside0.mk (ho); clear HO220; clear HB; clear HO223; have HO220 := n0_; have HB := n1_; have HO226 := n2_; clear n0_ n1_ n2_; clear ho hb hg hat))
              go_ret2
              exact ⟨_, by first | rfl | (simp [errW_none, errW_some] <;> rfl) | (simp [*, errW_none, errW_some] <;> rfl), by (with_reducible repeat (first | apply Kd.R_alloc | apply Kd.R_drewN | apply Kd.R_drew)); exact Kd.R_mono HO226.out (fun _ hk => trivial), by repeat (first | (with_reducible first | exact HB.out | apply q9 | apply q5 | apply q10) | exact HB.out)⟩
            · rw [if_neg c6] at H; exact absurd H (by simp)
          · replace c5 := Bool.eq_false_iff.mpr c5; subst c5
            have H1 : (if ((rd_T42 l0 x4_1).f0) = 8 then (some ((([x4_1] : List Int)), true)) else (chiasmusref11_Active.l0 k1 l0 (wrap64 (x4_1 + 1)))) = some (r1, r2) := by rw [if_neg (show ¬ (false = true) by decide)] at H; exact H
            clear H; have H := H1; clear H1
            by_cases c12 : ((rd_T42 l0 x4_1).f0) = 8
            · rw [if_pos c12] at H; have c12b0 : (((rd_T42 l0 x4_1).f0) == 8) = true := beq_iff_eq.mpr c12; have c12b1 : (((rd_T42 l0 x4_1).f0) != 8) = false := bne_eq_false_iff_eq.mpr c12; clear c12; obtain ⟨y228, hy228⟩ : ∃ y_ : List Int, y_ = (([x4_1] : List Int)) := ⟨_, rfl⟩
              replace H : (some (y228, true)) = some (r1, r2) := by first | (rw [hy228]; with_reducible exact H) | (have H2_ := (Option.bind_some _ _).symm.trans H; rw [hy228]; with_reducible exact H2_) | (have H2_ := (Option.bind_some _ _).symm.trans H; with_reducible exact H2_) | with_reducible exact H | (rw [hy228]; exact H) | exact H
              have Ny228 := Aside0.mk hy228; clear hy228; simp only [Option.some.injEq, Prod.mk.injEq] at H; obtain ⟨rfl, rfl⟩ := H; have p216 : 0 ≤ (x4_1 : Int) := of_decide_eq_true (by first | (with_reducible assumption) | assumption); have q216 : x4_1 < (l0.length : Int) := of_decide_eq_true (by first | (with_reducible assumption) | assumption); obtain ⟨ad216, A216_2, c216_2, e216, hx216_0, hx216_1, hx216_2, hl216_2, hi216_2⟩ := at_T42 HR0.out x4_1 p216 q216; cases e216; replace hx216_0 := (HB.out.cell (World.block_lt_of_cell? w _ hx216_0)).trans hx216_0; replace hx216_1 := (HB.out.cell (World.block_lt_of_cell? w _ hx216_1)).trans hx216_1; replace hx216_2 := (HB.out.cell (World.block_lt_of_cell? w _ hx216_2)).trans hx216_2; have HR216_2 := Aside0.mk hi216_2; have HC216_2 := Aside0.mk hl216_2; clear hi216_2 hl216_2; replace p216 := eq_true p216; replace q216 := eq_true q216
              go_wp2_with (first | ((with_reducible refine gate_callee (f := 86) rfl ?_); refine goesL_ (some 19) rfl rfl Try.func86 (by kernel_rfl) rfl #[.slice A216_2 ((rd_T42 l0 x4_1).f2).length c216_2] rfl (by (try simp only [List.map_toArray, List.map_cons, List.map_nil]); first | done | rfl | (simp only [List.length_drop, List.length_take]; rfl)) ?_; (with_reducible refine (ih k1 (by have := HK1.out; omega) _ _ ((rd_T42 l0 x4_1).f2) t217 false _ ?side1 ?side2 A4.out).mono ?_); (case side1 => repeat (first | exact (Kd.C_below HR216_2.out HB.out) | (with_reducible refine Kd.C_alloc ?_ _) | (with_reducible refine Kd.C_drewN ?_ _) | (with_reducible refine Kd.C_drew ?_))); (case side2 => exact HC216_2.out); rintro e w13 ⟨v219, rfl, ho0, hb⟩; refine ⟨_, rfl, ?_⟩; have n0_ := Aside0.mk (Kd.R_lower ho0 (q13 (by repeat (first | (with_reducible first | exact HB.out | apply q9 | apply q5 | apply q10) | exact HB.out)))); have n1_ := Aside0.mk (q12 (by repeat (first | (with_reducible first | exact HB.out | apply q9 | apply q5 | apply q10) | exact HB.out)) hb); clear HB; have HO220 := n0_; have HB := n1_; clear n0_ n1_; (try clear hb); (try clear hb2); (try clear hk); (try clear hi); (try clear ho0); have p227 : 0 ≤ (x4_1 : Int) := of_decide_eq_true (by first | (with_reducible assumption) | assumption); have q227 : x4_1 < (l0.length : Int) := of_decide_eq_true (by first | (with_reducible assumption) | assumption); obtain ⟨ad227, A227_2, c227_2, e227, hx227_0, hx227_1, hx227_2, hl227_2, hi227_2⟩ := at_T42 HR0.out x4_1 p227 q227; obtain rfl : ad216 = ad227 := (by injection e227); replace hx227_0 := (HB.out.cell (World.block_lt_of_cell? w _ hx227_0)).trans hx227_0; replace hx227_1 := (HB.out.cell (World.block_lt_of_cell? w _ hx227_1)).trans hx227_1; replace hx227_2 := (HB.out.cell (World.block_lt_of_cell? w _ hx227_2)).trans hx227_2; have HR227_2 := Aside0.mk hi227_2; have HC227_2 := Aside0.mk hl227_2; clear hi227_2 hl227_2; replace p227 := eq_true p227; replace q227 := eq_true q227) | ((with_reducible refine q22 (N := 34) rfl ?_); refine Kd.R_lit (Kd.int .i64) _ 3 ?hg (N := 34) ?hd (xs := ([x4_1] : List Int)) (inner := [.int .i64 x4_1]) (ok := fun _ => True) (okp := fun _ => True) ?hr ?hp (fun _ hk => hk) trivial (Below.refl _ _) (Nat.le_refl _) (by simp) ?_; (case hd => rfl); (case hg => rfl); (case hr => first | (go_simp; done) | (go_simp; rfl)); (case hp => exact (Reps.one (show Kd.M (Kd.int .i64) _ _ _ x4_1 [.int .i64 x4_1] from rfl) (Reps.none _ _))); intro v229 w14 ho15 hb hg_ hnew_; clear hg_ hnew_; (first | rw [← Ny228.out] at ho15 | (simp only [Int.reduceToNat] at ho15; rw [← Ny228.out] at ho15)); have n0_ := Aside0.mk (Kd.R_elder' (by (with_reducible repeat (first | apply Kd.R_alloc | apply Kd.R_drewN | apply Kd.R_drew)); exact HO220.out) (Kd.R_base ho15) hb); have n1_ := Aside0.mk (Kd.R_lower (Kd.R_new' ho15 (Kd.R_lt (by (with_reducible repeat (first | apply Kd.R_alloc | apply Kd.R_drewN | apply Kd.R_drew)); exact HO220.out))) (q13 (by repeat (first | (with_reducible first | exact HB.out | apply q9 | apply q5 | apply q10) | exact HB.out)))); have n2_ := Aside0.mk (q12 (by repeat (first | (with_reducible first | exact HB.out | apply q9 | apply q5 | apply q10) | exact HB.out)) hb); clear HO220; clear HB; have HO220 := n0_; have HO230 := n1_; have HB := n2_; clear n0_ n1_ n2_; clear hb ho15))
              go_ret2
              exact ⟨_, by first | rfl | (simp [errW_none, errW_some] <;> rfl) | (simp [*, errW_none, errW_some] <;> rfl), by (with_reducible repeat (first | apply Kd.R_alloc | apply Kd.R_drewN | apply Kd.R_drew)); exact Kd.R_mono HO230.out (fun _ hk => trivial), by repeat (first | (with_reducible first | exact HB.out | apply q9 | apply q5 | apply q10) | exact HB.out)⟩
            · rw [if_neg c12] at H; have c12b0 : (((rd_T42 l0 x4_1).f0) == 8) = false := beq_eq_false_iff_ne.mpr c12; have c12b1 : (((rd_T42 l0 x4_1).f0) != 8) = true := bne_iff_ne.mpr c12; have H' := Aside0.mk H; clear H; have p216 : 0 ≤ (x4_1 : Int) := of_decide_eq_true (by first | (with_reducible assumption) | assumption); have q216 : x4_1 < (l0.length : Int) := of_decide_eq_true (by first | (with_reducible assumption) | assumption); obtain ⟨ad216, A216_2, c216_2, e216, hx216_0, hx216_1, hx216_2, hl216_2, hi216_2⟩ := at_T42 HR0.out x4_1 p216 q216; cases e216; replace hx216_0 := (HB.out.cell (World.block_lt_of_cell? w _ hx216_0)).trans hx216_0; replace hx216_1 := (HB.out.cell (World.block_lt_of_cell? w _ hx216_1)).trans hx216_1; replace hx216_2 := (HB.out.cell (World.block_lt_of_cell? w _ hx216_2)).trans hx216_2; have HR216_2 := Aside0.mk hi216_2; have HC216_2 := Aside0.mk hl216_2; clear hi216_2 hl216_2; replace p216 := eq_true p216; replace q216 := eq_true q216
              go_wp2_with (first | ((with_reducible refine gate_callee (f := 86) rfl ?_); refine goesL_ (some 19) rfl rfl Try.func86 (by kernel_rfl) rfl #[.slice A216_2 ((rd_T42 l0 x4_1).f2).length c216_2] rfl (by (try simp only [List.map_toArray, List.map_cons, List.map_nil]); first | done | rfl | (simp only [List.length_drop, List.length_take]; rfl)) ?_; (with_reducible refine (ih k1 (by have := HK1.out; omega) _ _ ((rd_T42 l0 x4_1).f2) t217 false _ ?side1 ?side2 A4.out).mono ?_); (case side1 => repeat (first | exact (Kd.C_below HR216_2.out HB.out) | (with_reducible refine Kd.C_alloc ?_ _) | (with_reducible refine Kd.C_drewN ?_ _) | (with_reducible refine Kd.C_drew ?_))); (case side2 => exact HC216_2.out); rintro e w16 ⟨v219, rfl, ho0, hb⟩; refine ⟨_, rfl, ?_⟩; have n0_ := Aside0.mk (Kd.R_lower ho0 (q13 (by repeat (first | (with_reducible first | exact HB.out | apply q9 | apply q5 | apply q10) | exact HB.out)))); have n1_ := Aside0.mk (q12 (by repeat (first | (with_reducible first | exact HB.out | apply q9 | apply q5 | apply q10) | exact HB.out)) hb); clear HB; have HO220 := n0_; have HB := n1_; clear n0_ n1_; (try clear hb); (try clear hb2); (try clear hk); (try clear hi); (try clear ho0); have p227 : 0 ≤ (x4_1 : Int) := of_decide_eq_true (by first | (with_reducible assumption) | assumption); have q227 : x4_1 < (l0.length : Int) := of_decide_eq_true (by first | (with_reducible assumption) | assumption); obtain ⟨ad227, A227_2, c227_2, e227, hx227_0, hx227_1, hx227_2, hl227_2, hi227_2⟩ := at_T42 HR0.out x4_1 p227 q227; obtain rfl : ad216 = ad227 := (by injection e227); replace hx227_0 := (HB.out.cell (World.block_lt_of_cell? w _ hx227_0)).trans hx227_0; replace hx227_1 := (HB.out.cell (World.block_lt_of_cell? w _ hx227_1)).trans hx227_1; replace hx227_2 := (HB.out.cell (World.block_lt_of_cell? w _ hx227_2)).trans hx227_2; have HR227_2 := Aside0.mk hi227_2; have HC227_2 := Aside0.mk hl227_2; clear hi227_2 hl227_2; replace p227 := eq_true p227; replace q227 := eq_true q227))
              go_roundg k1
              case measure => have := HK1.out; omega
              case rel => exact ⟨(wrap64 (x4_1 + 1)), (by first | rfl | (simp; done) | (simp [*]; done)), H', ⟨by have := HK1.out; omega⟩, ⟨by repeat (first | (with_reducible first | exact HB.out | apply q9 | apply q5 | apply q10) | exact HB.out)⟩⟩
        · rw [if_neg c3] at H; exact absurd H (by simp)
      · rw [if_neg c2] at H; have c2b0 : decide (x4_1 < (l0.length : Int)) = false := decide_eq_false c2; clear c2; simp only [Option.some.injEq, Prod.mk.injEq] at H; obtain ⟨rfl, rfl⟩ := H
        go_wp2
        go_ret2
        exact ⟨_, by first | rfl | (simp [errW_none, errW_some] <;> rfl) | (simp [*, errW_none, errW_some] <;> rfl), by first | exact Kd.R_nil _ _ _ _ _ | exact Kd.N_nil _ _ _ _ _ | exact Kd.V_nil _ _ _ _ _ | exact Kd.Q_nil _ _ _ _ _ | exact Kd.S_nil _ _ _ _ _, by repeat (first | (with_reducible first | exact HB.out | apply q9 | apply q5 | apply q10) | exact HB.out)⟩
end Go.Proofs.Ytjhjhhibbmligaa.TE
end
