/- Part of the walk: lemmas and printed functions that the claim uses (wip/tools/trim.py). -/
import Derived.Test.YtjhjhhibbmligaaOTEx0
import Derived.Test.YtjhjhhibbmligaaOTEx2
section
namespace Go.Proofs.Ytjhjhhibbmligaa.TE
open Go.RowKit Go.Proofs.YtjhjhhibbmligaaW.PrintWords Go.Proofs.YtjhjhhibbmligaaW.PrintLast Go.Proofs.YtjhjhhibbmligaaW.PrintMore
attribute [local go_sem] max2_int min2_int max_two min_two max_three min_three max_four min_four
set_option linter.unusedVariables false
set_option linter.unusedSimpArgs false
def IsS142 (w0 W : World) (g : Nat) (f0 : ByteArray) (f1 : Int) (f2 : Int) (f3 : List (S42)) (f4 : List (S203)) : Prop := ∃ A3 c3, ∃ A4 c4, W.heap[g]? = some (.cells #[.string f0, .int .i64 f1, .int .i64 f2, .slice A3 f3.length c3, .slice A4 f4.length c4] 142 (0, 0)) ∧ w0.heap.size ≤ g ∧ Kd.C k42 w0 A3 f3.length f3 ∧ Kd.C k203 w0 A4 f4.length f4
theorem IsS142.grown {w0 W : World} {g : Nat} {f0 : ByteArray} {f1 : Int} {f2 : Int} {f3 : List (S42)} {f4 : List (S203)} {W1 : World} {row : Option Nat} (h : IsS142 w0 W g f0 f1 f2 f3 f4) (hw : W.grownBy W1 row) (hne : some g ≠ row) : IsS142 w0 W1 g f0 f1 f2 f3 f4 := by
  obtain ⟨A3, c3, A4, c4, hb, hg, hr3, hr4⟩ := h; exact ⟨A3, c3, A4, c4, blk_grown hb hw hne, hg, hr3, hr4⟩
theorem IsS142.kept {w0 W : World} {g : Nat} {f0 : ByteArray} {f1 : Int} {f2 : Int} {f3 : List (S42)} {f4 : List (S203)} {W1 : World} {S : Nat → Prop} (h : IsS142 w0 W g f0 f1 f2 f3 f4) (hk : Kept W W1 S) (hne : ¬ S g) : IsS142 w0 W1 g f0 f1 f2 f3 f4 := by
  obtain ⟨A3, c3, A4, c4, hb, hg, hr3, hr4⟩ := h; exact ⟨A3, c3, A4, c4, blk_kept hb hk hne, hg, hr3, hr4⟩
theorem IsS142.below {w0 W : World} {g : Nat} {f0 : ByteArray} {f1 : Int} {f2 : Int} {f3 : List (S42)} {f4 : List (S203)} {W1 : World} (h : IsS142 w0 W g f0 f1 f2 f3 f4) (hw : Below W.heap.size W W1) : IsS142 w0 W1 g f0 f1 f2 f3 f4 := h.grown (grown_of_below hw none) (by simp)
theorem IsS142.alloc {w0 W : World} {g : Nat} {f0 : ByteArray} {f1 : Int} {f2 : Int} {f3 : List (S42)} {f4 : List (S203)} (h : IsS142 w0 W g f0 f1 f2 f3 f4) (o : Obj) : IsS142 w0 (W.alloc o) g f0 f1 f2 f3 f4 := h.below (q9 (Below.refl _ _) o)
theorem IsS142.drewN {w0 W : World} {g : Nat} {f0 : ByteArray} {f1 : Int} {f2 : Int} {f3 : List (S42)} {f4 : List (S203)} (h : IsS142 w0 W g f0 f1 f2 f3 f4) (m : Nat) : IsS142 w0 (W.drewN m) g f0 f1 f2 f3 f4 := h
theorem IsS142.drew {w0 W : World} {g : Nat} {f0 : ByteArray} {f1 : Int} {f2 : Int} {f3 : List (S42)} {f4 : List (S203)} (h : IsS142 w0 W g f0 f1 f2 f3 f4) : IsS142 w0 W.drew g f0 f1 f2 f3 f4 := h
theorem IsS142.at_ {w0 W : World} {g : Nat} {f0 : ByteArray} {f1 : Int} {f2 : Int} {f3 : List (S42)} {f4 : List (S203)} {w' : World} {m : Nat} (hq : W.drewN m = w') (h : IsS142 w0 W g f0 f1 f2 f3 f4) : IsS142 w0 w' g f0 f1 f2 f3 f4 := by subst hq; exact IsS142.drewN h m
theorem IsS142.apart {w0 W : World} {g : Nat} {f0 : ByteArray} {f1 : Int} {f2 : Int} {f3 : List (S42)} {f4 : List (S203)} {α : Type} {d : Kd α} {e : Nat} {base : Nat} {ok : Nat → Prop} {v : Value} {xs : List α} (h : IsS142 w0 W g f0 f1 f2 f3 f4) (ho : d.R e W base ok v xs) (ht : ∀ q, q ∈ e :: d.E → q ≠ 142) : d.R e W base (fun k => ok k ∧ k ≠ g) v xs := by
  obtain ⟨A3, c3, A4, c4, hb, hg, hr3, hr4⟩ := h; exact Kd.R_types ho hb ht
theorem IsS142.own_ne {w0 W : World} {g : Nat} {f0 : ByteArray} {f1 : Int} {f2 : Int} {f3 : List (S42)} {f4 : List (S203)} {α : Type} {d : Kd α} {e : Nat} {base : Nat} {ok : Nat → Prop} {v : Value} {xs : List α} (h : IsS142 w0 W g f0 f1 f2 f3 f4) (ho : d.R e W base ok v xs) (ht : e ≠ 142) : some g ≠ v.ownBlock := by
  obtain ⟨A3, c3, A4, c4, hb, hg, hr3, hr4⟩ := h; exact Kd.R_ne ho hb ht
theorem IsS142.own_neS {w0 W : World} {g : Nat} {f0 : ByteArray} {f1 : Int} {f2 : Int} {f3 : List (S42)} {f4 : List (S203)} {α : Type} {d : Kd α} {e : Nat} {base : Nat} {ok : Nat → Prop} {v : Value} {xs : List α} (h : IsS142 w0 W g f0 f1 f2 f3 f4) (ho : d.S e W base ok v xs) (ht : e ≠ 142) : some g ≠ v.ownBlock := by
  obtain ⟨A3, c3, A4, c4, hb, hg, hr3, hr4⟩ := h; exact Kd.S_ne ho hb ht
theorem IsS142.lt {w0 W : World} {g : Nat} {f0 : ByteArray} {f1 : Int} {f2 : Int} {f3 : List (S42)} {f4 : List (S203)} (h : IsS142 w0 W g f0 f1 f2 f3 f4) : g < W.heap.size := by
  obtain ⟨A3, c3, A4, c4, hb, hg, hr3, hr4⟩ := h; exact blk_lt hb
theorem IsS142.far {w0 W : World} {g : Nat} {f0 : ByteArray} {f1 : Int} {f2 : Int} {f3 : List (S42)} {f4 : List (S203)} {p : Addr} (h : IsS142 w0 W g f0 f1 f2 f3 f4) (hne : g ≠ p.block) (u : Value) : IsS142 w0 (W.setCell p u) g f0 f1 f2 f3 f4 := by
  obtain ⟨A3, c3, A4, c4, hb, hg, hr3, hr4⟩ := h; exact ⟨A3, c3, A4, c4, blk_far hb hne u, hg, hr3, hr4⟩
def term_Chars.l0 : Nat → ByteArray → List (S42) → Int → Int → Option ((List (S42)))
  | 0, _, _, _, _ => none
  | k + 1, x0, x3, x6, x7 => if x7 < x6 then (if 0 ≤ x7 then (if x7 ≤ (wrap64 (x7 + 1)) then (if (wrap64 (x7 + 1)) ≤ (x0.size : Int) then (if x3.length < 2932031007402 then (term_Chars.l0 k x0 (x3 ++ [(⟨1, x0.extract (x7 : Int).toNat ((wrap64 (x7 + 1)) : Int).toNat, ([] : List (S42))⟩ : S42)]) x6 (wrap64 (x7 + 1))) else (none)) else (none)) else (none)) else (none)) else (some x3)
def term_Chars.f (k : Nat) (a0 : ByteArray) : Option ((List (S42))) := term_Chars.l0 k a0 ([] : List (S42)) (a0.size : Int) 0
set_option maxHeartbeats 8000000 in
set_option maxRecDepth 100000 in
theorem term_Chars.calls (k : Nat) (a0 : ByteArray) (r : List (S42)) (w : World) (h : term_Chars.f k a0 = some r) :
    Calls Try.prog 68 #[.string a0] w fun e w' => ∃ v0_ : Value, e = .returned (v0_) ∧ Kd.R k42 42 w' w.heap.size (fun _ => True) v0_ r ∧ Below w.heap.size w w' := by
  have hu42 := Try.underlying42; have HB := Aside0.mk (Below.refl w.heap.size w); have H : (term_Chars.l0 k a0 ([] : List (S42)) (a0.size : Int) 0) = some r := h; clear h; have H' := Aside0.mk H; clear H
  go_enter Try.func68, Try.ntmps68
  go_wp2
  go_loopg [3, 7] k (fun kq v3 v7 w' => ∃ (x3_1 : List (S42)) (x7_1 : Int), v7 = .int .i64 x7_1 ∧ Aside0 (term_Chars.l0 kq a0 x3_1 (a0.size : Int) x7_1 = some r) ∧ Aside0 (kq ≤ k) ∧ Aside0 (Kd.R k42 42 w' w.heap.size (fun _ => True) v3 x3_1) ∧ Aside0 (Below w.heap.size w w'))
  case atStart => exact ⟨(([] : List (S42))), (0), (by first | rfl | (simp; done) | (simp [*]; done)), H', ⟨Nat.le_refl _⟩, ⟨by first | exact Kd.R_nil _ _ _ _ _ | exact Kd.N_nil _ _ _ _ _ | exact Kd.V_nil _ _ _ _ _ | exact Kd.Q_nil _ _ _ _ _ | exact Kd.S_nil _ _ _ _ _⟩, ⟨by repeat (first | (with_reducible first | exact HB.out | apply q9 | apply q7 | apply q10) | exact HB.out)⟩⟩
  case round =>
    clear H'; obtain ⟨x3_1, x7_1, rfl, HA, HK1, HO_3, HB⟩ := hrel
    cases gk with
    | zero => exact absurd HA.out (by simp [term_Chars.l0])
    | succ k1 =>
      have H := HA.out; clear HA; simp only [term_Chars.l0] at H
      by_cases c2 : x7_1 < (a0.size : Int)
      · rw [if_pos c2] at H; have c2b0 : decide (x7_1 < (a0.size : Int)) = true := decide_eq_true c2; clear c2
        by_cases c3 : 0 ≤ x7_1
        · rw [if_pos c3] at H; have c3b0 := eq_true c3; have c3b1 : decide (0 ≤ x7_1) = true := decide_eq_true c3; clear c3
          by_cases c4 : x7_1 ≤ (wrap64 (x7_1 + 1))
          · rw [if_pos c4] at H; have c4b0 := eq_true c4; have c4b1 : decide (x7_1 ≤ (wrap64 (x7_1 + 1))) = true := decide_eq_true c4
            by_cases c5 : (wrap64 (x7_1 + 1)) ≤ (a0.size : Int)
            · rw [if_pos c5] at H; have c5b0 := eq_true c5; have c5b1 : decide ((wrap64 (x7_1 + 1)) ≤ (a0.size : Int)) = true := decide_eq_true c5
              by_cases c6 : x3_1.length < 2932031007402
              · rw [if_pos c6] at H; have LMc6 := Aside0.mk c6; clear c6; obtain ⟨y129, hy129⟩ : ∃ y_ : List (S42), y_ = (x3_1 ++ [(⟨1, a0.extract (x7_1 : Int).toNat ((wrap64 (x7_1 + 1)) : Int).toNat, ([] : List (S42))⟩ : S42)]) := ⟨_, rfl⟩
                replace H : (term_Chars.l0 k1 a0 y129 (a0.size : Int) (wrap64 (x7_1 + 1))) = some r := by first | (rw [hy129]; with_reducible exact H) | (have H2_ := (Option.bind_some _ _).symm.trans H; rw [hy129]; with_reducible exact H2_) | (have H2_ := (Option.bind_some _ _).symm.trans H; with_reducible exact H2_) | with_reducible exact H | (rw [hy129]; exact H) | exact H
                have Ny129 := Aside0.mk hy129; clear hy129; have H' := Aside0.mk H; clear H
                go_wp2_with (first | ((with_reducible refine gate_builtin (b := .append) (xs := #[.tmp 10, .tmp 17]) rfl ?_); at_builtin; refine Kd.R_append k42 (w0 := w) w.heap.size rfl (.tmp 10) (.tmp 17) 22 42 (.agg #[(.int .i64 0), (.string ⟨#[]⟩), (.slice none 0 0)]) 48 rfl Try.underlying22 info42 rfl (by decide) (by omega) u3 x3_1 (⟨1, a0.extract (x7_1 : Int).toNat ((wrap64 (x7_1 + 1)) : Int).toNat, ([] : List (S42))⟩ : S42) [.int .i64 1, .string (a0.extract (x7_1 : Int).toNat ((wrap64 (x7_1 + 1)) : Int).toNat), .slice none 0 0] (fun _ => True) (fun k_ => ((fun _ => True)) k_ ∧ some k_ ≠ (u3 : Value).ownBlock) rfl rfl ?aP (fun _ hk => hk) ?aF ?aO ?aB ?aS ?aL ?_; (case aP => exact k42_mkM _ _ _ (⟨1, a0.extract (x7_1 : Int).toNat ((wrap64 (x7_1 + 1)) : Int).toNat, ([] : List (S42))⟩ : S42) (Kd.R_nil _ _ _ _ _)); (case aB => exact (by repeat (first | (with_reducible first | exact HB.out | apply q9 | apply q7 | apply q10) | exact HB.out))); (case aF => exact (fun _ _ => trivial)); (case aO => exact (by (with_reducible repeat (first | apply Kd.R_alloc | apply Kd.R_drewN | apply Kd.R_drew)); exact HO_3.out)); (case aS => exact (q13 (by repeat (first | (with_reducible first | exact HB.out | apply q9 | apply q7 | apply q10) | exact HB.out)))); (case aL => have := LMc6.out; omega); intro v130 w7 ho hb hg hat; rw [← Ny129.out] at ho; have n0_ := Aside0.mk (hb); have n1_ := Aside0.mk (ho); clear HB; clear HO_3; have HB := n0_; have HO131 := n1_; clear n0_ n1_; clear ho hb hg hat))
                go_roundg k1
                case measure => have := HK1.out; omega
                case rel => exact ⟨(y129), (wrap64 (x7_1 + 1)), (by first | rfl | (simp; done) | (simp [*]; done)), H', ⟨by have := HK1.out; omega⟩, ⟨by (with_reducible repeat (first | apply Kd.R_alloc | apply Kd.R_drewN | apply Kd.R_drew)); exact HO131.out⟩, ⟨by repeat (first | (with_reducible first | exact HB.out | apply q9 | apply q7 | apply q10) | exact HB.out)⟩⟩
              · rw [if_neg c6] at H; exact absurd H (by simp)
            · rw [if_neg c5] at H; exact absurd H (by simp)
          · rw [if_neg c4] at H; exact absurd H (by simp)
        · rw [if_neg c3] at H; exact absurd H (by simp)
      · rw [if_neg c2] at H; have c2b0 : decide (x7_1 < (a0.size : Int)) = false := decide_eq_false c2; clear c2; obtain rfl := Option.some.inj H
        go_wp2
        go_ret; exact ⟨_, by first | rfl | (simp [errW_none, errW_some] <;> rfl) | (simp [*, errW_none, errW_some] <;> rfl), by (with_reducible repeat (first | apply Kd.R_alloc | apply Kd.R_drewN | apply Kd.R_drew)); exact HO_3.out, by repeat (first | (with_reducible first | exact HB.out | apply q9 | apply q7 | apply q10) | exact HB.out)⟩
mutual
def term_hexadecimal.j0 : Nat → Int → Bool → Option (Int)
  | 0, _, _ => none
  | k + 1, x0, x3 => if x3 = true then (some ((x0 - 48) % 256)) else (if x0 ≥ 97 then (term_hexadecimal.j1 k x0 (decide (x0 ≤ 102))) else (term_hexadecimal.j1 k x0 false))
def term_hexadecimal.j1 : Nat → Int → Bool → Option (Int)
  | 0, _, _ => none
  | k + 1, x0, x13 => if x13 = true then (some (((x0 - 97) % 256) + 10)) else (if x0 ≥ 65 then (if x0 ≤ 70 then (some (((x0 - 65) % 256) + 10)) else (some (-1))) else (some (-1)))
end
def term_hexadecimal.f (k : Nat) (a0 : Int) : Option (Int) := if a0 ≥ 48 then (term_hexadecimal.j0 k a0 (decide (a0 ≤ 57))) else (term_hexadecimal.j0 k a0 false)
set_option maxHeartbeats 8000000 in
set_option maxRecDepth 100000 in
theorem term_hexadecimal.calls (k : Nat) (a0 : Int) (r : Int) (w : World) (h : term_hexadecimal.f k a0 = some r) :
    Calls Try.prog 187 #[.int .u8 a0] w fun e w' => e = .returned (.int .i64 r) ∧ Drawn0 w w' := by
  have H : (if a0 ≥ 48 then (term_hexadecimal.j0 k a0 (decide (a0 ≤ 57))) else (term_hexadecimal.j0 k a0 false)) = some r := h; clear h; have HC2 := Aside0.mk H; clear H
  go_enter Try.func187, Try.ntmps187
  go_upto_region 1 with (fail)
  go_cut [3] (fun v3 wc => ∃ (kq : Nat) (x3_1 : Bool), v3 = .bool x3_1 ∧ Aside0 (term_hexadecimal.j0 kq a0 x3_1 = some r) ∧ Aside0 (kq ≤ k) ∧ Drawn0 w wc)
  case first =>
    have H := HC2.out; clear HC2
    by_cases c3 : a0 ≥ 48
    · rw [if_pos c3] at H; have c3b0 : decide (48 ≤ a0) = true := decide_eq_true c3; clear c3
      (first | rw [c3b0] | (simp only [i64_w, i32_w]; rw [c3b0]) | skip)
      have H' := Aside0.mk H; clear H
      go_wp2
      go_meet
      case rel => exact ⟨_, (decide (a0 ≤ 57)), (by first | rfl | (simp; done) | (simp [*]; done)), H', ⟨by first | omega | exact Nat.le_refl _⟩, by repeat (first | exact Drawn0.refl _ | apply Drawn0.step)⟩
    · rw [if_neg c3] at H; have c3b0 : decide (48 ≤ a0) = false := decide_eq_false c3; clear c3
      (first | rw [c3b0] | (simp only [i64_w, i32_w]; rw [c3b0]) | skip)
      have H' := Aside0.mk H; clear H
      go_wp2
      go_meet
      case rel => exact ⟨_, (false), (by first | rfl | (simp; done) | (simp [*]; done)), H', ⟨by first | omega | exact Nat.le_refl _⟩, by repeat (first | exact Drawn0.refl _ | apply Drawn0.step)⟩
  case rest =>
    clear HC2
    try clear c1
    try clear p2
    try clear c3
    try clear c3b0
    obtain ⟨kq, x3_1, rfl, HA, HJ1, ⟨mc1, rfl⟩⟩ := hcut
    cases kq with
    | zero => exact absurd HA.out (by simp [term_hexadecimal.j0])
    | succ kj1 =>
      have H := HA.out; clear HA; simp only [term_hexadecimal.j0] at H
      by_cases c4 : x3_1 = true
      · subst c4
        have H1 : (some ((a0 - 48) % 256)) = some r := by rw [if_pos rfl] at H; exact H
        clear H; have H := H1; clear H1; obtain rfl := Option.some.inj H
        go_wp2
        go_ret; exact ⟨by first | rfl | (simp; done) | (simp [*]; done), by repeat (first | exact Drawn0.refl _ | apply Drawn0.step)⟩
      · replace c4 := Bool.eq_false_iff.mpr c4; subst c4
        have H1 : (if a0 ≥ 97 then (term_hexadecimal.j1 kj1 a0 (decide (a0 ≤ 102))) else (term_hexadecimal.j1 kj1 a0 false)) = some r := by rw [if_neg (show ¬ (false = true) by decide)] at H; exact H
        clear H; have H := H1; clear H1; have HC5 := Aside0.mk H; clear H
        go_upto_region 3 with (fail)
        go_cut [13] (fun v13 wc => ∃ (kq : Nat) (x13_4 : Bool), v13 = .bool x13_4 ∧ Aside0 (term_hexadecimal.j1 kq a0 x13_4 = some r) ∧ Aside0 (kq ≤ kj1) ∧ Drawn0 w wc)
        case first =>
          have H := HC5.out; clear HC5
          by_cases c6 : a0 ≥ 97
          · rw [if_pos c6] at H; have c6b0 : decide (97 ≤ a0) = true := decide_eq_true c6; clear c6
            (first | rw [c6b0] | (simp only [i64_w, i32_w]; rw [c6b0]) | skip)
            have H' := Aside0.mk H; clear H
            go_wp2
            go_meet
            case rel => exact ⟨_, (decide (a0 ≤ 102)), (by first | rfl | (simp; done) | (simp [*]; done)), H', ⟨by have := HJ1.out; first | omega | exact Nat.le_refl _⟩, by repeat (first | exact Drawn0.refl _ | apply Drawn0.step)⟩
          · rw [if_neg c6] at H; have c6b0 : decide (97 ≤ a0) = false := decide_eq_false c6; clear c6
            (first | rw [c6b0] | (simp only [i64_w, i32_w]; rw [c6b0]) | skip)
            have H' := Aside0.mk H; clear H
            go_wp2
            go_meet
            case rel => exact ⟨_, (false), (by first | rfl | (simp; done) | (simp [*]; done)), H', ⟨by have := HJ1.out; first | omega | exact Nat.le_refl _⟩, by repeat (first | exact Drawn0.refl _ | apply Drawn0.step)⟩
        case rest =>
          clear HC5
          try clear c1
          try clear p2
          try clear c3
          try clear c3b0
          try clear c4
          try clear c6
          try clear c6b0
          try clear p2
          obtain ⟨kq, x13_4, rfl, HA, HJ4, ⟨mc4, rfl⟩⟩ := hcut
          cases kq with
          | zero => exact absurd HA.out (by simp [term_hexadecimal.j1])
          | succ kj4 =>
            have H := HA.out; clear HA; simp only [term_hexadecimal.j1] at H
            by_cases c7 : x13_4 = true
            · subst c7
              have H1 : (some (((a0 - 97) % 256) + 10)) = some r := by rw [if_pos rfl] at H; exact H
              clear H; have H := H1; clear H1; obtain rfl := Option.some.inj H
              go_wp2
              go_ret; exact ⟨by first | rfl | (simp; done) | (simp [*]; done), by repeat (first | exact Drawn0.refl _ | apply Drawn0.step)⟩
            · replace c7 := Bool.eq_false_iff.mpr c7; subst c7
              have H1 : (if a0 ≥ 65 then (if a0 ≤ 70 then (some (((a0 - 65) % 256) + 10)) else (some (-1))) else (some (-1))) = some r := by rw [if_neg (show ¬ (false = true) by decide)] at H; exact H
              clear H; have H := H1; clear H1
              by_cases c8 : a0 ≥ 65
              · rw [if_pos c8] at H; have c8b0 : decide (65 ≤ a0) = true := decide_eq_true c8; clear c8
                by_cases c9 : a0 ≤ 70
                · rw [if_pos c9] at H; have c9b0 : decide (a0 ≤ 70) = true := decide_eq_true c9; clear c9; obtain rfl := Option.some.inj H
                  go_wp2
                  go_ret; exact ⟨by first | rfl | (simp; done) | (simp [*]; done), by repeat (first | exact Drawn0.refl _ | apply Drawn0.step)⟩
                · rw [if_neg c9] at H; have c9b0 : decide (a0 ≤ 70) = false := decide_eq_false c9; clear c9; obtain rfl := Option.some.inj H
                  go_wp2
                  go_ret; exact ⟨by first | rfl | (simp; done) | (simp [*]; done), by repeat (first | exact Drawn0.refl _ | apply Drawn0.step)⟩
              · rw [if_neg c8] at H; have c8b0 : decide (65 ≤ a0) = false := decide_eq_false c8; clear c8; obtain rfl := Option.some.inj H
                go_wp2
                go_ret; exact ⟨by first | rfl | (simp; done) | (simp [*]; done), by repeat (first | exact Drawn0.refl _ | apply Drawn0.step)⟩
end Go.Proofs.Ytjhjhhibbmligaa.TE
end
section
namespace Go.Proofs.Ytjhjhhibbmligaa.TE
open Go.RowKit Go.Proofs.YtjhjhhibbmligaaW.PrintWords Go.Proofs.YtjhjhhibbmligaaW.PrintLast Go.Proofs.YtjhjhhibbmligaaW.PrintMore
attribute [local go_sem] max2_int min2_int max_two min_two max_three min_three max_four min_four
set_option linter.unusedVariables false
set_option linter.unusedSimpArgs false
end Go.Proofs.Ytjhjhhibbmligaa.TE
end
