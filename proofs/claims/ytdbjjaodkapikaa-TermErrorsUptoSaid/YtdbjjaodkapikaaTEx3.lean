-- written by wip/tools/myprint.py (the kit's print over this seat, hand-made contracts among its own)
import Derived.Test.YtdbjjaodkapikaaTEx0
import Derived.Test.YtdbjjaodkapikaaTEx1
import Derived.Test.YtdbjjaodkapikaaTEx2
namespace Go.Proofs.Ytdbjjaodkapikaa.TE
open Go.RowKit Go.Proofs.YtdbjjaodkapikaaW.PrintWords Go.Proofs.YtdbjjaodkapikaaW.PrintLast Go.Proofs.YtdbjjaodkapikaaW.PrintMore
attribute [local go_sem] max2_int min2_int max_two min_two max_three min_three max_four min_four   -- for this text's walks alone
set_option linter.unusedVariables false
set_option linter.unusedSimpArgs false

/-! ### term_isNumber: function 108 -/
def term_isNumber.f (k : Nat) (a0 : ByteArray) : Option (Bool) := (strings_CutPrefix.f a0 (⟨#[45]⟩ : ByteArray)).bind fun bt113 => (if bt113.1.toList = ([] : List UInt8) then (some false) else (if (bt113.1.size : Int) > 500 then (some false) else ((term_every.f k bt113.1 2).bind fun t115 => (if t115 = true then (if 0 < (bt113.1.size : Int) then (if (bt bt113.1 0) = 48 then (if (bt113.1.size : Int) = 1 then (some (!bt113.2)) else (some false)) else (some true)) else (none)) else (some false)))))
theorem term_isNumber.mono : ∀ a0 k, LeO (term_isNumber.f k a0) (term_isNumber.f (k + 1) a0) := by
  intro a0 k
  unfold term_isNumber.f
  repeat' first
      | (with_reducible exact term_every.mono _ _ _)
      | (with_reducible exact LeO.refl _)
      | (with_reducible exact LeO.none _)
      | (with_reducible refine LeO.ite ?_ ?_)
      | (with_reducible refine LeO.bind ?_ (fun _ => ?_))
      | exact term_every.mono _ _ _
      | exact LeO.none _
      | refine LeO.ite ?_ ?_
      | refine LeO.bind ?_ (fun _ => ?_)
set_option maxHeartbeats 8000000 in
set_option maxRecDepth 100000 in
theorem term_isNumber.calls (k : Nat) (a0 : ByteArray) (r : Bool) (w : World) (h : term_isNumber.f k a0 = some r) :
    Calls Try.prog 108 #[.string a0] w fun e w' => e = .returned (.bool r) ∧ Drawn0 w w' := by
  have H : ((strings_CutPrefix.f a0 (⟨#[45]⟩ : ByteArray)).bind fun bt113 => (if bt113.1.toList = ([] : List UInt8) then (some false) else (if (bt113.1.size : Int) > 500 then (some false) else ((term_every.f k bt113.1 2).bind fun t115 => (if t115 = true then (if 0 < (bt113.1.size : Int) then (if (bt bt113.1 0) = 48 then (if (bt113.1.size : Int) = 1 then (some (!bt113.2)) else (some false)) else (some true)) else (none)) else (some false)))))) = some r := h
  clear h
  replace H := Option.bind_eq_some_iff.mp H
  obtain ⟨⟨t113, t114⟩, A20, H⟩ := H
  replace H : (if t113.toList = ([] : List UInt8) then (some false) else (if (t113.size : Int) > 500 then (some false) else ((term_every.f k t113 2).bind fun t115 => (if t115 = true then (if 0 < (t113.size : Int) then (if (bt t113 0) = 48 then (if (t113.size : Int) = 1 then (some (!t114)) else (some false)) else (some true)) else (none)) else (some false))))) = some r := H
  have A2 := Aside0.mk A20
  clear A20
  by_cases c3 : t113.toList = ([] : List UInt8)
  · rw [if_pos c3] at H
    have c3b0 : (t113.toList == ([] : List UInt8)) = true := beq_iff_eq.mpr c3
    have c3b1 : (t113.toList != ([] : List UInt8)) = false := bne_eq_false_iff_eq.mpr c3
    clear c3
    obtain rfl := Option.some.inj H
    go_enter Try.func108, Try.ntmps108
    go_wp2_with (first | ((with_reducible refine gate_callee (f := 128) rfl ?_); refine goesL_ (some 7) rfl rfl Try.func128 (by kernel_rfl) rfl #[.string a0, .string (⟨#[45]⟩ : ByteArray)] rfl (by (try simp only [List.map_toArray, List.map_cons, List.map_nil]); first | done | rfl | (simp only [List.length_drop, List.length_take]; rfl)) ?_; (with_reducible refine (strings_CutPrefix.calls a0 (⟨#[45]⟩ : ByteArray) t113 t114 _ A2.out).mono ?_); rintro e w' ⟨rfl, ⟨nd, rfl⟩⟩; refine ⟨_, rfl, ?_⟩))
    go_ret
    exact ⟨by first | rfl | (simp; done) | (simp [*]; done), by repeat (first | exact Drawn0.refl _ | apply Drawn0.step)⟩
  · rw [if_neg c3] at H
    have c3b0 : (t113.toList == ([] : List UInt8)) = false := beq_eq_false_iff_ne.mpr c3
    have c3b1 : (t113.toList != ([] : List UInt8)) = true := bne_iff_ne.mpr c3
    by_cases c4 : (t113.size : Int) > 500
    · rw [if_pos c4] at H
      have c4b0 : decide (500 < (t113.size : Int)) = true := decide_eq_true c4
      have c4b1 : decide (500 < t113.size) = true := decide_eq_true (by omega)
      clear c4
      obtain rfl := Option.some.inj H
      go_enter Try.func108, Try.ntmps108
      go_wp2_with (first | ((with_reducible refine gate_callee (f := 128) rfl ?_); refine goesL_ (some 7) rfl rfl Try.func128 (by kernel_rfl) rfl #[.string a0, .string (⟨#[45]⟩ : ByteArray)] rfl (by (try simp only [List.map_toArray, List.map_cons, List.map_nil]); first | done | rfl | (simp only [List.length_drop, List.length_take]; rfl)) ?_; (with_reducible refine (strings_CutPrefix.calls a0 (⟨#[45]⟩ : ByteArray) t113 t114 _ A2.out).mono ?_); rintro e w' ⟨rfl, ⟨nd, rfl⟩⟩; refine ⟨_, rfl, ?_⟩))
      go_ret
      exact ⟨by first | rfl | (simp; done) | (simp [*]; done), by repeat (first | exact Drawn0.refl _ | apply Drawn0.step)⟩
    · rw [if_neg c4] at H
      have c4b0 : decide (500 < (t113.size : Int)) = false := decide_eq_false c4
      have c4b1 : decide (500 < t113.size) = false := decide_eq_false (by omega)
      clear c4
      replace H := Option.bind_eq_some_iff.mp H
      obtain ⟨t115, A50, H⟩ := H
      replace H : (if t115 = true then (if 0 < (t113.size : Int) then (if (bt t113 0) = 48 then (if (t113.size : Int) = 1 then (some (!t114)) else (some false)) else (some true)) else (none)) else (some false)) = some r := H
      have A5 := Aside0.mk A50
      clear A50
      by_cases c6 : t115 = true
      · subst c6
        have H1 : (if 0 < (t113.size : Int) then (if (bt t113 0) = 48 then (if (t113.size : Int) = 1 then (some (!t114)) else (some false)) else (some true)) else (none)) = some r := by rw [if_pos rfl] at H; exact H
        clear H
        have H := H1
        clear H1
        by_cases c7 : 0 < (t113.size : Int)
        · rw [if_pos c7] at H
          have c7b0 : decide (0 < (t113.size : Int)) = true := decide_eq_true c7
          have c7b1 : decide (0 < t113.size) = true := decide_eq_true (by omega)
          clear c7
          by_cases c9 : (bt t113 0) = 48
          · rw [if_pos c9] at H
            have c9b0 : ((bt t113 0) == 48) = true := beq_iff_eq.mpr c9
            have c9b1 : ((bt t113 0) != 48) = false := bne_eq_false_iff_eq.mpr c9
            clear c9
            by_cases c10 : (t113.size : Int) = 1
            · rw [if_pos c10] at H
              have c10b0 : ((t113.size : Int) == 1) = true := beq_iff_eq.mpr c10
              have c10b1 : ((t113.size : Int) != 1) = false := bne_eq_false_iff_eq.mpr c10
              clear c10
              obtain rfl := Option.some.inj H
              go_enter Try.func108, Try.ntmps108
              go_wp2_with (first | ((with_reducible refine gate_callee (f := 128) rfl ?_); refine goesL_ (some 7) rfl rfl Try.func128 (by kernel_rfl) rfl #[.string a0, .string (⟨#[45]⟩ : ByteArray)] rfl (by (try simp only [List.map_toArray, List.map_cons, List.map_nil]); first | done | rfl | (simp only [List.length_drop, List.length_take]; rfl)) ?_; (with_reducible refine (strings_CutPrefix.calls a0 (⟨#[45]⟩ : ByteArray) t113 t114 _ A2.out).mono ?_); rintro e w' ⟨rfl, ⟨nd, rfl⟩⟩; refine ⟨_, rfl, ?_⟩) | (go_at_call 109; (with_reducible refine (term_every.calls k t113 2 true _ A5.out).mono ?_); rintro e w' ⟨rfl, ⟨nd, rfl⟩⟩; have p8 : 0 ≤ (0 : Int) := (by omega); have q8 : 0 < t113.size := (by have : (0 : Int) < (t113.size : Int) := of_decide_eq_true (by first | (with_reducible assumption) | assumption); omega); have hx8 : ∀ h : 0 < t113.size, ((t113[0]'h).toNat : Int) = bt t113 0 := bt_at t113 0; clear p8; have qi8 : (0 < (t113.size : Int)) = True := eq_true (of_decide_eq_true (by first | (with_reducible assumption) | assumption)); replace q8 := eq_true q8))
              go_ret
              exact ⟨by first | rfl | (simp; done) | (simp [*]; done), by repeat (first | exact Drawn0.refl _ | apply Drawn0.step)⟩
            · rw [if_neg c10] at H
              have c10b0 : ((t113.size : Int) == 1) = false := beq_eq_false_iff_ne.mpr c10
              have c10b1 : ((t113.size : Int) != 1) = true := bne_iff_ne.mpr c10
              obtain rfl := Option.some.inj H
              go_enter Try.func108, Try.ntmps108
              go_wp2_with (first | ((with_reducible refine gate_callee (f := 128) rfl ?_); refine goesL_ (some 7) rfl rfl Try.func128 (by kernel_rfl) rfl #[.string a0, .string (⟨#[45]⟩ : ByteArray)] rfl (by (try simp only [List.map_toArray, List.map_cons, List.map_nil]); first | done | rfl | (simp only [List.length_drop, List.length_take]; rfl)) ?_; (with_reducible refine (strings_CutPrefix.calls a0 (⟨#[45]⟩ : ByteArray) t113 t114 _ A2.out).mono ?_); rintro e w' ⟨rfl, ⟨nd, rfl⟩⟩; refine ⟨_, rfl, ?_⟩) | (go_at_call 109; (with_reducible refine (term_every.calls k t113 2 true _ A5.out).mono ?_); rintro e w' ⟨rfl, ⟨nd, rfl⟩⟩; have p8 : 0 ≤ (0 : Int) := (by omega); have q8 : 0 < t113.size := (by have : (0 : Int) < (t113.size : Int) := of_decide_eq_true (by first | (with_reducible assumption) | assumption); omega); have hx8 : ∀ h : 0 < t113.size, ((t113[0]'h).toNat : Int) = bt t113 0 := bt_at t113 0; clear p8; have qi8 : (0 < (t113.size : Int)) = True := eq_true (of_decide_eq_true (by first | (with_reducible assumption) | assumption)); replace q8 := eq_true q8))
              go_ret
              exact ⟨by first | rfl | (simp; done) | (simp [*]; done), by repeat (first | exact Drawn0.refl _ | apply Drawn0.step)⟩
          · rw [if_neg c9] at H
            have c9b0 : ((bt t113 0) == 48) = false := beq_eq_false_iff_ne.mpr c9
            have c9b1 : ((bt t113 0) != 48) = true := bne_iff_ne.mpr c9
            obtain rfl := Option.some.inj H
            go_enter Try.func108, Try.ntmps108
            go_wp2_with (first | ((with_reducible refine gate_callee (f := 128) rfl ?_); refine goesL_ (some 7) rfl rfl Try.func128 (by kernel_rfl) rfl #[.string a0, .string (⟨#[45]⟩ : ByteArray)] rfl (by (try simp only [List.map_toArray, List.map_cons, List.map_nil]); first | done | rfl | (simp only [List.length_drop, List.length_take]; rfl)) ?_; (with_reducible refine (strings_CutPrefix.calls a0 (⟨#[45]⟩ : ByteArray) t113 t114 _ A2.out).mono ?_); rintro e w' ⟨rfl, ⟨nd, rfl⟩⟩; refine ⟨_, rfl, ?_⟩) | (go_at_call 109; (with_reducible refine (term_every.calls k t113 2 true _ A5.out).mono ?_); rintro e w' ⟨rfl, ⟨nd, rfl⟩⟩; have p8 : 0 ≤ (0 : Int) := (by omega); have q8 : 0 < t113.size := (by have : (0 : Int) < (t113.size : Int) := of_decide_eq_true (by first | (with_reducible assumption) | assumption); omega); have hx8 : ∀ h : 0 < t113.size, ((t113[0]'h).toNat : Int) = bt t113 0 := bt_at t113 0; clear p8; have qi8 : (0 < (t113.size : Int)) = True := eq_true (of_decide_eq_true (by first | (with_reducible assumption) | assumption)); replace q8 := eq_true q8))
            go_ret
            exact ⟨by first | rfl | (simp; done) | (simp [*]; done), by repeat (first | exact Drawn0.refl _ | apply Drawn0.step)⟩
        · rw [if_neg c7] at H
          exact absurd H (by simp)
      · replace c6 := Bool.eq_false_iff.mpr c6
        subst c6
        have H1 : (some false) = some r := by rw [if_neg (show ¬ (false = true) by decide)] at H; exact H
        clear H
        have H := H1
        clear H1
        obtain rfl := Option.some.inj H
        go_enter Try.func108, Try.ntmps108
        go_wp2_with (first | ((with_reducible refine gate_callee (f := 128) rfl ?_); refine goesL_ (some 7) rfl rfl Try.func128 (by kernel_rfl) rfl #[.string a0, .string (⟨#[45]⟩ : ByteArray)] rfl (by (try simp only [List.map_toArray, List.map_cons, List.map_nil]); first | done | rfl | (simp only [List.length_drop, List.length_take]; rfl)) ?_; (with_reducible refine (strings_CutPrefix.calls a0 (⟨#[45]⟩ : ByteArray) t113 t114 _ A2.out).mono ?_); rintro e w' ⟨rfl, ⟨nd, rfl⟩⟩; refine ⟨_, rfl, ?_⟩) | (go_at_call 109; (with_reducible refine (term_every.calls k t113 2 false _ A5.out).mono ?_); rintro e w' ⟨rfl, ⟨nd, rfl⟩⟩))
        go_ret
        exact ⟨by first | rfl | (simp; done) | (simp [*]; done), by repeat (first | exact Drawn0.refl _ | apply Drawn0.step)⟩

/-! ### term_right: function 75 -/
def term_right.f (k : Nat) (a0_0 : Int) (a0_1 : ByteArray) (l0_2 : List (S42)) : Option (Bool) := if a0_0 = 4 then (some (a0_1.toList == ([] : List UInt8))) else (if a0_0 = 8 then ((term_identifier.f k a0_1 40).bind fun t117 => (some t117)) else (if (l0_2.length : Int) > 0 then (some false) else (if a0_0 = 1 then (some ((a0_1.size : Int) == 1)) else (if a0_0 = 2 then (if a0_1.toList = ([] : List UInt8) then (some false) else (if (a0_1.size : Int) ≤ 60 then ((strings_ContainsFunc.f a0_1).bind fun t118 => (some (!t118))) else (some false))) else (if a0_0 = 3 then ((term_isNumber.f k a0_1).bind fun t119 => (some t119)) else (if a0_0 = 5 then (if a0_1.toList = ([] : List UInt8) then (some false) else (if (a0_1.size : Int) ≤ 40 then ((term_every.f k a0_1 3).bind fun t120 => (some t120)) else (some false))) else (if a0_0 = 6 then (if a0_1.toList = ([] : List UInt8) then (some false) else (if (a0_1.size : Int) ≤ 40 then ((term_every.f k a0_1 3).bind fun t121 => (some t121)) else (some false))) else (if a0_0 = 7 then (if a0_1.toList = ([] : List UInt8) then (some false) else (if (a0_1.size : Int) ≤ 40 then ((term_every.f k a0_1 3).bind fun t122 => (some t122)) else (some false))) else (some false)))))))))
theorem term_right.mono : ∀ a0 a1 a2 k, LeO (term_right.f k a0 a1 a2) (term_right.f (k + 1) a0 a1 a2) := by
  intro a0 a1 a2 k
  unfold term_right.f
  repeat' first
      | (with_reducible exact term_every.mono _ _ _)
      | (with_reducible exact term_identifier.mono _ _ _)
      | (with_reducible exact term_isNumber.mono _ _)
      | (with_reducible exact LeO.refl _)
      | (with_reducible exact LeO.none _)
      | (with_reducible refine LeO.ite ?_ ?_)
      | (with_reducible refine LeO.bind ?_ (fun _ => ?_))
      | exact term_every.mono _ _ _
      | exact term_identifier.mono _ _ _
      | exact term_isNumber.mono _ _
      | exact LeO.none _
      | refine LeO.ite ?_ ?_
      | refine LeO.bind ?_ (fun _ => ?_)
set_option maxHeartbeats 8000000 in
set_option maxRecDepth 100000 in
theorem term_right.calls (k : Nat) (a0_0 : Int) (a0_1 : ByteArray) (A0_2 : Option Addr) (c0_2 : Nat) (l0_2 : List (S42)) (r : Bool) (w : World) (hr0_2 : Kd.C k42 w A0_2 l0_2.length l0_2) (hc0_2 : l0_2.length ≤ c0_2) (h : term_right.f k a0_0 a0_1 l0_2 = some r) :
    Calls Try.prog 75 #[.agg #[.int .i64 a0_0, .string a0_1, .slice A0_2 l0_2.length c0_2]] w fun e w' => e = .returned (.bool r) ∧ Below w.heap.size w w' := by
  have hu42 := Try.underlying42
  have HR0_2 := Aside0.mk hr0_2
  have HC0_2 := Aside0.mk hc0_2
  clear hr0_2 hc0_2
  have HB := Aside0.mk (Below.refl w.heap.size w)
  have H : (if a0_0 = 4 then (some (a0_1.toList == ([] : List UInt8))) else (if a0_0 = 8 then ((term_identifier.f k a0_1 40).bind fun t117 => (some t117)) else (if (l0_2.length : Int) > 0 then (some false) else (if a0_0 = 1 then (some ((a0_1.size : Int) == 1)) else (if a0_0 = 2 then (if a0_1.toList = ([] : List UInt8) then (some false) else (if (a0_1.size : Int) ≤ 60 then ((strings_ContainsFunc.f a0_1).bind fun t118 => (some (!t118))) else (some false))) else (if a0_0 = 3 then ((term_isNumber.f k a0_1).bind fun t119 => (some t119)) else (if a0_0 = 5 then (if a0_1.toList = ([] : List UInt8) then (some false) else (if (a0_1.size : Int) ≤ 40 then ((term_every.f k a0_1 3).bind fun t120 => (some t120)) else (some false))) else (if a0_0 = 6 then (if a0_1.toList = ([] : List UInt8) then (some false) else (if (a0_1.size : Int) ≤ 40 then ((term_every.f k a0_1 3).bind fun t121 => (some t121)) else (some false))) else (if a0_0 = 7 then (if a0_1.toList = ([] : List UInt8) then (some false) else (if (a0_1.size : Int) ≤ 40 then ((term_every.f k a0_1 3).bind fun t122 => (some t122)) else (some false))) else (some false)))))))))) = some r := h
  clear h
  by_cases c2 : a0_0 = 4
  · rw [if_pos c2] at H
    have c2b0 : (a0_0 == 4) = true := beq_iff_eq.mpr c2
    have c2b1 : (a0_0 != 4) = false := bne_eq_false_iff_eq.mpr c2
    clear c2
    obtain rfl := Option.some.inj H
    go_enter Try.func75, Try.ntmps75
    go_wp2_with (first | ((with_reducible refine gate_dst (N := 1) rfl ?_); (try (refine gate_guard (by rfl) ?_; dsimp only)); refine box_event ?hg (N := 1) ?hd (cs := #[.int .i64 a0_0, .string a0_1, .slice A0_2 l0_2.length c0_2]) (t := 42) ?hr ?_; (case hd => rfl); (case hg => rfl); (case hr => first | (go_simp; done) | (go_simp; rfl)); intro gb116 hg w3 hbox hb; have n0_ := Aside0.mk (below_step (by repeat (first | (with_reducible first | exact HB.out | apply below_alloc | apply pw_below_drewN | apply below_drew1) | exact HB.out)) hb); have n1_ := Aside0.mk (hbox); have n2_ := Aside0.mk ((by rw [hg]; exact (below_size (by repeat (first | (with_reducible first | exact HB.out | apply below_alloc | apply pw_below_drewN | apply below_drew1) | exact HB.out))) : w.heap.size ≤ gb116)); have n3_ := Aside0.mk ((by rw [hg]; exact (below_size (by repeat (first | (with_reducible first | exact HB.out | apply below_alloc | apply pw_below_drewN | apply below_drew1) | exact HB.out))) : w.heap.size ≤ gb116)); clear HB; have HB := n0_; have BK116 := n1_; have GW116 := n2_; have GE116 := n3_; clear n0_ n1_ n2_ n3_; clear hb hbox hg; have hcz4_0 : w3.cell? ⟨gb116, 0, none⟩ = some (.int .i64 a0_0) := (blk_cell BK116.out 0).trans rfl; have hcz4_1 : w3.cell? ⟨gb116, 1, none⟩ = some (.string a0_1) := (blk_cell BK116.out 1).trans rfl; have hcz4_2 : w3.cell? ⟨gb116, 2, none⟩ = some (.slice A0_2 l0_2.length c0_2) := (blk_cell BK116.out 2).trans rfl; have hfz4_0 := blk_frozen BK116.out 0; have hfz4_1 := blk_frozen BK116.out 1; have hfz4_2 := blk_frozen BK116.out 2))
    go_ret
    exact ⟨by first | rfl | (simp [errW_none, errW_some] <;> rfl) | (simp [*, errW_none, errW_some] <;> rfl), by repeat (first | (with_reducible first | exact HB.out | apply below_alloc | apply pw_below_drewN | apply below_drew1 | refine below_set ?_ GE116.out) | exact HB.out)⟩
  · rw [if_neg c2] at H
    have c2b0 : (a0_0 == 4) = false := beq_eq_false_iff_ne.mpr c2
    have c2b1 : (a0_0 != 4) = true := bne_iff_ne.mpr c2
    by_cases c5 : a0_0 = 8
    · rw [if_pos c5] at H
      have c5b0 : (a0_0 == 8) = true := beq_iff_eq.mpr c5
      have c5b1 : (a0_0 != 8) = false := bne_eq_false_iff_eq.mpr c5
      clear c5
      replace H := Option.bind_eq_some_iff.mp H
      obtain ⟨t117, A60, H⟩ := H
      replace H : (some t117) = some r := H
      have A6 := Aside0.mk A60
      clear A60
      obtain rfl := Option.some.inj H
      go_enter Try.func75, Try.ntmps75
      go_wp2_with (first | ((with_reducible refine gate_dst (N := 1) rfl ?_); (try (refine gate_guard (by rfl) ?_; dsimp only)); refine box_event ?hg (N := 1) ?hd (cs := #[.int .i64 a0_0, .string a0_1, .slice A0_2 l0_2.length c0_2]) (t := 42) ?hr ?_; (case hd => rfl); (case hg => rfl); (case hr => first | (go_simp; done) | (go_simp; rfl)); intro gb116 hg w7 hbox hb; have n0_ := Aside0.mk (below_step (by repeat (first | (with_reducible first | exact HB.out | apply below_alloc | apply pw_below_drewN | apply below_drew1) | exact HB.out)) hb); have n1_ := Aside0.mk (hbox); have n2_ := Aside0.mk ((by rw [hg]; exact (below_size (by repeat (first | (with_reducible first | exact HB.out | apply below_alloc | apply pw_below_drewN | apply below_drew1) | exact HB.out))) : w.heap.size ≤ gb116)); have n3_ := Aside0.mk ((by rw [hg]; exact (below_size (by repeat (first | (with_reducible first | exact HB.out | apply below_alloc | apply pw_below_drewN | apply below_drew1) | exact HB.out))) : w.heap.size ≤ gb116)); clear HB; have HB := n0_; have BK116 := n1_; have GW116 := n2_; have GE116 := n3_; clear n0_ n1_ n2_ n3_; clear hb hbox hg; have hcz8_0 : w7.cell? ⟨gb116, 0, none⟩ = some (.int .i64 a0_0) := (blk_cell BK116.out 0).trans rfl; have hcz8_1 : w7.cell? ⟨gb116, 1, none⟩ = some (.string a0_1) := (blk_cell BK116.out 1).trans rfl; have hcz8_2 : w7.cell? ⟨gb116, 2, none⟩ = some (.slice A0_2 l0_2.length c0_2) := (blk_cell BK116.out 2).trans rfl; have hfz8_0 := blk_frozen BK116.out 0; have hfz8_1 := blk_frozen BK116.out 1; have hfz8_2 := blk_frozen BK116.out 2) | ((with_reducible refine gate_callee (f := 84) rfl ?_); refine goesL_ (some 14) rfl rfl Try.func84 (by kernel_rfl) rfl #[.string a0_1, .int .i64 40] rfl (by (try simp only [List.map_toArray, List.map_cons, List.map_nil]); first | done | rfl | (simp only [List.length_drop, List.length_take]; rfl)) ?_; (with_reducible refine (term_identifier.calls k a0_1 40 t117 _ A6.out).mono ?_); rintro e w' ⟨rfl, ⟨nd, rfl⟩⟩; refine ⟨_, rfl, ?_⟩))
      go_ret
      exact ⟨by first | rfl | (simp [errW_none, errW_some] <;> rfl) | (simp [*, errW_none, errW_some] <;> rfl), by repeat (first | (with_reducible first | exact HB.out | apply below_alloc | apply pw_below_drewN | apply below_drew1 | refine below_set ?_ GE116.out) | exact HB.out)⟩
    · rw [if_neg c5] at H
      have c5b0 : (a0_0 == 8) = false := beq_eq_false_iff_ne.mpr c5
      have c5b1 : (a0_0 != 8) = true := bne_iff_ne.mpr c5
      by_cases c9 : (l0_2.length : Int) > 0
      · rw [if_pos c9] at H
        have c9b0 : decide (0 < (l0_2.length : Int)) = true := decide_eq_true c9
        have c9b1 : decide (0 < l0_2.length) = true := decide_eq_true (by omega)
        clear c9
        obtain rfl := Option.some.inj H
        go_enter Try.func75, Try.ntmps75
        go_wp2_with (first | ((with_reducible refine gate_dst (N := 1) rfl ?_); (try (refine gate_guard (by rfl) ?_; dsimp only)); refine box_event ?hg (N := 1) ?hd (cs := #[.int .i64 a0_0, .string a0_1, .slice A0_2 l0_2.length c0_2]) (t := 42) ?hr ?_; (case hd => rfl); (case hg => rfl); (case hr => first | (go_simp; done) | (go_simp; rfl)); intro gb116 hg w10 hbox hb; have n0_ := Aside0.mk (below_step (by repeat (first | (with_reducible first | exact HB.out | apply below_alloc | apply pw_below_drewN | apply below_drew1) | exact HB.out)) hb); have n1_ := Aside0.mk (hbox); have n2_ := Aside0.mk ((by rw [hg]; exact (below_size (by repeat (first | (with_reducible first | exact HB.out | apply below_alloc | apply pw_below_drewN | apply below_drew1) | exact HB.out))) : w.heap.size ≤ gb116)); have n3_ := Aside0.mk ((by rw [hg]; exact (below_size (by repeat (first | (with_reducible first | exact HB.out | apply below_alloc | apply pw_below_drewN | apply below_drew1) | exact HB.out))) : w.heap.size ≤ gb116)); clear HB; have HB := n0_; have BK116 := n1_; have GW116 := n2_; have GE116 := n3_; clear n0_ n1_ n2_ n3_; clear hb hbox hg; have hcz11_0 : w10.cell? ⟨gb116, 0, none⟩ = some (.int .i64 a0_0) := (blk_cell BK116.out 0).trans rfl; have hcz11_1 : w10.cell? ⟨gb116, 1, none⟩ = some (.string a0_1) := (blk_cell BK116.out 1).trans rfl; have hcz11_2 : w10.cell? ⟨gb116, 2, none⟩ = some (.slice A0_2 l0_2.length c0_2) := (blk_cell BK116.out 2).trans rfl; have hfz11_0 := blk_frozen BK116.out 0; have hfz11_1 := blk_frozen BK116.out 1; have hfz11_2 := blk_frozen BK116.out 2))
        go_ret
        exact ⟨by first | rfl | (simp [errW_none, errW_some] <;> rfl) | (simp [*, errW_none, errW_some] <;> rfl), by repeat (first | (with_reducible first | exact HB.out | apply below_alloc | apply pw_below_drewN | apply below_drew1 | refine below_set ?_ GE116.out) | exact HB.out)⟩
      · rw [if_neg c9] at H
        have c9b0 : decide (0 < (l0_2.length : Int)) = false := decide_eq_false c9
        have c9b1 : decide (0 < l0_2.length) = false := decide_eq_false (by omega)
        clear c9
        by_cases c12 : a0_0 = 1
        · rw [if_pos c12] at H
          have c12b0 : (a0_0 == 1) = true := beq_iff_eq.mpr c12
          have c12b1 : (a0_0 != 1) = false := bne_eq_false_iff_eq.mpr c12
          clear c12
          obtain rfl := Option.some.inj H
          go_enter Try.func75, Try.ntmps75
          go_wp2_with (first | ((with_reducible refine gate_dst (N := 1) rfl ?_); (try (refine gate_guard (by rfl) ?_; dsimp only)); refine box_event ?hg (N := 1) ?hd (cs := #[.int .i64 a0_0, .string a0_1, .slice A0_2 l0_2.length c0_2]) (t := 42) ?hr ?_; (case hd => rfl); (case hg => rfl); (case hr => first | (go_simp; done) | (go_simp; rfl)); intro gb116 hg w13 hbox hb; have n0_ := Aside0.mk (below_step (by repeat (first | (with_reducible first | exact HB.out | apply below_alloc | apply pw_below_drewN | apply below_drew1) | exact HB.out)) hb); have n1_ := Aside0.mk (hbox); have n2_ := Aside0.mk ((by rw [hg]; exact (below_size (by repeat (first | (with_reducible first | exact HB.out | apply below_alloc | apply pw_below_drewN | apply below_drew1) | exact HB.out))) : w.heap.size ≤ gb116)); have n3_ := Aside0.mk ((by rw [hg]; exact (below_size (by repeat (first | (with_reducible first | exact HB.out | apply below_alloc | apply pw_below_drewN | apply below_drew1) | exact HB.out))) : w.heap.size ≤ gb116)); clear HB; have HB := n0_; have BK116 := n1_; have GW116 := n2_; have GE116 := n3_; clear n0_ n1_ n2_ n3_; clear hb hbox hg; have hcz14_0 : w13.cell? ⟨gb116, 0, none⟩ = some (.int .i64 a0_0) := (blk_cell BK116.out 0).trans rfl; have hcz14_1 : w13.cell? ⟨gb116, 1, none⟩ = some (.string a0_1) := (blk_cell BK116.out 1).trans rfl; have hcz14_2 : w13.cell? ⟨gb116, 2, none⟩ = some (.slice A0_2 l0_2.length c0_2) := (blk_cell BK116.out 2).trans rfl; have hfz14_0 := blk_frozen BK116.out 0; have hfz14_1 := blk_frozen BK116.out 1; have hfz14_2 := blk_frozen BK116.out 2))
          go_ret
          exact ⟨by first | rfl | (simp [errW_none, errW_some] <;> rfl) | (simp [*, errW_none, errW_some] <;> rfl), by repeat (first | (with_reducible first | exact HB.out | apply below_alloc | apply pw_below_drewN | apply below_drew1 | refine below_set ?_ GE116.out) | exact HB.out)⟩
        · rw [if_neg c12] at H
          have c12b0 : (a0_0 == 1) = false := beq_eq_false_iff_ne.mpr c12
          have c12b1 : (a0_0 != 1) = true := bne_iff_ne.mpr c12
          by_cases c15 : a0_0 = 2
          · rw [if_pos c15] at H
            have c15b0 : (a0_0 == 2) = true := beq_iff_eq.mpr c15
            have c15b1 : (a0_0 != 2) = false := bne_eq_false_iff_eq.mpr c15
            clear c15
            by_cases c16 : a0_1.toList = ([] : List UInt8)
            · rw [if_pos c16] at H
              have c16b0 : (a0_1.toList == ([] : List UInt8)) = true := beq_iff_eq.mpr c16
              have c16b1 : (a0_1.toList != ([] : List UInt8)) = false := bne_eq_false_iff_eq.mpr c16
              clear c16
              obtain rfl := Option.some.inj H
              go_enter Try.func75, Try.ntmps75
              go_wp2_with (first | ((with_reducible refine gate_dst (N := 1) rfl ?_); (try (refine gate_guard (by rfl) ?_; dsimp only)); refine box_event ?hg (N := 1) ?hd (cs := #[.int .i64 a0_0, .string a0_1, .slice A0_2 l0_2.length c0_2]) (t := 42) ?hr ?_; (case hd => rfl); (case hg => rfl); (case hr => first | (go_simp; done) | (go_simp; rfl)); intro gb116 hg w17 hbox hb; have n0_ := Aside0.mk (below_step (by repeat (first | (with_reducible first | exact HB.out | apply below_alloc | apply pw_below_drewN | apply below_drew1) | exact HB.out)) hb); have n1_ := Aside0.mk (hbox); have n2_ := Aside0.mk ((by rw [hg]; exact (below_size (by repeat (first | (with_reducible first | exact HB.out | apply below_alloc | apply pw_below_drewN | apply below_drew1) | exact HB.out))) : w.heap.size ≤ gb116)); have n3_ := Aside0.mk ((by rw [hg]; exact (below_size (by repeat (first | (with_reducible first | exact HB.out | apply below_alloc | apply pw_below_drewN | apply below_drew1) | exact HB.out))) : w.heap.size ≤ gb116)); clear HB; have HB := n0_; have BK116 := n1_; have GW116 := n2_; have GE116 := n3_; clear n0_ n1_ n2_ n3_; clear hb hbox hg; have hcz18_0 : w17.cell? ⟨gb116, 0, none⟩ = some (.int .i64 a0_0) := (blk_cell BK116.out 0).trans rfl; have hcz18_1 : w17.cell? ⟨gb116, 1, none⟩ = some (.string a0_1) := (blk_cell BK116.out 1).trans rfl; have hcz18_2 : w17.cell? ⟨gb116, 2, none⟩ = some (.slice A0_2 l0_2.length c0_2) := (blk_cell BK116.out 2).trans rfl; have hfz18_0 := blk_frozen BK116.out 0; have hfz18_1 := blk_frozen BK116.out 1; have hfz18_2 := blk_frozen BK116.out 2))
              go_ret
              exact ⟨by first | rfl | (simp [errW_none, errW_some] <;> rfl) | (simp [*, errW_none, errW_some] <;> rfl), by repeat (first | (with_reducible first | exact HB.out | apply below_alloc | apply pw_below_drewN | apply below_drew1 | refine below_set ?_ GE116.out) | exact HB.out)⟩
            · rw [if_neg c16] at H
              have c16b0 : (a0_1.toList == ([] : List UInt8)) = false := beq_eq_false_iff_ne.mpr c16
              have c16b1 : (a0_1.toList != ([] : List UInt8)) = true := bne_iff_ne.mpr c16
              by_cases c19 : (a0_1.size : Int) ≤ 60
              · rw [if_pos c19] at H
                have c19b0 : decide ((a0_1.size : Int) ≤ 60) = true := decide_eq_true c19
                have c19b1 : decide (a0_1.size ≤ 60) = true := decide_eq_true (by omega)
                clear c19
                replace H := Option.bind_eq_some_iff.mp H
                obtain ⟨t118, A200, H⟩ := H
                replace H : (some (!t118)) = some r := H
                have A20 := Aside0.mk A200
                clear A200
                obtain rfl := Option.some.inj H
                go_enter Try.func75, Try.ntmps75
                go_wp2_with (first | ((with_reducible refine gate_dst (N := 1) rfl ?_); (try (refine gate_guard (by rfl) ?_; dsimp only)); refine box_event ?hg (N := 1) ?hd (cs := #[.int .i64 a0_0, .string a0_1, .slice A0_2 l0_2.length c0_2]) (t := 42) ?hr ?_; (case hd => rfl); (case hg => rfl); (case hr => first | (go_simp; done) | (go_simp; rfl)); intro gb116 hg w21 hbox hb; have n0_ := Aside0.mk (below_step (by repeat (first | (with_reducible first | exact HB.out | apply below_alloc | apply pw_below_drewN | apply below_drew1) | exact HB.out)) hb); have n1_ := Aside0.mk (hbox); have n2_ := Aside0.mk ((by rw [hg]; exact (below_size (by repeat (first | (with_reducible first | exact HB.out | apply below_alloc | apply pw_below_drewN | apply below_drew1) | exact HB.out))) : w.heap.size ≤ gb116)); have n3_ := Aside0.mk ((by rw [hg]; exact (below_size (by repeat (first | (with_reducible first | exact HB.out | apply below_alloc | apply pw_below_drewN | apply below_drew1) | exact HB.out))) : w.heap.size ≤ gb116)); clear HB; have HB := n0_; have BK116 := n1_; have GW116 := n2_; have GE116 := n3_; clear n0_ n1_ n2_ n3_; clear hb hbox hg; have hcz22_0 : w21.cell? ⟨gb116, 0, none⟩ = some (.int .i64 a0_0) := (blk_cell BK116.out 0).trans rfl; have hcz22_1 : w21.cell? ⟨gb116, 1, none⟩ = some (.string a0_1) := (blk_cell BK116.out 1).trans rfl; have hcz22_2 : w21.cell? ⟨gb116, 2, none⟩ = some (.slice A0_2 l0_2.length c0_2) := (blk_cell BK116.out 2).trans rfl; have hfz22_0 := blk_frozen BK116.out 0; have hfz22_1 := blk_frozen BK116.out 1; have hfz22_2 := blk_frozen BK116.out 2) | (go_at_call 106; (with_reducible refine (strings_ContainsFunc.calls a0_1 t118 _ A20.out).mono ?_); rintro e w23 ⟨rfl, hb⟩; have n0_ := Aside0.mk (blk_below (g := gb116) (o := .cells #[.int .i64 a0_0, .string a0_1, .slice A0_2 l0_2.length c0_2] 42 (0, 0)) (by (with_reducible repeat (first | refine blk_drewN ?_ _ | refine blk_drew ?_ | refine blk_alloc ?_ _)); exact BK116.out) hb); have n1_ := Aside0.mk (below_step (by repeat (first | (with_reducible first | exact HB.out | apply below_alloc | apply pw_below_drewN | apply below_drew1 | refine below_set ?_ GE116.out) | exact HB.out)) hb); clear BK116; clear HB; have BK116 := n0_; have HB := n1_; clear n0_ n1_; (try clear hb); (try clear hb2); (try clear hk); (try clear hi)))
                go_ret
                exact ⟨by first | rfl | (simp [errW_none, errW_some] <;> rfl) | (simp [*, errW_none, errW_some] <;> rfl), by repeat (first | (with_reducible first | exact HB.out | apply below_alloc | apply pw_below_drewN | apply below_drew1 | refine below_set ?_ GE116.out) | exact HB.out)⟩
              · rw [if_neg c19] at H
                have c19b0 : decide ((a0_1.size : Int) ≤ 60) = false := decide_eq_false c19
                have c19b1 : decide (a0_1.size ≤ 60) = false := decide_eq_false (by omega)
                clear c19
                obtain rfl := Option.some.inj H
                go_enter Try.func75, Try.ntmps75
                go_wp2_with (first | ((with_reducible refine gate_dst (N := 1) rfl ?_); (try (refine gate_guard (by rfl) ?_; dsimp only)); refine box_event ?hg (N := 1) ?hd (cs := #[.int .i64 a0_0, .string a0_1, .slice A0_2 l0_2.length c0_2]) (t := 42) ?hr ?_; (case hd => rfl); (case hg => rfl); (case hr => first | (go_simp; done) | (go_simp; rfl)); intro gb116 hg w24 hbox hb; have n0_ := Aside0.mk (below_step (by repeat (first | (with_reducible first | exact HB.out | apply below_alloc | apply pw_below_drewN | apply below_drew1) | exact HB.out)) hb); have n1_ := Aside0.mk (hbox); have n2_ := Aside0.mk ((by rw [hg]; exact (below_size (by repeat (first | (with_reducible first | exact HB.out | apply below_alloc | apply pw_below_drewN | apply below_drew1) | exact HB.out))) : w.heap.size ≤ gb116)); have n3_ := Aside0.mk ((by rw [hg]; exact (below_size (by repeat (first | (with_reducible first | exact HB.out | apply below_alloc | apply pw_below_drewN | apply below_drew1) | exact HB.out))) : w.heap.size ≤ gb116)); clear HB; have HB := n0_; have BK116 := n1_; have GW116 := n2_; have GE116 := n3_; clear n0_ n1_ n2_ n3_; clear hb hbox hg; have hcz25_0 : w24.cell? ⟨gb116, 0, none⟩ = some (.int .i64 a0_0) := (blk_cell BK116.out 0).trans rfl; have hcz25_1 : w24.cell? ⟨gb116, 1, none⟩ = some (.string a0_1) := (blk_cell BK116.out 1).trans rfl; have hcz25_2 : w24.cell? ⟨gb116, 2, none⟩ = some (.slice A0_2 l0_2.length c0_2) := (blk_cell BK116.out 2).trans rfl; have hfz25_0 := blk_frozen BK116.out 0; have hfz25_1 := blk_frozen BK116.out 1; have hfz25_2 := blk_frozen BK116.out 2))
                go_ret
                exact ⟨by first | rfl | (simp [errW_none, errW_some] <;> rfl) | (simp [*, errW_none, errW_some] <;> rfl), by repeat (first | (with_reducible first | exact HB.out | apply below_alloc | apply pw_below_drewN | apply below_drew1 | refine below_set ?_ GE116.out) | exact HB.out)⟩
          · rw [if_neg c15] at H
            have c15b0 : (a0_0 == 2) = false := beq_eq_false_iff_ne.mpr c15
            have c15b1 : (a0_0 != 2) = true := bne_iff_ne.mpr c15
            by_cases c26 : a0_0 = 3
            · rw [if_pos c26] at H
              have c26b0 : (a0_0 == 3) = true := beq_iff_eq.mpr c26
              have c26b1 : (a0_0 != 3) = false := bne_eq_false_iff_eq.mpr c26
              clear c26
              replace H := Option.bind_eq_some_iff.mp H
              obtain ⟨t119, A270, H⟩ := H
              replace H : (some t119) = some r := H
              have A27 := Aside0.mk A270
              clear A270
              obtain rfl := Option.some.inj H
              go_enter Try.func75, Try.ntmps75
              go_wp2_with (first | ((with_reducible refine gate_dst (N := 1) rfl ?_); (try (refine gate_guard (by rfl) ?_; dsimp only)); refine box_event ?hg (N := 1) ?hd (cs := #[.int .i64 a0_0, .string a0_1, .slice A0_2 l0_2.length c0_2]) (t := 42) ?hr ?_; (case hd => rfl); (case hg => rfl); (case hr => first | (go_simp; done) | (go_simp; rfl)); intro gb116 hg w28 hbox hb; have n0_ := Aside0.mk (below_step (by repeat (first | (with_reducible first | exact HB.out | apply below_alloc | apply pw_below_drewN | apply below_drew1) | exact HB.out)) hb); have n1_ := Aside0.mk (hbox); have n2_ := Aside0.mk ((by rw [hg]; exact (below_size (by repeat (first | (with_reducible first | exact HB.out | apply below_alloc | apply pw_below_drewN | apply below_drew1) | exact HB.out))) : w.heap.size ≤ gb116)); have n3_ := Aside0.mk ((by rw [hg]; exact (below_size (by repeat (first | (with_reducible first | exact HB.out | apply below_alloc | apply pw_below_drewN | apply below_drew1) | exact HB.out))) : w.heap.size ≤ gb116)); clear HB; have HB := n0_; have BK116 := n1_; have GW116 := n2_; have GE116 := n3_; clear n0_ n1_ n2_ n3_; clear hb hbox hg; have hcz29_0 : w28.cell? ⟨gb116, 0, none⟩ = some (.int .i64 a0_0) := (blk_cell BK116.out 0).trans rfl; have hcz29_1 : w28.cell? ⟨gb116, 1, none⟩ = some (.string a0_1) := (blk_cell BK116.out 1).trans rfl; have hcz29_2 : w28.cell? ⟨gb116, 2, none⟩ = some (.slice A0_2 l0_2.length c0_2) := (blk_cell BK116.out 2).trans rfl; have hfz29_0 := blk_frozen BK116.out 0; have hfz29_1 := blk_frozen BK116.out 1; have hfz29_2 := blk_frozen BK116.out 2) | ((with_reducible refine gate_callee (f := 108) rfl ?_); refine goesL_ (some 48) rfl rfl Try.func108 (by kernel_rfl) rfl #[.string a0_1] rfl (by (try simp only [List.map_toArray, List.map_cons, List.map_nil]); first | done | rfl | (simp only [List.length_drop, List.length_take]; rfl)) ?_; (with_reducible refine (term_isNumber.calls k a0_1 t119 _ A27.out).mono ?_); rintro e w' ⟨rfl, ⟨nd, rfl⟩⟩; refine ⟨_, rfl, ?_⟩))
              go_ret
              exact ⟨by first | rfl | (simp [errW_none, errW_some] <;> rfl) | (simp [*, errW_none, errW_some] <;> rfl), by repeat (first | (with_reducible first | exact HB.out | apply below_alloc | apply pw_below_drewN | apply below_drew1 | refine below_set ?_ GE116.out) | exact HB.out)⟩
            · rw [if_neg c26] at H
              have c26b0 : (a0_0 == 3) = false := beq_eq_false_iff_ne.mpr c26
              have c26b1 : (a0_0 != 3) = true := bne_iff_ne.mpr c26
              by_cases c30 : a0_0 = 5
              · rw [if_pos c30] at H
                have c30b0 : (a0_0 == 5) = true := beq_iff_eq.mpr c30
                have c30b1 : (a0_0 != 5) = false := bne_eq_false_iff_eq.mpr c30
                clear c30
                by_cases c31 : a0_1.toList = ([] : List UInt8)
                · rw [if_pos c31] at H
                  have c31b0 : (a0_1.toList == ([] : List UInt8)) = true := beq_iff_eq.mpr c31
                  have c31b1 : (a0_1.toList != ([] : List UInt8)) = false := bne_eq_false_iff_eq.mpr c31
                  clear c31
                  obtain rfl := Option.some.inj H
                  go_enter Try.func75, Try.ntmps75
                  go_wp2_with (first | ((with_reducible refine gate_dst (N := 1) rfl ?_); (try (refine gate_guard (by rfl) ?_; dsimp only)); refine box_event ?hg (N := 1) ?hd (cs := #[.int .i64 a0_0, .string a0_1, .slice A0_2 l0_2.length c0_2]) (t := 42) ?hr ?_; (case hd => rfl); (case hg => rfl); (case hr => first | (go_simp; done) | (go_simp; rfl)); intro gb116 hg w32 hbox hb; have n0_ := Aside0.mk (below_step (by repeat (first | (with_reducible first | exact HB.out | apply below_alloc | apply pw_below_drewN | apply below_drew1) | exact HB.out)) hb); have n1_ := Aside0.mk (hbox); have n2_ := Aside0.mk ((by rw [hg]; exact (below_size (by repeat (first | (with_reducible first | exact HB.out | apply below_alloc | apply pw_below_drewN | apply below_drew1) | exact HB.out))) : w.heap.size ≤ gb116)); have n3_ := Aside0.mk ((by rw [hg]; exact (below_size (by repeat (first | (with_reducible first | exact HB.out | apply below_alloc | apply pw_below_drewN | apply below_drew1) | exact HB.out))) : w.heap.size ≤ gb116)); clear HB; have HB := n0_; have BK116 := n1_; have GW116 := n2_; have GE116 := n3_; clear n0_ n1_ n2_ n3_; clear hb hbox hg; have hcz33_0 : w32.cell? ⟨gb116, 0, none⟩ = some (.int .i64 a0_0) := (blk_cell BK116.out 0).trans rfl; have hcz33_1 : w32.cell? ⟨gb116, 1, none⟩ = some (.string a0_1) := (blk_cell BK116.out 1).trans rfl; have hcz33_2 : w32.cell? ⟨gb116, 2, none⟩ = some (.slice A0_2 l0_2.length c0_2) := (blk_cell BK116.out 2).trans rfl; have hfz33_0 := blk_frozen BK116.out 0; have hfz33_1 := blk_frozen BK116.out 1; have hfz33_2 := blk_frozen BK116.out 2))
                  go_ret
                  exact ⟨by first | rfl | (simp [errW_none, errW_some] <;> rfl) | (simp [*, errW_none, errW_some] <;> rfl), by repeat (first | (with_reducible first | exact HB.out | apply below_alloc | apply pw_below_drewN | apply below_drew1 | refine below_set ?_ GE116.out) | exact HB.out)⟩
                · rw [if_neg c31] at H
                  have c31b0 : (a0_1.toList == ([] : List UInt8)) = false := beq_eq_false_iff_ne.mpr c31
                  have c31b1 : (a0_1.toList != ([] : List UInt8)) = true := bne_iff_ne.mpr c31
                  by_cases c34 : (a0_1.size : Int) ≤ 40
                  · rw [if_pos c34] at H
                    have c34b0 : decide ((a0_1.size : Int) ≤ 40) = true := decide_eq_true c34
                    have c34b1 : decide (a0_1.size ≤ 40) = true := decide_eq_true (by omega)
                    clear c34
                    replace H := Option.bind_eq_some_iff.mp H
                    obtain ⟨t120, A350, H⟩ := H
                    replace H : (some t120) = some r := H
                    have A35 := Aside0.mk A350
                    clear A350
                    obtain rfl := Option.some.inj H
                    go_enter Try.func75, Try.ntmps75
                    go_wp2_with (first | ((with_reducible refine gate_dst (N := 1) rfl ?_); (try (refine gate_guard (by rfl) ?_; dsimp only)); refine box_event ?hg (N := 1) ?hd (cs := #[.int .i64 a0_0, .string a0_1, .slice A0_2 l0_2.length c0_2]) (t := 42) ?hr ?_; (case hd => rfl); (case hg => rfl); (case hr => first | (go_simp; done) | (go_simp; rfl)); intro gb116 hg w36 hbox hb; have n0_ := Aside0.mk (below_step (by repeat (first | (with_reducible first | exact HB.out | apply below_alloc | apply pw_below_drewN | apply below_drew1) | exact HB.out)) hb); have n1_ := Aside0.mk (hbox); have n2_ := Aside0.mk ((by rw [hg]; exact (below_size (by repeat (first | (with_reducible first | exact HB.out | apply below_alloc | apply pw_below_drewN | apply below_drew1) | exact HB.out))) : w.heap.size ≤ gb116)); have n3_ := Aside0.mk ((by rw [hg]; exact (below_size (by repeat (first | (with_reducible first | exact HB.out | apply below_alloc | apply pw_below_drewN | apply below_drew1) | exact HB.out))) : w.heap.size ≤ gb116)); clear HB; have HB := n0_; have BK116 := n1_; have GW116 := n2_; have GE116 := n3_; clear n0_ n1_ n2_ n3_; clear hb hbox hg; have hcz37_0 : w36.cell? ⟨gb116, 0, none⟩ = some (.int .i64 a0_0) := (blk_cell BK116.out 0).trans rfl; have hcz37_1 : w36.cell? ⟨gb116, 1, none⟩ = some (.string a0_1) := (blk_cell BK116.out 1).trans rfl; have hcz37_2 : w36.cell? ⟨gb116, 2, none⟩ = some (.slice A0_2 l0_2.length c0_2) := (blk_cell BK116.out 2).trans rfl; have hfz37_0 := blk_frozen BK116.out 0; have hfz37_1 := blk_frozen BK116.out 1; have hfz37_2 := blk_frozen BK116.out 2) | (go_at_call 109; (with_reducible refine (term_every.calls k a0_1 3 t120 _ A35.out).mono ?_); rintro e w' ⟨rfl, ⟨nd, rfl⟩⟩))
                    go_ret
                    exact ⟨by first | rfl | (simp [errW_none, errW_some] <;> rfl) | (simp [*, errW_none, errW_some] <;> rfl), by repeat (first | (with_reducible first | exact HB.out | apply below_alloc | apply pw_below_drewN | apply below_drew1 | refine below_set ?_ GE116.out) | exact HB.out)⟩
                  · rw [if_neg c34] at H
                    have c34b0 : decide ((a0_1.size : Int) ≤ 40) = false := decide_eq_false c34
                    have c34b1 : decide (a0_1.size ≤ 40) = false := decide_eq_false (by omega)
                    clear c34
                    obtain rfl := Option.some.inj H
                    go_enter Try.func75, Try.ntmps75
                    go_wp2_with (first | ((with_reducible refine gate_dst (N := 1) rfl ?_); (try (refine gate_guard (by rfl) ?_; dsimp only)); refine box_event ?hg (N := 1) ?hd (cs := #[.int .i64 a0_0, .string a0_1, .slice A0_2 l0_2.length c0_2]) (t := 42) ?hr ?_; (case hd => rfl); (case hg => rfl); (case hr => first | (go_simp; done) | (go_simp; rfl)); intro gb116 hg w38 hbox hb; have n0_ := Aside0.mk (below_step (by repeat (first | (with_reducible first | exact HB.out | apply below_alloc | apply pw_below_drewN | apply below_drew1) | exact HB.out)) hb); have n1_ := Aside0.mk (hbox); have n2_ := Aside0.mk ((by rw [hg]; exact (below_size (by repeat (first | (with_reducible first | exact HB.out | apply below_alloc | apply pw_below_drewN | apply below_drew1) | exact HB.out))) : w.heap.size ≤ gb116)); have n3_ := Aside0.mk ((by rw [hg]; exact (below_size (by repeat (first | (with_reducible first | exact HB.out | apply below_alloc | apply pw_below_drewN | apply below_drew1) | exact HB.out))) : w.heap.size ≤ gb116)); clear HB; have HB := n0_; have BK116 := n1_; have GW116 := n2_; have GE116 := n3_; clear n0_ n1_ n2_ n3_; clear hb hbox hg; have hcz39_0 : w38.cell? ⟨gb116, 0, none⟩ = some (.int .i64 a0_0) := (blk_cell BK116.out 0).trans rfl; have hcz39_1 : w38.cell? ⟨gb116, 1, none⟩ = some (.string a0_1) := (blk_cell BK116.out 1).trans rfl; have hcz39_2 : w38.cell? ⟨gb116, 2, none⟩ = some (.slice A0_2 l0_2.length c0_2) := (blk_cell BK116.out 2).trans rfl; have hfz39_0 := blk_frozen BK116.out 0; have hfz39_1 := blk_frozen BK116.out 1; have hfz39_2 := blk_frozen BK116.out 2))
                    go_ret
                    exact ⟨by first | rfl | (simp [errW_none, errW_some] <;> rfl) | (simp [*, errW_none, errW_some] <;> rfl), by repeat (first | (with_reducible first | exact HB.out | apply below_alloc | apply pw_below_drewN | apply below_drew1 | refine below_set ?_ GE116.out) | exact HB.out)⟩
              · rw [if_neg c30] at H
                have c30b0 : (a0_0 == 5) = false := beq_eq_false_iff_ne.mpr c30
                have c30b1 : (a0_0 != 5) = true := bne_iff_ne.mpr c30
                by_cases c40 : a0_0 = 6
                · rw [if_pos c40] at H
                  have c40b0 : (a0_0 == 6) = true := beq_iff_eq.mpr c40
                  have c40b1 : (a0_0 != 6) = false := bne_eq_false_iff_eq.mpr c40
                  clear c40
                  by_cases c41 : a0_1.toList = ([] : List UInt8)
                  · rw [if_pos c41] at H
                    have c41b0 : (a0_1.toList == ([] : List UInt8)) = true := beq_iff_eq.mpr c41
                    have c41b1 : (a0_1.toList != ([] : List UInt8)) = false := bne_eq_false_iff_eq.mpr c41
                    clear c41
                    obtain rfl := Option.some.inj H
                    go_enter Try.func75, Try.ntmps75
                    go_wp2_with (first | ((with_reducible refine gate_dst (N := 1) rfl ?_); (try (refine gate_guard (by rfl) ?_; dsimp only)); refine box_event ?hg (N := 1) ?hd (cs := #[.int .i64 a0_0, .string a0_1, .slice A0_2 l0_2.length c0_2]) (t := 42) ?hr ?_; (case hd => rfl); (case hg => rfl); (case hr => first | (go_simp; done) | (go_simp; rfl)); intro gb116 hg w42 hbox hb; have n0_ := Aside0.mk (below_step (by repeat (first | (with_reducible first | exact HB.out | apply below_alloc | apply pw_below_drewN | apply below_drew1) | exact HB.out)) hb); have n1_ := Aside0.mk (hbox); have n2_ := Aside0.mk ((by rw [hg]; exact (below_size (by repeat (first | (with_reducible first | exact HB.out | apply below_alloc | apply pw_below_drewN | apply below_drew1) | exact HB.out))) : w.heap.size ≤ gb116)); have n3_ := Aside0.mk ((by rw [hg]; exact (below_size (by repeat (first | (with_reducible first | exact HB.out | apply below_alloc | apply pw_below_drewN | apply below_drew1) | exact HB.out))) : w.heap.size ≤ gb116)); clear HB; have HB := n0_; have BK116 := n1_; have GW116 := n2_; have GE116 := n3_; clear n0_ n1_ n2_ n3_; clear hb hbox hg; have hcz43_0 : w42.cell? ⟨gb116, 0, none⟩ = some (.int .i64 a0_0) := (blk_cell BK116.out 0).trans rfl; have hcz43_1 : w42.cell? ⟨gb116, 1, none⟩ = some (.string a0_1) := (blk_cell BK116.out 1).trans rfl; have hcz43_2 : w42.cell? ⟨gb116, 2, none⟩ = some (.slice A0_2 l0_2.length c0_2) := (blk_cell BK116.out 2).trans rfl; have hfz43_0 := blk_frozen BK116.out 0; have hfz43_1 := blk_frozen BK116.out 1; have hfz43_2 := blk_frozen BK116.out 2))
                    go_ret
                    exact ⟨by first | rfl | (simp [errW_none, errW_some] <;> rfl) | (simp [*, errW_none, errW_some] <;> rfl), by repeat (first | (with_reducible first | exact HB.out | apply below_alloc | apply pw_below_drewN | apply below_drew1 | refine below_set ?_ GE116.out) | exact HB.out)⟩
                  · rw [if_neg c41] at H
                    have c41b0 : (a0_1.toList == ([] : List UInt8)) = false := beq_eq_false_iff_ne.mpr c41
                    have c41b1 : (a0_1.toList != ([] : List UInt8)) = true := bne_iff_ne.mpr c41
                    by_cases c44 : (a0_1.size : Int) ≤ 40
                    · rw [if_pos c44] at H
                      have c44b0 : decide ((a0_1.size : Int) ≤ 40) = true := decide_eq_true c44
                      have c44b1 : decide (a0_1.size ≤ 40) = true := decide_eq_true (by omega)
                      clear c44
                      replace H := Option.bind_eq_some_iff.mp H
                      obtain ⟨t121, A450, H⟩ := H
                      replace H : (some t121) = some r := H
                      have A45 := Aside0.mk A450
                      clear A450
                      obtain rfl := Option.some.inj H
                      go_enter Try.func75, Try.ntmps75
                      go_wp2_with (first | ((with_reducible refine gate_dst (N := 1) rfl ?_); (try (refine gate_guard (by rfl) ?_; dsimp only)); refine box_event ?hg (N := 1) ?hd (cs := #[.int .i64 a0_0, .string a0_1, .slice A0_2 l0_2.length c0_2]) (t := 42) ?hr ?_; (case hd => rfl); (case hg => rfl); (case hr => first | (go_simp; done) | (go_simp; rfl)); intro gb116 hg w46 hbox hb; have n0_ := Aside0.mk (below_step (by repeat (first | (with_reducible first | exact HB.out | apply below_alloc | apply pw_below_drewN | apply below_drew1) | exact HB.out)) hb); have n1_ := Aside0.mk (hbox); have n2_ := Aside0.mk ((by rw [hg]; exact (below_size (by repeat (first | (with_reducible first | exact HB.out | apply below_alloc | apply pw_below_drewN | apply below_drew1) | exact HB.out))) : w.heap.size ≤ gb116)); have n3_ := Aside0.mk ((by rw [hg]; exact (below_size (by repeat (first | (with_reducible first | exact HB.out | apply below_alloc | apply pw_below_drewN | apply below_drew1) | exact HB.out))) : w.heap.size ≤ gb116)); clear HB; have HB := n0_; have BK116 := n1_; have GW116 := n2_; have GE116 := n3_; clear n0_ n1_ n2_ n3_; clear hb hbox hg; have hcz47_0 : w46.cell? ⟨gb116, 0, none⟩ = some (.int .i64 a0_0) := (blk_cell BK116.out 0).trans rfl; have hcz47_1 : w46.cell? ⟨gb116, 1, none⟩ = some (.string a0_1) := (blk_cell BK116.out 1).trans rfl; have hcz47_2 : w46.cell? ⟨gb116, 2, none⟩ = some (.slice A0_2 l0_2.length c0_2) := (blk_cell BK116.out 2).trans rfl; have hfz47_0 := blk_frozen BK116.out 0; have hfz47_1 := blk_frozen BK116.out 1; have hfz47_2 := blk_frozen BK116.out 2) | (go_at_call 109; (with_reducible refine (term_every.calls k a0_1 3 t121 _ A45.out).mono ?_); rintro e w' ⟨rfl, ⟨nd, rfl⟩⟩))
                      go_ret
                      exact ⟨by first | rfl | (simp [errW_none, errW_some] <;> rfl) | (simp [*, errW_none, errW_some] <;> rfl), by repeat (first | (with_reducible first | exact HB.out | apply below_alloc | apply pw_below_drewN | apply below_drew1 | refine below_set ?_ GE116.out) | exact HB.out)⟩
                    · rw [if_neg c44] at H
                      have c44b0 : decide ((a0_1.size : Int) ≤ 40) = false := decide_eq_false c44
                      have c44b1 : decide (a0_1.size ≤ 40) = false := decide_eq_false (by omega)
                      clear c44
                      obtain rfl := Option.some.inj H
                      go_enter Try.func75, Try.ntmps75
                      go_wp2_with (first | ((with_reducible refine gate_dst (N := 1) rfl ?_); (try (refine gate_guard (by rfl) ?_; dsimp only)); refine box_event ?hg (N := 1) ?hd (cs := #[.int .i64 a0_0, .string a0_1, .slice A0_2 l0_2.length c0_2]) (t := 42) ?hr ?_; (case hd => rfl); (case hg => rfl); (case hr => first | (go_simp; done) | (go_simp; rfl)); intro gb116 hg w48 hbox hb; have n0_ := Aside0.mk (below_step (by repeat (first | (with_reducible first | exact HB.out | apply below_alloc | apply pw_below_drewN | apply below_drew1) | exact HB.out)) hb); have n1_ := Aside0.mk (hbox); have n2_ := Aside0.mk ((by rw [hg]; exact (below_size (by repeat (first | (with_reducible first | exact HB.out | apply below_alloc | apply pw_below_drewN | apply below_drew1) | exact HB.out))) : w.heap.size ≤ gb116)); have n3_ := Aside0.mk ((by rw [hg]; exact (below_size (by repeat (first | (with_reducible first | exact HB.out | apply below_alloc | apply pw_below_drewN | apply below_drew1) | exact HB.out))) : w.heap.size ≤ gb116)); clear HB; have HB := n0_; have BK116 := n1_; have GW116 := n2_; have GE116 := n3_; clear n0_ n1_ n2_ n3_; clear hb hbox hg; have hcz49_0 : w48.cell? ⟨gb116, 0, none⟩ = some (.int .i64 a0_0) := (blk_cell BK116.out 0).trans rfl; have hcz49_1 : w48.cell? ⟨gb116, 1, none⟩ = some (.string a0_1) := (blk_cell BK116.out 1).trans rfl; have hcz49_2 : w48.cell? ⟨gb116, 2, none⟩ = some (.slice A0_2 l0_2.length c0_2) := (blk_cell BK116.out 2).trans rfl; have hfz49_0 := blk_frozen BK116.out 0; have hfz49_1 := blk_frozen BK116.out 1; have hfz49_2 := blk_frozen BK116.out 2))
                      go_ret
                      exact ⟨by first | rfl | (simp [errW_none, errW_some] <;> rfl) | (simp [*, errW_none, errW_some] <;> rfl), by repeat (first | (with_reducible first | exact HB.out | apply below_alloc | apply pw_below_drewN | apply below_drew1 | refine below_set ?_ GE116.out) | exact HB.out)⟩
                · rw [if_neg c40] at H
                  have c40b0 : (a0_0 == 6) = false := beq_eq_false_iff_ne.mpr c40
                  have c40b1 : (a0_0 != 6) = true := bne_iff_ne.mpr c40
                  by_cases c50 : a0_0 = 7
                  · rw [if_pos c50] at H
                    have c50b0 : (a0_0 == 7) = true := beq_iff_eq.mpr c50
                    have c50b1 : (a0_0 != 7) = false := bne_eq_false_iff_eq.mpr c50
                    clear c50
                    by_cases c51 : a0_1.toList = ([] : List UInt8)
                    · rw [if_pos c51] at H
                      have c51b0 : (a0_1.toList == ([] : List UInt8)) = true := beq_iff_eq.mpr c51
                      have c51b1 : (a0_1.toList != ([] : List UInt8)) = false := bne_eq_false_iff_eq.mpr c51
                      clear c51
                      obtain rfl := Option.some.inj H
                      go_enter Try.func75, Try.ntmps75
                      go_wp2_with (first | ((with_reducible refine gate_dst (N := 1) rfl ?_); (try (refine gate_guard (by rfl) ?_; dsimp only)); refine box_event ?hg (N := 1) ?hd (cs := #[.int .i64 a0_0, .string a0_1, .slice A0_2 l0_2.length c0_2]) (t := 42) ?hr ?_; (case hd => rfl); (case hg => rfl); (case hr => first | (go_simp; done) | (go_simp; rfl)); intro gb116 hg w52 hbox hb; have n0_ := Aside0.mk (below_step (by repeat (first | (with_reducible first | exact HB.out | apply below_alloc | apply pw_below_drewN | apply below_drew1) | exact HB.out)) hb); have n1_ := Aside0.mk (hbox); have n2_ := Aside0.mk ((by rw [hg]; exact (below_size (by repeat (first | (with_reducible first | exact HB.out | apply below_alloc | apply pw_below_drewN | apply below_drew1) | exact HB.out))) : w.heap.size ≤ gb116)); have n3_ := Aside0.mk ((by rw [hg]; exact (below_size (by repeat (first | (with_reducible first | exact HB.out | apply below_alloc | apply pw_below_drewN | apply below_drew1) | exact HB.out))) : w.heap.size ≤ gb116)); clear HB; have HB := n0_; have BK116 := n1_; have GW116 := n2_; have GE116 := n3_; clear n0_ n1_ n2_ n3_; clear hb hbox hg; have hcz53_0 : w52.cell? ⟨gb116, 0, none⟩ = some (.int .i64 a0_0) := (blk_cell BK116.out 0).trans rfl; have hcz53_1 : w52.cell? ⟨gb116, 1, none⟩ = some (.string a0_1) := (blk_cell BK116.out 1).trans rfl; have hcz53_2 : w52.cell? ⟨gb116, 2, none⟩ = some (.slice A0_2 l0_2.length c0_2) := (blk_cell BK116.out 2).trans rfl; have hfz53_0 := blk_frozen BK116.out 0; have hfz53_1 := blk_frozen BK116.out 1; have hfz53_2 := blk_frozen BK116.out 2))
                      go_ret
                      exact ⟨by first | rfl | (simp [errW_none, errW_some] <;> rfl) | (simp [*, errW_none, errW_some] <;> rfl), by repeat (first | (with_reducible first | exact HB.out | apply below_alloc | apply pw_below_drewN | apply below_drew1 | refine below_set ?_ GE116.out) | exact HB.out)⟩
                    · rw [if_neg c51] at H
                      have c51b0 : (a0_1.toList == ([] : List UInt8)) = false := beq_eq_false_iff_ne.mpr c51
                      have c51b1 : (a0_1.toList != ([] : List UInt8)) = true := bne_iff_ne.mpr c51
                      by_cases c54 : (a0_1.size : Int) ≤ 40
                      · rw [if_pos c54] at H
                        have c54b0 : decide ((a0_1.size : Int) ≤ 40) = true := decide_eq_true c54
                        have c54b1 : decide (a0_1.size ≤ 40) = true := decide_eq_true (by omega)
                        clear c54
                        replace H := Option.bind_eq_some_iff.mp H
                        obtain ⟨t122, A550, H⟩ := H
                        replace H : (some t122) = some r := H
                        have A55 := Aside0.mk A550
                        clear A550
                        obtain rfl := Option.some.inj H
                        go_enter Try.func75, Try.ntmps75
                        go_wp2_with (first | ((with_reducible refine gate_dst (N := 1) rfl ?_); (try (refine gate_guard (by rfl) ?_; dsimp only)); refine box_event ?hg (N := 1) ?hd (cs := #[.int .i64 a0_0, .string a0_1, .slice A0_2 l0_2.length c0_2]) (t := 42) ?hr ?_; (case hd => rfl); (case hg => rfl); (case hr => first | (go_simp; done) | (go_simp; rfl)); intro gb116 hg w56 hbox hb; have n0_ := Aside0.mk (below_step (by repeat (first | (with_reducible first | exact HB.out | apply below_alloc | apply pw_below_drewN | apply below_drew1) | exact HB.out)) hb); have n1_ := Aside0.mk (hbox); have n2_ := Aside0.mk ((by rw [hg]; exact (below_size (by repeat (first | (with_reducible first | exact HB.out | apply below_alloc | apply pw_below_drewN | apply below_drew1) | exact HB.out))) : w.heap.size ≤ gb116)); have n3_ := Aside0.mk ((by rw [hg]; exact (below_size (by repeat (first | (with_reducible first | exact HB.out | apply below_alloc | apply pw_below_drewN | apply below_drew1) | exact HB.out))) : w.heap.size ≤ gb116)); clear HB; have HB := n0_; have BK116 := n1_; have GW116 := n2_; have GE116 := n3_; clear n0_ n1_ n2_ n3_; clear hb hbox hg; have hcz57_0 : w56.cell? ⟨gb116, 0, none⟩ = some (.int .i64 a0_0) := (blk_cell BK116.out 0).trans rfl; have hcz57_1 : w56.cell? ⟨gb116, 1, none⟩ = some (.string a0_1) := (blk_cell BK116.out 1).trans rfl; have hcz57_2 : w56.cell? ⟨gb116, 2, none⟩ = some (.slice A0_2 l0_2.length c0_2) := (blk_cell BK116.out 2).trans rfl; have hfz57_0 := blk_frozen BK116.out 0; have hfz57_1 := blk_frozen BK116.out 1; have hfz57_2 := blk_frozen BK116.out 2) | (go_at_call 109; (with_reducible refine (term_every.calls k a0_1 3 t122 _ A55.out).mono ?_); rintro e w' ⟨rfl, ⟨nd, rfl⟩⟩))
                        go_ret
                        exact ⟨by first | rfl | (simp [errW_none, errW_some] <;> rfl) | (simp [*, errW_none, errW_some] <;> rfl), by repeat (first | (with_reducible first | exact HB.out | apply below_alloc | apply pw_below_drewN | apply below_drew1 | refine below_set ?_ GE116.out) | exact HB.out)⟩
                      · rw [if_neg c54] at H
                        have c54b0 : decide ((a0_1.size : Int) ≤ 40) = false := decide_eq_false c54
                        have c54b1 : decide (a0_1.size ≤ 40) = false := decide_eq_false (by omega)
                        clear c54
                        obtain rfl := Option.some.inj H
                        go_enter Try.func75, Try.ntmps75
                        go_wp2_with (first | ((with_reducible refine gate_dst (N := 1) rfl ?_); (try (refine gate_guard (by rfl) ?_; dsimp only)); refine box_event ?hg (N := 1) ?hd (cs := #[.int .i64 a0_0, .string a0_1, .slice A0_2 l0_2.length c0_2]) (t := 42) ?hr ?_; (case hd => rfl); (case hg => rfl); (case hr => first | (go_simp; done) | (go_simp; rfl)); intro gb116 hg w58 hbox hb; have n0_ := Aside0.mk (below_step (by repeat (first | (with_reducible first | exact HB.out | apply below_alloc | apply pw_below_drewN | apply below_drew1) | exact HB.out)) hb); have n1_ := Aside0.mk (hbox); have n2_ := Aside0.mk ((by rw [hg]; exact (below_size (by repeat (first | (with_reducible first | exact HB.out | apply below_alloc | apply pw_below_drewN | apply below_drew1) | exact HB.out))) : w.heap.size ≤ gb116)); have n3_ := Aside0.mk ((by rw [hg]; exact (below_size (by repeat (first | (with_reducible first | exact HB.out | apply below_alloc | apply pw_below_drewN | apply below_drew1) | exact HB.out))) : w.heap.size ≤ gb116)); clear HB; have HB := n0_; have BK116 := n1_; have GW116 := n2_; have GE116 := n3_; clear n0_ n1_ n2_ n3_; clear hb hbox hg; have hcz59_0 : w58.cell? ⟨gb116, 0, none⟩ = some (.int .i64 a0_0) := (blk_cell BK116.out 0).trans rfl; have hcz59_1 : w58.cell? ⟨gb116, 1, none⟩ = some (.string a0_1) := (blk_cell BK116.out 1).trans rfl; have hcz59_2 : w58.cell? ⟨gb116, 2, none⟩ = some (.slice A0_2 l0_2.length c0_2) := (blk_cell BK116.out 2).trans rfl; have hfz59_0 := blk_frozen BK116.out 0; have hfz59_1 := blk_frozen BK116.out 1; have hfz59_2 := blk_frozen BK116.out 2))
                        go_ret
                        exact ⟨by first | rfl | (simp [errW_none, errW_some] <;> rfl) | (simp [*, errW_none, errW_some] <;> rfl), by repeat (first | (with_reducible first | exact HB.out | apply below_alloc | apply pw_below_drewN | apply below_drew1 | refine below_set ?_ GE116.out) | exact HB.out)⟩
                  · rw [if_neg c50] at H
                    have c50b0 : (a0_0 == 7) = false := beq_eq_false_iff_ne.mpr c50
                    have c50b1 : (a0_0 != 7) = true := bne_iff_ne.mpr c50
                    obtain rfl := Option.some.inj H
                    go_enter Try.func75, Try.ntmps75
                    go_wp2_with (first | ((with_reducible refine gate_dst (N := 1) rfl ?_); (try (refine gate_guard (by rfl) ?_; dsimp only)); refine box_event ?hg (N := 1) ?hd (cs := #[.int .i64 a0_0, .string a0_1, .slice A0_2 l0_2.length c0_2]) (t := 42) ?hr ?_; (case hd => rfl); (case hg => rfl); (case hr => first | (go_simp; done) | (go_simp; rfl)); intro gb116 hg w60 hbox hb; have n0_ := Aside0.mk (below_step (by repeat (first | (with_reducible first | exact HB.out | apply below_alloc | apply pw_below_drewN | apply below_drew1) | exact HB.out)) hb); have n1_ := Aside0.mk (hbox); have n2_ := Aside0.mk ((by rw [hg]; exact (below_size (by repeat (first | (with_reducible first | exact HB.out | apply below_alloc | apply pw_below_drewN | apply below_drew1) | exact HB.out))) : w.heap.size ≤ gb116)); have n3_ := Aside0.mk ((by rw [hg]; exact (below_size (by repeat (first | (with_reducible first | exact HB.out | apply below_alloc | apply pw_below_drewN | apply below_drew1) | exact HB.out))) : w.heap.size ≤ gb116)); clear HB; have HB := n0_; have BK116 := n1_; have GW116 := n2_; have GE116 := n3_; clear n0_ n1_ n2_ n3_; clear hb hbox hg; have hcz61_0 : w60.cell? ⟨gb116, 0, none⟩ = some (.int .i64 a0_0) := (blk_cell BK116.out 0).trans rfl; have hcz61_1 : w60.cell? ⟨gb116, 1, none⟩ = some (.string a0_1) := (blk_cell BK116.out 1).trans rfl; have hcz61_2 : w60.cell? ⟨gb116, 2, none⟩ = some (.slice A0_2 l0_2.length c0_2) := (blk_cell BK116.out 2).trans rfl; have hfz61_0 := blk_frozen BK116.out 0; have hfz61_1 := blk_frozen BK116.out 1; have hfz61_2 := blk_frozen BK116.out 2))
                    go_ret
                    exact ⟨by first | rfl | (simp [errW_none, errW_some] <;> rfl) | (simp [*, errW_none, errW_some] <;> rfl), by repeat (first | (with_reducible first | exact HB.out | apply below_alloc | apply pw_below_drewN | apply below_drew1 | refine below_set ?_ GE116.out) | exact HB.out)⟩

/-! ### term_check: function 66 -/
section
attribute [local go_sem] Oper.semAt_some
/-- Is a term of a kind up to one, and right by itself? -/
def fineT (k : Nat) (a1 : Int) (x : S42) : Option Bool := (term_right.f k x.f0 x.f1 x.f2).map fun b => !decide (a1 < x.f0) && b
def fineAll (k : Nat) (a1 : Int) : List S42 → Option Bool
  | [] => some true
  | x :: r => (fineT k a1 x).bind fun b => (fineAll k a1 r).bind fun c => some (b && c)
def term_check.f (k : Nat) (l0 : List S42) (a1 : Int) : Option (Int) :=
  if 4000 < (flat l0).length then some 5 else (term_depth.f k l0).bind fun d => if 100 < d then some 6 else (fineAll k a1 (flat l0)).bind fun c => some (if c = true then 0 else 2)
theorem fineAll_mono (k : Nat) (a1 : Int) : ∀ l, LeO (fineAll k a1 l) (fineAll (k + 1) a1 l)
  | [] => LeO.refl _
  | x :: r => LeO.bind (LeO.map _ (term_right.mono _ _ _ k)) fun b => LeO.bind (fineAll_mono k a1 r) fun c => LeO.refl _
theorem term_check.mono : ∀ a0 a1 k, LeO (term_check.f k a0 a1) (term_check.f (k + 1) a0 a1) := by
  intro a0 a1 k
  unfold term_check.f
  exact LeO.ite (LeO.refl _) (LeO.bind (term_depth.mono _ _) fun d => LeO.ite (LeO.refl _) (LeO.bind (fineAll_mono k a1 _) fun c => LeO.refl _))
theorem fineAll_mem {k : Nat} {a1 : Int} : ∀ {l : List S42} {c : Bool}, fineAll k a1 l = some c → (∀ x ∈ l, ∃ b, fineT k a1 x = some b) ∧ (c = true ↔ ∀ x ∈ l, fineT k a1 x = some true)
  | [], c, h => by
    obtain rfl := Option.some.inj h
    simp
  | x :: r, c, h => by
    obtain ⟨b, hb, h⟩ := Option.bind_eq_some_iff.1 h
    obtain ⟨d, hd, h⟩ := Option.bind_eq_some_iff.1 h
    obtain rfl := Option.some.inj h
    obtain ⟨h1, h2⟩ := fineAll_mem hd
    constructor
    · intro y hy
      rcases List.mem_cons.1 hy with rfl | hy
      · exact ⟨b, hb⟩
      · exact h1 y hy
    · simp only [Bool.and_eq_true, h2, List.mem_cons, forall_eq_or_imp, hb, Option.some.injEq]
theorem check_results {tmps : Array Value} {B : Nat} {v : Value} {W : World} (ht : tmps.getD 4 undef = .pointer (some ⟨B, 0, none⟩)) (hc : W.cell? ⟨B, 0, none⟩ = some v) :
    (results Try.f66 tmps).run Try.prog W = .ok v W := by
  have ht' : tmps[4]?.getD undef = .pointer (some ⟨B, 0, none⟩) := by simpa using ht
  simp [results, Try.results66, ht', go_sem, hc]
/-- A return past one mark, past two: the result lies in a cell. -/
theorem check_leave1 {tmps : Array Value} {B D : Nat} {v : Value} {w W : World} {R : Ending → World → Prop} (ht : tmps.getD 4 undef = .pointer (some ⟨B, 0, none⟩)) (hb : W.heap[B]? = some (.cells #[v] 25 (0, 0))) (hB : Below w.heap.size w W)
    (hD : w.heap.size ≤ D) (hk : W.heap[D]? = some (.deferred (some []))) (hr : ∀ W', Below w.heap.size w W' → R (.returned v) W') :
    LeavesInM Fence.wide 9 Try.prog Try.f66 tmps R [{ target := .collected D, args := #[] }] .returning W := by
  have hne : B ≠ D := by intro e; subst e; rw [hb] at hk; cases hk
  have hb2 : (W.putObj D (.deferred none)).heap[B]? = some (.cells #[v] 25 (0, 0)) := (World.putObj_heap_other hne).trans hb
  refine ⟨by simp, .inl ⟨_, _, rfl, run_takeDeferred hk, ?_⟩⟩
  exact ⟨v, check_results ht ((blk_cell hb2 0).trans rfl), hr _ (putObj_below hB D _ hD hB.size)⟩
theorem check_leave2 {tmps : Array Value} {B D D2 : Nat} {v : Value} {w W : World} {R : Ending → World → Prop} (ht : tmps.getD 4 undef = .pointer (some ⟨B, 0, none⟩)) (hb : W.heap[B]? = some (.cells #[v] 25 (0, 0))) (hB : Below w.heap.size w W)
    (hD : w.heap.size ≤ D) (hk : W.heap[D]? = some (.deferred (some []))) (hD2 : w.heap.size ≤ D2) (hk2 : W.heap[D2]? = some (.deferred (some []))) (hne2 : D ≠ D2) (hr : ∀ W', Below w.heap.size w W' → R (.returned v) W') :
    LeavesInM Fence.wide 9 Try.prog Try.f66 tmps R [{ target := .collected D2, args := #[] }, { target := .collected D, args := #[] }] .returning W := by
  have hne : B ≠ D2 := by intro e; subst e; rw [hb] at hk2; cases hk2
  refine ⟨by simp, .inl ⟨_, _, rfl, run_takeDeferred hk2, ?_⟩⟩
  exact check_leave1 ht ((World.putObj_heap_other hne).trans hb) (putObj_below hB D2 _ hD2 hB.size) hD ((World.putObj_heap_other hne2).trans hk) hr
set_option maxRecDepth 100000 in
set_option maxHeartbeats 4000000 in
theorem term_check.calls (k : Nat) (A0 : Option Addr) (c0 : Nat) (l0 : List (S42)) (a1 : Int) (r : Int) (w : World) (hr0 : Kd.C k42 w A0 l0.length l0) (hc0 : l0.length ≤ c0) (h : term_check.f k l0 a1 = some r) :
    Calls Try.prog 66 #[.slice A0 l0.length c0, .int .i64 a1] w fun e w' => e = .returned (.int .i64 r) ∧ Below w.heap.size w w' := by
  have H := Aside0.mk h
  clear h
  refine calls_of_wp_marks Try.func66 rfl ?_
  simp only [Try.ntmps66, List.size_toArray, List.length_cons, List.length_nil, Nat.reduceAdd, Nat.reduceSub, Array.replicate_succ, Array.replicate_zero, List.push_toArray, List.append_toArray, List.nil_append, List.cons_append]
  go_wp2_with (go_at_call 64; refine (callsIn_wide.1 (all_in 0 A0 l0.length c0 _)).mono ?_; rintro e w' ⟨rfl, rfl⟩)
  obtain ⟨Wl, hWl⟩ : ∃ Wl, (((w.alloc (.cells #[.int .i64 a1] 3)).alloc (.cells #[.int .i64 0] 25)).alloc (.cells #[.int .i64 0] 3)).alloc (.cells #[.slice A0 l0.length c0] 22) = Wl := ⟨_, rfl⟩
  have hbl : Below w.heap.size w Wl := by rw [← hWl]; exact ((((Below.refl _ w).alloc (Nat.le_refl _) _).alloc (by simp) _).alloc (by simp; omega) _).alloc (by simp <;> omega) _
  have hszl : Wl.heap.size = w.heap.size + 4 := by rw [← hWl]; simp
  have hk0 : Wl.heap[w.heap.size]? = some (.cells #[.int .i64 a1] 3 (0, 0)) := by
    rw [← hWl]; exact (Below.heap_alloc _ _ _ (by simp; omega)).trans ((Below.heap_alloc _ _ _ (by simp; omega)).trans ((Below.heap_alloc _ _ _ (by simp)).trans (World.alloc_heap_new w _)))
  have hr1 : Wl.heap[w.heap.size + 1]? = some (.cells #[.int .i64 0] 25 (0, 0)) := by
    rw [← hWl]
    have := World.alloc_heap_new (w.alloc (.cells #[.int .i64 a1] 3)) (.cells #[.int .i64 0] 25)
    rw [World.size_alloc] at this
    exact (Below.heap_alloc _ _ _ (by simp <;> omega)).trans ((Below.heap_alloc _ _ _ (by simp <;> omega)).trans this)
  have hn2 : Wl.heap[w.heap.size + 2]? = some (.cells #[.int .i64 0] 3 (0, 0)) := by
    rw [← hWl]
    have := World.alloc_heap_new ((w.alloc (.cells #[.int .i64 a1] 3)).alloc (.cells #[.int .i64 0] 25)) (.cells #[.int .i64 0] 3)
    rw [World.size_alloc, World.size_alloc] at this
    exact (Below.heap_alloc _ _ _ (by simp)).trans this
  have hl3 : Wl.heap[w.heap.size + 3]? = some (.cells #[.slice A0 l0.length c0] 22 (0, 0)) := by
    rw [← hWl]
    have := World.alloc_heap_new (((w.alloc (.cells #[.int .i64 a1] 3)).alloc (.cells #[.int .i64 0] 25)).alloc (.cells #[.int .i64 0] 3)) (.cells #[.slice A0 l0.length c0] 22)
    rw [World.size_alloc, World.size_alloc, World.size_alloc] at this
    exact this
  rw [hWl]
  have hdd : ∀ k lp : Nat, ((Fence.wide.inRound lp).depth.isSome = true → 1 ≤ k) := fun k lp h => by simp [Fence.wide] at h
  refine range_all w hbl (w.heap.size + 3) A0 c0 l0 hr0 hc0 ((blk_cell hl3 0).trans rfl) rfl
    (fun pre W => ((Below w.heap.size w W ∧ W.heap[w.heap.size]? = some (.cells #[.int .i64 a1] 3 (0, 0))) ∧ (W.heap[w.heap.size + 1]? = some (.cells #[.int .i64 0] 25 (0, 0)) ∧ W.heap[w.heap.size + 2]? = some (.cells #[.int .i64 (pre.length : Int)] 3 (0, 0)))) ∧ pre.length ≤ 4000)
    (fun c pre W => (Below w.heap.size w W ∧ W.heap[w.heap.size + 1]? = some (.cells #[.int .i64 5] 25 (0, 0))) ∧ (c = .ret ∧ 4000 < pre.length))
    (OwnFrom.and (OwnFrom.and (OwnFrom.and (ownFrom_below (Nat.le_refl _) hbl.size) (ownFrom_blk _ _ _ _)) (OwnFrom.and (ownFrom_blk _ _ _ _) (ownFrom_blk _ _ _ _))) (ownFrom_pure _ _))
    (fun _ => OwnFrom.and (OwnFrom.and (ownFrom_below (Nat.le_refl _) hbl.size) (ownFrom_blk _ _ _ _)) (ownFrom_pure _ _))
    ⟨⟨⟨hbl, hk0⟩, hr1, by rw [hn2]; rfl⟩, by simp⟩
    (fun x => { tmps := #[.slice A0 l0.length c0, .int .i64 a1, undef, .pointer (some ⟨w.heap.size, 0, none⟩), .pointer (some ⟨w.heap.size + 1, 0, none⟩), .pointer (some ⟨w.heap.size + 2, 0, none⟩), undef, .slice A0 l0.length c0, .func (.func 101) #[] #[.pointer (some ⟨w.heap.size + 3, 0, none⟩)], .agg #[.int .i64 x.x.f0, .string x.x.f1, .slice x.A x.x.f2.length x.c], undef, undef, undef, undef, undef, undef, undef, undef, undef, undef, undef, undef, undef, undef, undef, undef, undef, undef, undef], defers := [] }) ?assign ?body ?done ?stop
  case assign =>
    intro lp x W K hK
    gi_wp2
    exact hK
  case body =>
    rintro lp pre x W ⟨⟨⟨hb, hk⟩, hr, hn⟩, hp⟩ hlen
    have hcn : W.cell? ⟨w.heap.size + 2, 0, none⟩ = some (.int .i64 (pre.length : Int)) := (blk_cell hn 0).trans rfl
    have hfn := blk_frozen hn 0
    have hcr : W.cell? ⟨w.heap.size + 1, 0, none⟩ = some (.int .i64 0) := (blk_cell hr 0).trans rfl
    have hfr := blk_frozen hr 0
    have HK := Aside0.mk hk
    have HR := Aside0.mk hr
    have HN := Aside0.mk hn
    clear hk hr hn hk0 hr1 hn2 hl3 hWl
    gi_wp2
    · have h4 : 4000 < pre.length + 1 := by omega
      refine ⟨(KeepsOthers.setCell _ _ _).trans (KeepsOthers.setCell _ _ _), ⟨(hb.setCell (p := ⟨w.heap.size + 2, 0, none⟩) (by simp) _).setCell (p := ⟨w.heap.size + 1, 0, none⟩) (by simp) _, ?_⟩, rfl, by simp; omega⟩
      exact setCell_blk ((Below.heap_setCell W ⟨w.heap.size + 2, 0, none⟩ _ (w.heap.size + 1) (by simp)).trans HR.out)
    · have h4 : pre.length + 1 ≤ 4000 := by omega
      refine ⟨KeepsOthers.setCell _ _ _, KeepC.setCell _ _ _ _ (by omega) (by omega), ⟨⟨hb.setCell (p := ⟨w.heap.size + 2, 0, none⟩) (by simp) _, (Below.heap_setCell W ⟨w.heap.size + 2, 0, none⟩ _ (w.heap.size) (by simp)).trans HK.out⟩, (Below.heap_setCell W ⟨w.heap.size + 2, 0, none⟩ _ (w.heap.size + 1) (by simp)).trans HR.out, ?_⟩, by simp; omega⟩
      rw [setCell_blk HN.out]
      simp
  case done =>
    rintro D ys W hD hys ⟨⟨⟨hb, hk⟩, hr, hn⟩, hp⟩ hkD
    have hlen : ¬ 4000 < (flat l0).length := by have := congrArg List.length hys; rw [List.length_map] at this; omega
    have h2 := H.out
    unfold term_check.f at h2
    rw [if_neg hlen] at h2
    obtain ⟨d, hd, h2⟩ := Option.bind_eq_some_iff.1 h2
    have HD := Aside0.mk hd
    have hCd : Kd.C k42 W A0 l0.length l0 := Kd.C_below hr0 hb
    have HKD := Aside0.mk hkD
    have HK := Aside0.mk hk
    have HRB := Aside0.mk hr
    have hDlt : D < W.heap.size := (Array.getElem?_eq_some_iff.1 hkD).1
    clear hys hn hk hr hkD hd hk0 hr1 hn2 hl3 hWl hlen hp H
    by_cases h100 : 100 < d
    · obtain rfl : r = 6 := by rw [if_pos h100] at h2; exact (Option.some.inj h2).symm
      have h100b : decide (100 < d) = true := by simpa using h100
      clear h2 h100
      go_wp2_with (go_at_call 65; refine (term_depth.calls k A0 c0 l0 d _ hCd hc0 HD.out).mono ?_; rintro e w3 ⟨rfl, hb3⟩; have hr3 := blk_below HRB.out hb3; have hcr3 : w3.cell? ⟨w.heap.size + 1, 0, none⟩ = some (.int .i64 0) := (blk_cell hr3 0).trans rfl; have hfr3 := blk_frozen hr3 0; have HR3 := Aside0.mk hr3; clear hr3)
      have hk3 := blk_below HKD.out hb3
      exact check_leave1 rfl (setCell_blk HR3.out) ((hb.trans (hb3.mono hb.size)).setCell (p := ⟨w.heap.size + 1, 0, none⟩) (by simp) _) (by omega) ((Below.heap_setCell w3 ⟨w.heap.size + 1, 0, none⟩ _ D (by simp; omega)).trans hk3) (fun W' hW' => ⟨rfl, hW'⟩)
    · rw [if_neg h100] at h2
      obtain ⟨cc, hcc, h2⟩ := Option.bind_eq_some_iff.1 h2
      have HCC := Aside0.mk (fineAll_mem hcc)
      have H2 := Aside0.mk (Option.some.inj h2)
      have h100b : decide (100 < d) = false := by simpa using h100
      clear h2 h100 hcc
      go_wp2_with (first
        | (go_at_call 65; refine (term_depth.calls k A0 c0 l0 d _ hCd hc0 HD.out).mono ?_; rintro e w3 ⟨rfl, hb3⟩)
        | (go_at_call 64; refine (callsIn_wide.1 (all_in 0 A0 l0.length c0 _)).mono ?_; rintro e w' ⟨rfl, rfl⟩))
      obtain ⟨w5, hw5⟩ : ∃ w5, w3.alloc (.cells #[.slice A0 l0.length c0] 22) = w5 := ⟨_, rfl⟩
      have hb35 : Below w3.heap.size w3 w5 := by rw [← hw5]; exact (Below.refl _ w3).alloc (Nat.le_refl _) _
      have hbW5 : Below W.heap.size W w5 := hb3.trans (hb35.mono hb3.size)
      have hb5 : Below w.heap.size w w5 := hb.trans (hbW5.mono hb.size)
      have hl5 : w5.heap[w3.heap.size]? = some (.cells #[.slice A0 l0.length c0] 22 (0, 0)) := by rw [← hw5]; exact World.alloc_heap_new w3 _
      have hk5 := blk_below HK.out hbW5
      have hr5 := blk_below HRB.out hbW5
      have hD5 := blk_below HKD.out hbW5
      have hDlt5 : D < w5.heap.size := Nat.lt_of_lt_of_le hDlt hbW5.size
      rw [hw5]
      refine range_allH w hb5 w3.heap.size A0 c0 l0 hr0 hc0 ((blk_cell hl5 0).trans rfl) rfl
        (fun pre W => ((Below w.heap.size w W ∧ W.heap[w.heap.size]? = some (.cells #[.int .i64 a1] 3 (0, 0))) ∧ (W.heap[w.heap.size + 1]? = some (.cells #[.int .i64 0] 25 (0, 0)) ∧ W.heap[D]? = some (.deferred (some [])) ∧ w5.heap.size ≤ W.heap.size)) ∧ ∀ y ∈ pre, fineT k a1 y.x = some true)
        (fun c pre W => ((Below w.heap.size w W ∧ W.heap[w.heap.size + 1]? = some (.cells #[.int .i64 2] 25 (0, 0))) ∧ W.heap[D]? = some (.deferred (some []))) ∧ (c = .ret ∧ ∃ y ∈ pre, fineT k a1 y.x = some false))
        (OwnFrom.and (OwnFrom.and (OwnFrom.and (ownFrom_below (Nat.le_refl _) hb5.size) (ownFrom_blk _ _ _ _)) (OwnFrom.and (ownFrom_blk _ _ _ _) (OwnFrom.and (ownFrom_old _ _ _ hDlt5) (ownFrom_size _ _)))) (ownFrom_pure _ _))
        (fun _ => OwnFrom.and (OwnFrom.and (OwnFrom.and (ownFrom_below (Nat.le_refl _) hb5.size) (ownFrom_blk _ _ _ _)) (ownFrom_old _ _ _ hDlt5)) (ownFrom_pure _ _))
        ⟨⟨⟨hb5, hk5⟩, hr5, hD5, Nat.le_refl _⟩, by simp⟩
        (fun x a' W => ∃ B, w5.heap.size ≤ B ∧ W.heap[B]? = some (.cells #[.int .i64 x.x.f0, .string x.x.f1, .slice x.A x.x.f2.length x.c] 42 (0, 0)) ∧
          a' = { tmps := #[.slice A0 l0.length c0, .int .i64 a1, undef, .pointer (some ⟨w.heap.size, 0, none⟩), .pointer (some ⟨w.heap.size + 1, 0, none⟩), .pointer (some ⟨w.heap.size + 2, 0, none⟩), .pointer (some ⟨B, 0, none⟩), .slice A0 l0.length c0, .func (.func 101) #[] #[.pointer (some ⟨w.heap.size + 3, 0, none⟩)], undef, undef, undef, undef, undef, .slice A0 l0.length c0, .int .i64 d, .bool false, .slice A0 l0.length c0, .func (.func 101) #[] #[.pointer (some ⟨w3.heap.size, 0, none⟩)], .agg #[.int .i64 x.x.f0, .string x.x.f1, .slice x.A x.x.f2.length x.c], undef, undef, undef, undef, undef, undef, undef, undef, undef], defers := [] })
        (fun x a' s W W' row hs hg hr => by
          obtain ⟨B, h1, h2, h3⟩ := hs
          exact ⟨B, h1, (grownBy_keeps_cells hg (fun r e => (hr r e).2) h2 rfl).trans h2, h3⟩) ?assign2 ?body2 ?done2 ?stop2
      case assign2 =>
        rintro lp pre x Wx K ⟨⟨⟨hbx, hkx⟩, hrx, hDx, hszx⟩, hgood⟩ hK
        have HG := Aside0.mk hgood
        have HK0 := Aside0.mk hK
        have HKX := Aside0.mk hkx
        have HRX := Aside0.mk hrx
        have HDX := Aside0.mk hDx
        clear hgood hK hkx hrx hDx hk5 hr5 hD5 hl5 hw5
        have hu42 := Try.underlying42
        gi_wp2
        have hal : Below Wx.heap.size Wx (Wx.alloc (.cells #[.int .i64 x.x.f0, .string x.x.f1, .slice x.A x.x.f2.length x.c] 42)) := (Below.refl _ Wx).alloc (Nat.le_refl _) _
        exact HK0.out _ _ (keepsFrom_below hal) (KeepC.ofBelow hal hbx.size) ⟨⟨⟨hbx.trans (hal.mono hbx.size), blk_below HKX.out hal⟩, blk_below HRX.out hal, blk_below HDX.out hal, Nat.le_trans hszx hal.size⟩, HG.out⟩
          ⟨Wx.heap.size, hszx, World.alloc_heap_new Wx _, rfl⟩
      case body2 =>
        rintro lp pre x a' Wx ⟨⟨⟨hbx, hkx⟩, hrx, hDx, hszx⟩, hgood⟩ ⟨B, hBx, hxb, rfl⟩ hlen
        obtain ⟨b, hb0⟩ := HCC.out.1 x.x x.hm
        have HB0 := Aside0.mk hb0
        obtain ⟨rb, hrb, hbe⟩ := Option.map_eq_some_iff.1 hb0
        have HBE := Aside0.mk hbe
        have HRBF := Aside0.mk hrb
        have HG := Aside0.mk hgood
        have hck : Wx.cell? ⟨w.heap.size, 0, none⟩ = some (.int .i64 a1) := (blk_cell hkx 0).trans rfl
        have hcr : Wx.cell? ⟨w.heap.size + 1, 0, none⟩ = some (.int .i64 0) := (blk_cell hrx 0).trans rfl
        have hfr := blk_frozen hrx 0
        have hx0 : Wx.cell? ⟨B, 0, none⟩ = some (.int .i64 x.x.f0) := (blk_cell hxb 0).trans rfl
        have hx1 : Wx.cell? ⟨B, 1, none⟩ = some (.string x.x.f1) := (blk_cell hxb 1).trans rfl
        have hx2 : Wx.cell? ⟨B, 2, none⟩ = some (.slice x.A x.x.f2.length x.c) := (blk_cell hxb 2).trans rfl
        have hCx : Kd.C k42 Wx x.A x.x.f2.length x.x.f2 := Kd.C_below x.hr hbx
        have HKX := Aside0.mk hkx
        have HRX := Aside0.mk hrx
        have HDX := Aside0.mk hDx
        have hu42 := Try.underlying42
        have hDltx : D < Wx.heap.size := Nat.lt_of_lt_of_le hDlt5 hszx
        clear hgood hkx hrx hDx hxb hk5 hr5 hD5 hl5 hw5 hb0 hrb hbe
        by_cases hgt : a1 < x.x.f0
        · have hgtb : decide (a1 < x.x.f0) = true := by simpa using hgt
          clear hgt
          gi_wp2
          refine ⟨trivial, ?_⟩
          gi_wp2
          refine ⟨(KeepsOthers.setCell _ _ _).from _, ⟨⟨hbx.setCell (p := ⟨w.heap.size + 1, 0, none⟩) (by simp) _, setCell_blk HRX.out⟩, (Below.heap_setCell Wx ⟨w.heap.size + 1, 0, none⟩ _ D (by simp; omega)).trans HDX.out⟩, rfl, x, by simp, ?_⟩
          rw [HB0.out, ← HBE.out, hgtb]; rfl
        · have hgtb : decide (a1 < x.x.f0) = false := by simpa using hgt
          clear hgt
          cases rb with
          | true =>
            gi_wp2_with (fail)
            refine ⟨trivial, (CallsIn.inRound lp (callsIn_wide.2 (term_right.calls k _ _ x.A x.c _ true Wx hCx x.hc HRBF.out))).mono ?_⟩
            rintro e w4 ⟨rfl, hb4⟩
            gi_wp2
            refine ⟨keepsFrom_below hb4, KeepC.ofBelow hb4 hbx.size, ⟨⟨hbx.trans (hb4.mono hbx.size), blk_below HKX.out hb4⟩, blk_below HRX.out hb4, blk_below HDX.out hb4, Nat.le_trans hszx hb4.size⟩, ?_⟩
            intro y hy
            rcases List.mem_append.1 hy with hy | hy
            · exact HG.out y hy
            · obtain rfl := List.mem_singleton.1 hy
              rw [HB0.out, ← HBE.out, hgtb]; rfl
          | false =>
            gi_wp2_with (fail)
            refine ⟨trivial, (CallsIn.inRound lp (callsIn_wide.2 (term_right.calls k _ _ x.A x.c _ false Wx hCx x.hc HRBF.out))).mono ?_⟩
            rintro e w4 ⟨rfl, hb4⟩
            have hr4 := blk_below HRX.out hb4
            have hcr4 : w4.cell? ⟨w.heap.size + 1, 0, none⟩ = some (.int .i64 0) := (blk_cell hr4 0).trans rfl
            have hfr4 := blk_frozen hr4 0
            have HR4 := Aside0.mk hr4
            clear hr4
            gi_wp2
            refine ⟨(keepsFrom_below hb4).trans ((KeepsOthers.setCell _ _ _).from _), ⟨⟨(hbx.trans (hb4.mono hbx.size)).setCell (p := ⟨w.heap.size + 1, 0, none⟩) (by simp) _, setCell_blk HR4.out⟩, (Below.heap_setCell w4 ⟨w.heap.size + 1, 0, none⟩ _ D (by simp; omega)).trans (blk_below HDX.out hb4)⟩, rfl, x, by simp, ?_⟩
            rw [HB0.out, ← HBE.out, hgtb]; rfl
      case done2 =>
        rintro D2 ys2 W2 hD2 hys2 ⟨⟨⟨hb2, hk2⟩, hr2, hDD, hsz2⟩, hgood⟩ hkD2
        have hc1 : cc = true := HCC.out.2.2 (fun t ht => by
          rw [← hys2] at ht
          obtain ⟨y, hy, rfl⟩ := List.mem_map.1 ht
          exact hgood y hy)
        obtain rfl : r = 0 := by have := H2.out; rw [if_pos hc1] at this; exact this.symm
        have hcr : W2.cell? ⟨w.heap.size + 1, 0, none⟩ = some (.int .i64 0) := (blk_cell hr2 0).trans rfl
        have hfr := blk_frozen hr2 0
        have HR2 := Aside0.mk hr2
        have HD2 := Aside0.mk hDD
        have HKD2 := Aside0.mk hkD2
        have hD2l : D2 < W2.heap.size := (Array.getElem?_eq_some_iff.1 hkD2).1
        clear hr2 hDD hkD2 hk2 hk5 hr5 hD5 hl5 hw5 hys2 hgood hc1
        go_wp2
        exact check_leave2 rfl (setCell_blk HR2.out) (hb2.setCell (p := ⟨w.heap.size + 1, 0, none⟩) (by simp) _) (by omega) ((Below.heap_setCell W2 ⟨w.heap.size + 1, 0, none⟩ _ D (by simp; omega)).trans HD2.out)
          (by omega) ((Below.heap_setCell W2 ⟨w.heap.size + 1, 0, none⟩ _ D2 (by have := hb5.size; have := hszl; simp; omega)).trans HKD2.out) (by omega) (fun W' hW' => ⟨rfl, hW'⟩)
      case stop2 =>
        rintro D2 c pre W2 hD2 hpre ⟨⟨⟨hb2, hr2⟩, hDD⟩, rfl, y, hy, hyf⟩ hkD2
        have hc1 : ¬ cc = true := fun e => by
          have := HCC.out.2.1 e y.x (hpre.subset (List.mem_map_of_mem hy))
          rw [hyf] at this
          cases this
        obtain rfl : r = 2 := by have := H2.out; rw [if_neg hc1] at this; exact this.symm
        clear hk5 hr5 hD5 hl5 hw5
        go_wp2
        exact check_leave2 rfl hr2 hb2 (by omega) hDD (by omega) hkD2 (by omega) (fun W' hW' => ⟨rfl, hW'⟩)
  case stop =>
    rintro D c pre W hD hpre ⟨⟨hb, hr⟩, rfl, hp⟩ hkD
    have hlen : 4000 < (flat l0).length := by have := hpre.length_le; rw [List.length_map] at this; omega
    obtain rfl : r = 5 := by have := H.out; unfold term_check.f at this; rw [if_pos hlen] at this; exact (Option.some.inj this).symm
    go_wp2
    exact check_leave1 rfl hr hb (by omega) hkD (fun W' hW' => ⟨rfl, hW'⟩)
end


/-! ### term_Result: function 21 -/
def term_Result.f (k : Nat) (l0 : List (S42)) : Option (Int) := (term_check.f k l0 8).bind fun t123 => (some t123)
theorem term_Result.mono : ∀ a0 k, LeO (term_Result.f k a0) (term_Result.f (k + 1) a0) := by
  intro a0 k
  unfold term_Result.f
  repeat' first
      | (with_reducible exact term_check.mono _ _ _)
      | (with_reducible exact LeO.refl _)
      | (with_reducible exact LeO.none _)
      | (with_reducible refine LeO.ite ?_ ?_)
      | (with_reducible refine LeO.bind ?_ (fun _ => ?_))
      | exact term_check.mono _ _ _
      | exact LeO.none _
      | refine LeO.ite ?_ ?_
      | refine LeO.bind ?_ (fun _ => ?_)
set_option maxHeartbeats 8000000 in
set_option maxRecDepth 100000 in
theorem term_Result.calls (k : Nat) (A0 : Option Addr) (c0 : Nat) (l0 : List (S42)) (r : Int) (w : World) (hr0 : Kd.C k42 w A0 l0.length l0) (hc0 : l0.length ≤ c0) (h : term_Result.f k l0 = some r) :
    Calls Try.prog 21 #[.slice A0 l0.length c0] w fun e w' => e = .returned (.int .i64 r) ∧ Below w.heap.size w w' := by
  have HR0 := Aside0.mk hr0
  have HC0 := Aside0.mk hc0
  clear hr0 hc0
  have HB := Aside0.mk (Below.refl w.heap.size w)
  have H : ((term_check.f k l0 8).bind fun t123 => (some t123)) = some r := h
  clear h
  replace H := Option.bind_eq_some_iff.mp H
  obtain ⟨t123, A20, H⟩ := H
  replace H : (some t123) = some r := H
  have A2 := Aside0.mk A20
  clear A20
  obtain rfl := Option.some.inj H
  go_enter Try.func21, Try.ntmps21
  go_wp2_with (first | ((with_reducible refine gate_callee (f := 66) rfl ?_); refine goesL_ (some 4) rfl rfl Try.func66 (by kernel_rfl) rfl #[.slice A0 l0.length c0, .int .i64 8] rfl (by (try simp only [List.map_toArray, List.map_cons, List.map_nil]); first | done | rfl | (simp only [List.length_drop, List.length_take]; rfl)) ?_; (with_reducible refine (term_check.calls k _ _ l0 8 t123 _ ?side1 ?side2 A2.out).mono ?_); (case side1 => repeat (first | exact HR0.out | (with_reducible refine Kd.C_alloc ?_ _) | (with_reducible refine Kd.C_drewN ?_ _) | (with_reducible refine Kd.C_drew ?_))); (case side2 => exact HC0.out); rintro e w3 ⟨rfl, hb⟩; refine ⟨_, rfl, ?_⟩; have n0_ := Aside0.mk (below_step (by repeat (first | (with_reducible first | exact HB.out | apply below_alloc | apply pw_below_drewN | apply below_drew1) | exact HB.out)) hb); clear HB; have HB := n0_; clear n0_; (try clear hb); (try clear hb2); (try clear hk); (try clear hi)))
  go_ret
  exact ⟨by first | rfl | (simp [errW_none, errW_some] <;> rfl) | (simp [*, errW_none, errW_some] <;> rfl), by repeat (first | (with_reducible first | exact HB.out | apply below_alloc | apply pw_below_drewN | apply below_drew1) | exact HB.out)⟩

/-! ### term_IsVariable: function 38 -/
def term_IsVariable.f (a0_0 : Int) (a0_1 : ByteArray) (l0_2 : List (S42)) : Option (Bool) := if a0_0 ≥ 5 then (some (decide (a0_0 ≤ 7))) else (some false)
set_option maxHeartbeats 8000000 in
set_option maxRecDepth 100000 in
theorem term_IsVariable.calls (a0_0 : Int) (a0_1 : ByteArray) (A0_2 : Option Addr) (c0_2 : Nat) (l0_2 : List (S42)) (r : Bool) (w : World) (hr0_2 : Kd.C k42 w A0_2 l0_2.length l0_2) (hc0_2 : l0_2.length ≤ c0_2) (h : term_IsVariable.f a0_0 a0_1 l0_2 = some r) :
    Calls Try.prog 38 #[.agg #[.int .i64 a0_0, .string a0_1, .slice A0_2 l0_2.length c0_2]] w fun e w' => e = .returned (.bool r) ∧ Below w.heap.size w w' := by
  have hu42 := Try.underlying42
  have HR0_2 := Aside0.mk hr0_2
  have HC0_2 := Aside0.mk hc0_2
  clear hr0_2 hc0_2
  have HB := Aside0.mk (Below.refl w.heap.size w)
  have H : (if a0_0 ≥ 5 then (some (decide (a0_0 ≤ 7))) else (some false)) = some r := h
  clear h
  by_cases c2 : a0_0 ≥ 5
  · rw [if_pos c2] at H
    have c2b0 : decide (5 ≤ a0_0) = true := decide_eq_true c2
    clear c2
    obtain rfl := Option.some.inj H
    go_enter Try.func38, Try.ntmps38
    go_wp2_with (first | ((with_reducible refine gate_dst (N := 1) rfl ?_); refine box_event ?hg (N := 1) ?hd (cs := #[.int .i64 a0_0, .string a0_1, .slice A0_2 l0_2.length c0_2]) (t := 42) ?hr ?_; (case hd => rfl); (case hg => rfl); (case hr => first | (go_simp; done) | (go_simp; rfl)); intro gb124 hg w3 hbox hb; have n0_ := Aside0.mk (below_step (by repeat (first | (with_reducible first | exact HB.out | apply below_alloc | apply pw_below_drewN | apply below_drew1) | exact HB.out)) hb); have n1_ := Aside0.mk (hbox); have n2_ := Aside0.mk ((by rw [hg]; exact (below_size (by repeat (first | (with_reducible first | exact HB.out | apply below_alloc | apply pw_below_drewN | apply below_drew1) | exact HB.out))) : w.heap.size ≤ gb124)); have n3_ := Aside0.mk ((by rw [hg]; exact (below_size (by repeat (first | (with_reducible first | exact HB.out | apply below_alloc | apply pw_below_drewN | apply below_drew1) | exact HB.out))) : w.heap.size ≤ gb124)); clear HB; have HB := n0_; have BK124 := n1_; have GW124 := n2_; have GE124 := n3_; clear n0_ n1_ n2_ n3_; clear hb hbox hg; have hcz4_0 : w3.cell? ⟨gb124, 0, none⟩ = some (.int .i64 a0_0) := (blk_cell BK124.out 0).trans rfl; have hcz4_1 : w3.cell? ⟨gb124, 1, none⟩ = some (.string a0_1) := (blk_cell BK124.out 1).trans rfl; have hcz4_2 : w3.cell? ⟨gb124, 2, none⟩ = some (.slice A0_2 l0_2.length c0_2) := (blk_cell BK124.out 2).trans rfl; have hfz4_0 := blk_frozen BK124.out 0; have hfz4_1 := blk_frozen BK124.out 1; have hfz4_2 := blk_frozen BK124.out 2))
    go_ret
    exact ⟨by first | rfl | (simp [errW_none, errW_some] <;> rfl) | (simp [*, errW_none, errW_some] <;> rfl), by repeat (first | (with_reducible first | exact HB.out | apply below_alloc | apply pw_below_drewN | apply below_drew1 | refine below_set ?_ GE124.out) | exact HB.out)⟩
  · rw [if_neg c2] at H
    have c2b0 : decide (5 ≤ a0_0) = false := decide_eq_false c2
    clear c2
    obtain rfl := Option.some.inj H
    go_enter Try.func38, Try.ntmps38
    go_wp2_with (first | ((with_reducible refine gate_dst (N := 1) rfl ?_); refine box_event ?hg (N := 1) ?hd (cs := #[.int .i64 a0_0, .string a0_1, .slice A0_2 l0_2.length c0_2]) (t := 42) ?hr ?_; (case hd => rfl); (case hg => rfl); (case hr => first | (go_simp; done) | (go_simp; rfl)); intro gb124 hg w5 hbox hb; have n0_ := Aside0.mk (below_step (by repeat (first | (with_reducible first | exact HB.out | apply below_alloc | apply pw_below_drewN | apply below_drew1) | exact HB.out)) hb); have n1_ := Aside0.mk (hbox); have n2_ := Aside0.mk ((by rw [hg]; exact (below_size (by repeat (first | (with_reducible first | exact HB.out | apply below_alloc | apply pw_below_drewN | apply below_drew1) | exact HB.out))) : w.heap.size ≤ gb124)); have n3_ := Aside0.mk ((by rw [hg]; exact (below_size (by repeat (first | (with_reducible first | exact HB.out | apply below_alloc | apply pw_below_drewN | apply below_drew1) | exact HB.out))) : w.heap.size ≤ gb124)); clear HB; have HB := n0_; have BK124 := n1_; have GW124 := n2_; have GE124 := n3_; clear n0_ n1_ n2_ n3_; clear hb hbox hg; have hcz6_0 : w5.cell? ⟨gb124, 0, none⟩ = some (.int .i64 a0_0) := (blk_cell BK124.out 0).trans rfl; have hcz6_1 : w5.cell? ⟨gb124, 1, none⟩ = some (.string a0_1) := (blk_cell BK124.out 1).trans rfl; have hcz6_2 : w5.cell? ⟨gb124, 2, none⟩ = some (.slice A0_2 l0_2.length c0_2) := (blk_cell BK124.out 2).trans rfl; have hfz6_0 := blk_frozen BK124.out 0; have hfz6_1 := blk_frozen BK124.out 1; have hfz6_2 := blk_frozen BK124.out 2))
    go_ret
    exact ⟨by first | rfl | (simp [errW_none, errW_some] <;> rfl) | (simp [*, errW_none, errW_some] <;> rfl), by repeat (first | (with_reducible first | exact HB.out | apply below_alloc | apply pw_below_drewN | apply below_drew1 | refine below_set ?_ GE124.out) | exact HB.out)⟩

-- NOT PRINTED: function 40 (term_Name)

-- NOT PRINTED: function 129 (abi_NoEscape)

-- NOT PRINTED: function 110 (strings_Builder_copyCheck)

-- NOT PRINTED: function 76 (strings_Builder_WriteString)

-- NOT PRINTED: function 82 (strings_Builder_WriteByte)

-- NOT PRINTED: function 83 (term_escape)

-- NOT PRINTED: function 56 (term_write)

-- NOT PRINTED: function 57 (strings_Builder_Len)

-- NOT PRINTED: function 58 (strings_Builder_String)

-- NOT PRINTED: function 12 (term_Text)

end Go.Proofs.Ytdbjjaodkapikaa.TE
